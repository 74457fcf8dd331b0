/- Part 15 of what the law FnParts needs. -/
import Derived.Test.YtjinkcmkgnofjaaGreatDoorFnPartsPn
import Derived.Recover
import Derived.Tactics2
import Derived.Laws.Pointers
set_option linter.all false
set_option maxRecDepth 100000
set_option maxHeartbeats 8000000
namespace Go.Proofs.YtjinkcmkgnofjaaGreatDoor
open Go.RowKit
def z5d(g:Int)(w:Wo):(Instr.typeAssert (.iface 147 (.agg #[I g])) 20 147 true).run Tryz.prog w=.ok (.tuple #[.agg #[I g],.bool true]) w:=Qk
def zt7(p:Addr)(x:Bool)(g:Int)(CB6:List PanicEntry)(w:Wo)(hc:w.cell? p=some (.bool x))(hz:w.frozen? p=false) :
  CallsD Tryz.prog X5 #[.pointer (some p)] (.panicking ({ v:=.iface 147 (.agg #[I g]),recovered:=false }::CB6)) w λe u' w'=>
   e=.returned (.tuple #[])/\u'=.panicking ({ v:=.iface 147 (.agg #[I g]),recovered:=true }::CB6)/\w'=w.setCell p (.bool true):=by
 have ht:=z5d g;refine callsD_of_wpS Tryz.func133 rfl λc₀ cs hu=>?_
 apply wpS_seq
 apply wpS_region
 simp[wpOpsS,go_sem,recoverD,hu,Tryz.ntmps133,Exit.thenS]
 apply wpS_seq
 apply wpS_region
 simp[wpOpsS,go_sem,recoverD,hu,Tryz.ntmps133,Exit.thenS];refine wpS_cond (t:=true) (by simp[Act.eval,Array.replicate]) ?_;simp only[if_true]
 apply wpS_seq
 apply wpS_region
 simp[wpOpsS,go_sem,hc,hz,ht,Exit.thenS,Array.replicate]
 apply wpS_seq
 apply wpS_region
 simp[wpOpsS,go_sem,hc,hz,ht,Exit.thenS,Array.replicate];refine wpS_cond (t:=false) (by simp[Act.eval,Array.replicate]) ?_;simp only[Bool.false_eq_true,if_false];refine wpS_of_wp (wp_skip ?_);cases c₀
 simp_all [bodyPostS,results,Tryz.results133]
def zw3(p:Addr)(w:Wo) :
  CallsD Tryz.prog X5 #[.pointer (some p)] .returning w λe u' w'=>e=.returned (.tuple #[])/\u'=.returning/\w'=w:=by
 refine callsD_of_wpS Tryz.func133 rfl λc₀ cs hu=>?_
 apply wpS_seq
 apply wpS_region
 simp[wpOpsS,go_sem,recoverD,hu,Tryz.ntmps133,Exit.thenS]
 apply wpS_seq
 apply wpS_region
 simp[wpOpsS,go_sem,recoverD,hu,Tryz.ntmps133,Exit.thenS];refine wpS_cond (t:=false) (by simp[Act.eval,Array.replicate]) ?_;simp only[Bool.false_eq_true,if_false];refine wpS_of_wp (wp_skip ?_);cases c₀
 simp_all [bodyPostS,results,Tryz.results133]
def zkt{P:Program}{f:FuncId}{fn:Func}{body:Code}{n:Nat}{args:List Va}{w:Wo}{R:Ending->Wo->Prop}(hf:P.funcs[f]? = some fn)(hb:fn.body=some body)(hn:fn.ntmps=n)(hl:args.length<=n)(h:∀a:Act,a.tmps.size=n->(∀(i:Nat) v,args[i]? = some v->a.tmps.getD i undef=v)->a.defers=[]->body.wpIn (M7 none) 0 P (bodyPostD P fn R) a w):Calls P f args.toArray w R:=by
 refine calls_of_wp_defers hf hb (wpIn_wide (n:=0).1 (h _ ?_ ?_ rfl))
 ·simp[hn];omega
 ·intro i v hv;rw[Array.getD_eq_getD_getElem?,Array.getElem?_append_left (by simpa using (I8.1 hv).1)];simp[hv]
noncomputable def zmp:Code:=Po Tryz.f89
noncomputable def zro:Code:=cL (cR zmp)
noncomputable def zrn:Code:=cR (cR (cB (cL (cR (cO (cB (cR (cL (cR (cR zmp))))))))))
def zo9:zmp=.seq XO (.seq zro (.seq (.seq XP (.block 0 (.loop (.seq J4 (.seq (.block 1 (zzi YP zrn)) YQ))))) YD)):=Qk
def zne(b:Nat):Deferred:={ target:=.fn (.func X5) #[.pointer (some ⟨b,0,none⟩)],args:=#[] }
def zv1{Q:Exit->Act->Wo->Prop}{a:Act}{w:Wo}{b:Nat}(hn:a.tmps.size=52)(h4:a.tmps.getD 4 undef=.pointer (some ⟨b,0,none⟩))(h:∀a':Act,a'.tmps.size=52->a'.defers=zne b::a.defers->(∀i,i≠7->a'.tmps.getD i undef=a.tmps.getD i undef)->Q .normal a' w):zro.wpIn (M7 none) 0 Tryz.prog Q a w:=by
 have hmf:∀(fn:Fn) (first cap:Array Va) (w:Wo),(Instr.makeFunc fn first cap).run Tryz.prog w=.ok (.func fn first cap) w:=λ_ _ _ _=>rfl
 show Code.wpIn Fence.wide 0 Tryz.prog zro Q a w;refine wpIn_wide.2 (wp_region (id:=1) ?_);simp[wpOps,go_sem,hmf,hn];have h4':a.tmps[4]=.pointer (some ⟨b,0,none⟩):=by simpa[Array.getD,hn] using h4
 refine .inl (.inl ?_);rw[h4'];exact h _ (by simp[hn]) rfl λi hi=>TH (Ne.symm hi)
def zv0{Q:Exit->Act->Wo->Prop}{a:Act}{w:Wo}{d:Bool}{g:Int}(hn:a.tmps.size=52)(h48:a.tmps.getD 48 undef=.bool d)(h5:a.tmps.getD 5 undef=I g)(h0:d=false->Q .normal a w)(h1:d->∀a':Act,a'.tmps.size=52->a'.defers=a.defers->(∀i,i<49->a'.tmps.getD i undef=a.tmps.getD i undef)->Q (.panic [{ v:=.iface 147 (.agg #[I g]),recovered:=false }]) a' w):zrn.wpIn (M7 none) 0 Tryz.prog Q a w:=by
 show Code.wpIn Fence.wide 0 Tryz.prog zrn Q a w;have Ct2:a.tmps[48]=.bool d:=by simpa[Array.getD,hn] using h48
 have h5':a.tmps[5]=I g:=by simpa[Array.getD,hn] using h5
 refine wpIn_wide.2 (wp_cond (t:=d) (by simp[Act.eval,hn,Ct2]) ?_)
 cases d with
 |false=>exact wp_skip (h0 rfl)
 |true=>
  simp only[if_true];refine wp_region (id:=7) ?_;have hp:(Instr.panic (.iface 147 (.agg #[I g]))).run Tryz.prog w=.halt (.panic (.iface 147 (.agg #[I g]))) w:=rfl;simp[wpOps,go_sem,hn,h5',hp]
  repeat refine Or.inl ?_
  exact h1 rfl _ (by simp[hn]) rfl λi hi=>by
   show (((a.tmps.setIfInBounds 49 _).setIfInBounds 50 _).setIfInBounds 51 _).getD i undef=_;rw[TH Qo,TH Qo,TH Qo]
def zz2:TT zwc ZA=some ⟨false,[.bool],.bool⟩:=Qk
def DU{fn:Func}{p:Tmp}(h:fn.results=#[.cell p ZA]){tmps:Array Va}{b:Nat}{n:Bool}{w:Wo}{t:TypeId}(hp:tmps.getD p undef=.pointer (some ⟨b,0,none⟩))(hb:w.heap[b]? = some (.cells ([.bool n]:List Va).toArray t (0,0))) :
  (results fn tmps).run Tryz.prog w=.ok (.bool n) w:=by
 have hl:=VV z7z zz2 (vs:=[.bool n]) (v:=.bool n) rfl rfl (a:=⟨b,0,none⟩) (w:=w) (λj x hx=>by rw[Addr.add_lit,Ti hb];simpa using hx);have hp':tmps[p]?.getD undef=.pointer (some ⟨b,0,none⟩):=by simpa using hp
 simp[results,h,hp',asAddr,hl]
def zz4{K c:Int}{V:Q7}(sw:SW K V):DW c [0] V=(V,true):=by
 obtain⟨_,_,hg⟩:=sw.a.u sw.a.root;have:K5 V c 0=(V,true):=by unfold K5;rw[C' (hg.root rfl).2.2]
 rw[Bx,this,C' rfl];rfl
section
variable {base pb:Nat}{W:Q7}{m:MW}{w:Wo}
def Mp.far{w0 w':Wo}{m0:MW}{b1:Nat}(h:Mp base pb [] w0 m0 w W m)(hx:Q0 [b1] w w')(hb:w0.heap.size<=b1)(hn:b1∉QM 8 m)(hp:b1≠pb):Mp base pb [] w0 m0 w' W m:=
 ⟨⟨h.own.ext hx fun x hx hm => hn (by have:x=b1:=by simpa using hm
                                      exact this ▸ hx), h.v.ext.fresh hx fun x hm => .inl (by have:x=b1:=by simpa using hm
                                                                                              omega),h.v.sub,h.v.hd,Qs,Qs⟩,QP h.pt hx (by simpa using Ne.symm hp),h.pn,Qs⟩
structure z7p (K:Int) (base pb b b1:Nat) (c:Int) (w0:Wo) (m:MW) (W:Q7) (t:Int) (a:Act) (w2:Wo) (g:Int) (V:Q7):Prop where
 sz:a.tmps.size=52
 df:a.defers=[zne b1]
 a2:a.tmps.getD 2 undef=.pointer (some ⟨b,0,none⟩)
 a4:a.tmps.getD 4 undef=.pointer (some ⟨b1,0,none⟩)
 a5:a.tmps.getD 5 undef=I g
 bx:w2.heap[b]? = some (.cells ([.pointer (pA pb),I c]:List Va).toArray TV (0,0))
 dr:w2.heap[b1]? = some (.cells ([.bool false]:List Va).toArray ZA (0,0))
 nb:b∉QM 8 m
 nd:b1∉QM 8 m
 nw:w0.heap.size<=b1
 mp:Mp base pb [] w0 m w2 V m
 sw:SW K V
 o:UY W V
 u:Q6 V.IE g=true
 e:DW c (QV W t) W=DW c (QR V.IE g++[0]) V
 wet:∀x∈QR V.IE g,(gi V.IE x).IL.I'≠0->gi (gi V.IE x).IL.Ry c=false
def L5{K c t:Int}(h:PW base pb w W m)(sw:SW K W)(c0:0<=c)(c1:c<(W.IF.length:Int))(t0:0<=t)(t1:t<12)(hu:Q6 W.IE (Q8 W t).II)(hd:∀g∈QV W t,(gi W.IE g).IL.I'≠0->gi (gi W.IE g).IL.Ry c=false) :
  Cz VK #[.agg #[.pointer (pA pb),.int .i64 c],.int .i64 t] w λe w'=>e=.returned (.bool (!(DW c (QV W t) W).2))/\Mp base pb [] w m w' (DW c (QV W t) W).1 m:=by
 have hM:=Mp.start h;have jF:=sw.a.t;refine zkt (args:=[.agg #[.pointer (pA pb),.int .i64 c],.int .i64 t]) (n:=52) Tryz.func89 (body:=zmp) rfl Qk Qs λa hn ha hd0=>?_
 rw[zo9];have a0:=ha 0 _ rfl;have a1:=ha 1 _ rfl;refine wpIn_seq (Gx none (pA pb) c (R:=λe vs w1=>e=.normal/\∃b b1:Nat,vs=[.pointer (some ⟨b,0,none⟩),.pointer (some ⟨b1,0,none⟩)]/\w.heap.size<=b/\w.heap.size<=b1/\w1.heap[b]? = some (.cells ([.pointer (pA pb),.int .i64 c]:List Va).toArray TV (0,0))/\w1.heap[b1]? = some (.cells ([.bool false]:List Va).toArray ZA (0,0))/\Q0 [] w w1) hn (λp hp=>?_) ?_ λe vs a1' w1 hR fo=>?_)
 ·simp only[Ii,List.not_mem_nil,or_false] at hp;subst hp;exact⟨Ik rfl,a0⟩
 ·intro b wb hx hb0 WO _ b1 wb1 S9 bY CF8 _ wr Rk;exact⟨rfl,b,b1,rfl,hb0,IB hx.size bY,QP (QP WO S9 Qs) Rk Qs,QP CF8 Rk Qs,(hx.trans S9).trans Rk⟩
 obtain⟨rfl,b,b1,rfl,hb,bY,hcb,hcd,hX1⟩:=hR;have oo:=fo.out;simp only[List.map_cons,List.map_nil,I4,and_true] at oo;have o1:a1'.tmps.getD 1 undef=.int .i64 t:=(fo.kept 1 (by decide +kernel)).trans a1;refine wpIn_seq (zv1 (b:=b1) (by rw[fo.size,hn]) oo.2 λa2 hn2 Cw4 uF=>?_);have hdf:a2.defers=[zne b1]:=by rw[Cw4,fo.defers,hd0]
 have q1:a2.tmps.getD 1 undef=.int .i64 t:=(uF 1 Qd).trans o1;have q2:a2.tmps.getD 2 undef=.pointer (some ⟨b,0,none⟩):=(uF 2 Qd).trans oo.1;have q4:a2.tmps.getD 4 undef=.pointer (some ⟨b1,0,none⟩):=(uF 4 Qd).trans oo.2;have hM1:=hM.nil hX1;have hbn:b∉QM 8 m:=λhm=>by have:=(h.own.lt b hm).2;omega
 have Bc2:b1∉QM 8 m:=λhm=>by have:=(h.own.lt b1 hm).2;omega
 have B09:∀{w2:Wo},w2.heap[b]? = some (.cells ([.pointer (pA pb),.int .i64 c]:List Va).toArray TV (0,0))->Q1 [] w2 (some ⟨b,0,none⟩) 0 [.pointer (pA pb)]/\Q1 [] w2 (some ⟨b,0,none⟩) 1 [.int .i64 c]:=λhc=>
  ⟨VE hc Qs (k0:=0) λj v hj=>by rcases j with _|j <;> simp at hj ⊢ <;> exact hj,VE hc Qs (k0:=0) λj v hj=>by rcases j with _|j <;> simp at hj ⊢ <;> exact hj⟩
 refine wpIn_seq (wpIn_seq (Gz none t (some ⟨b,0,none⟩) (R:=λe vs w2=>e=.normal/\vs=[.int .i64 (Q8 W t).II]/\Q0 [] w1 w2) hn2 (λp hp=>?_) ?_ λe vs a3 w3 hR fo3=>?_))
 ·simp only[Ii,List.not_mem_nil,or_false] at hp;rcases hp with rfl|rfl
  ·exact⟨Ik rfl,q1⟩
  ·exact⟨Ik rfl,q2⟩
 ·have hp:=hM1.wpt;exact⟨rfl,_,(B09 hcb).1,hp.some,_,_,_,hp.IJ,hp.rd.t.ix QT t0 Qo,_,hp.rd.t.f t0 Qo (j:=1) rfl,λwr hx=>⟨rfl,rfl,hx⟩⟩
 obtain⟨rfl,rfl,hX3⟩:=hR;have o5:=fo3.out;simp only[List.map_cons,List.map_nil,I4,and_true] at o5;have DD1:QR W.IE (Q8 W t).II++[0]=QV W t:=rfl
 refine wpIn_block (Gc (I:=λk a2 w2=>∃g V,k=(dep 3 W.IE g).toNat/\z7p K base pb b b1 c w m W t a2 w2 g V)
  ⟨(Q8 W t).II,W,rfl,⟨by rw[fo3.size,hn2],by rw[fo3.defers,hdf],(fo3.kept 2 (by decide +kernel)).trans q2,(fo3.kept 4 (by decide +kernel)).trans q4,o5,QP hcb hX3 Qs,QP hcd hX3 Qs,hbn,Bc2,bY,hM1.nil hX3,sw,UY.refl _,hu,rfl,λx hx=>hd x (Ia _ hx)⟩⟩ ?_)
 rintro k a4 w4 ⟨g,V,rfl,hS⟩;refine wpIn_seq (H7 none g (R:=λe vs w5=>(g≠0/\e=.normal\/g=0/\e=.exit 0)/\Q0 [] w4 w5) hS.sz (λp hp=>?_) ⟨λg1 wr hx=>⟨.inl ⟨by simpa using g1,rfl⟩,hx⟩,λg1 wr hx=>⟨.inr ⟨by simpa using g1,rfl⟩,hx⟩⟩ λe vs a5 w5 hR fo5=>?_)
 ·simp only[Ii,List.not_mem_nil,or_false] at hp;subst hp;exact⟨Ik rfl,hS.a5⟩
 obtain⟨hE,hX5⟩:=hR;have jY:z7p K base pb b b1 c w m W t a5 w5 g V:=⟨by rw[fo5.size,hS.sz],by rw[fo5.defers,hS.df],(fo5.kept 2 (by decide +kernel)).trans hS.a2,(fo5.kept 4 (by decide +kernel)).trans hS.a4,(fo5.kept 5 (by decide +kernel)).trans hS.a5,QP hS.bx hX5 Qs,QP hS.dr hX5 Qs,hbn,Bc2,bY,hS.mp.nil hX5,hS.sw,hS.o,hS.u,hS.e,hS.wet⟩;clear hS fo5;rcases hE with ⟨hz,rfl⟩|⟨hz,rfl⟩
 ·
  obtain⟨u0,u1,hgg⟩:=jY.sw.a.u jY.u;have bU:=jY.sw.a.gl;have Rh:g<(V.IE.length:Int):=Qo;have hcV:c<(V.IF.length:Int):=by rw[jY.o.c];exact c1
  obtain⟨hup,_,_,d,hd1,hd2,_⟩:=Y0 jY.sw.a.tree jY.u hz;have hps:=Yq jY.sw.a.tree jY.u hz;have CJ6:=jY.wet;have hE:=jY.e;rw[hps] at CJ6 hE;rw[List.cons_append,Bx] at hE;obtain⟨tk,tk2,_⟩:=zmr jY.sw c0 hcV jY.u (CJ6 g I9);have hp:=jY.mp.wpt;refine wpIn_seq (wpIn_block (Gw none (some ⟨b,0,none⟩) g (R:=λe vs w6=>e=.normal/\vs=[.bool (!(K5 V c g).2)]/\Mp base pb [] w m w6 (K5 V c g).1 m/\w6.heap[b]? = some (.cells ([.pointer (pA pb),.int .i64 c]:List Va).toArray TV (0,0))/\w6.heap[b1]? = some (.cells ([.bool false]:List Va).toArray ZA (0,0))) jY.sz (λp hp=>?_) ?_ ?_ (λe vs a6 w6 cU hR _=>Ir hR.1 cU)))
  ·simp only[Ii,List.not_mem_nil,or_false] at hp;rcases hp with rfl|rfl
   ·exact⟨Ik rfl,jY.a2⟩
   ·exact⟨Ik rfl,jY.a5⟩
  ·refine⟨rfl,_,(B09 jY.bx).1,hp.some,_,_,_,hp.IE,hp.rd.g.ix u0 Rh,_,hp.rd.g.quo u0 Rh,λ_=>rfl,c,λ_=>(B09 jY.bx).2,λgq wr hx _=>?_,λgq wr hx=>?_⟩
   ·have gq:(gi V.IE g).IL.I'>0:=Ot gq;have hq0:(gi V.IE g).IL.I'≠0:=Qo;obtain⟨qS,vI,_⟩:=hgg.IL hq0;have nM:=jY.mp.nil hx;have Bp7:Zp 8 base wr (RF V g (gi V.IE g).IL) m:=by rw[G6 u0 Rh];exact nM.own
    have qT:c<((gi V.IE g).IL.locals.length:Int):=Qo;refine I3 (Nu (op:=⟨1,c,0⟩) Bp7 u0 u1 qS) ?_;rintro e1 dX ⟨kB,hB,hX⟩;rw[zw1 c0 qT] at kB hB;have hT:K5 V c g=(RF V g (ZL (gi V.IE g).IL c).1,decide ((ZL (gi V.IE g).IL c).2≠2)):=by unfold K5;rw[B' hq0]
    refine⟨_,kB,Xm,λR5 S9=>⟨rfl,?_,?_,?_,?_⟩⟩
    ·rw[hT,Ih gq]
     by_cases h2:(ZL (gi V.IE g).IL c).2=2 <;> simp[h2]
    ·rw[hT];exact(nM.Ss hB hX (U4 (HT u0 Rh).fr)).nil S9
    ·exact QP (QP (QP jY.bx hx Qs) hX hbn) S9 Qs
    ·exact QP (QP (QP jY.dr hx Qs) hX Bc2) S9 Qs
   ·have gq:¬(gi V.IE g).IL.I'>0:=λh=>gq (Ih h)
    have hq0:(gi V.IE g).IL.I'=0:=Iq λhn=>by have:=(hgg.IL hn).1.q1;omega
    have hT:K5 V c g=(V,true):=by unfold K5;rw[C' hq0]
    refine⟨rfl,?_,?_,QP jY.bx hx Qs,QP jY.dr hx Qs⟩
    ·rw[hT];rfl
    ·rw[hT];exact jY.mp.nil hx
  rintro vs a6 w6 ⟨_,rfl,jX,hb6,hd6⟩ fo6;have o48:=fo6.out;simp only[List.map_cons,List.map_nil,I4,and_true] at o48;have s6:a6.tmps.size=52:=by rw[fo6.size,jY.sz]
  have k2:=(fo6.kept 2 (by decide +kernel)).trans jY.a2;have k4:=(fo6.kept 4 (by decide +kernel)).trans jY.a4;have k5:=(fo6.kept 5 (by decide +kernel)).trans jY.a5;have d6:a6.defers=[zne b1]:=by rw[fo6.defers,jY.df]
  refine zv0 s6 o48 k5 (λhf=>?_) (λhf a7 s7 hd7 hk7=>?_)
  ·have ht:(K5 V c g).2:=by simpa using hf
   rw[C' ht] at hE;show YQ.wpIn (M7 none) 0 Tryz.prog _ a6 w6;have hp6:=jX.wpt;have DU4:(K5 V c g).1.IE.length=8:=tk.sw.a.gl;refine Gy none (some ⟨b,0,none⟩) g (R:=λe vs w7=>e=.normal/\vs=[.int .i64 (gi (K5 V c g).1.IE g).IG]/\Q0 [] w6 w7) s6 (λp hp=>?_) ⟨rfl,_,(B09 hb6).1,hp6.some,_,_,_,hp6.IE,hp6.rd.g.ix u0 Qo,_,hp6.rd.g.IG u0 Qo,λwr hx=>⟨rfl,rfl,hx⟩⟩ λe vs a7 w7 hR fo7=>?_
   ·simp only[Ii,List.not_mem_nil,or_false] at hp;rcases hp with rfl|rfl
    ·exact⟨Ik rfl,k2⟩
    ·exact⟨Ik rfl,k5⟩
   obtain⟨rfl,rfl,hX7⟩:=hR;have o5:=fo7.out;simp only[List.map_cons,List.map_nil,I4,and_true] at o5;rw[tk.o.g.p] at o5;have hpq:QR (K5 V c g).1.IE (gi V.IE g).IG=QR V.IE (gi V.IE g).IG:=Jc tk.o.g _;refine⟨_,?_,(gi V.IE g).IG,(K5 V c g).1,rfl,⟨by rw[fo7.size,s6],by rw[fo7.defers,d6],(fo7.kept 2 (by decide +kernel)).trans k2,(fo7.kept 4 (by decide +kernel)).trans k4,o5,QP hb6 hX7 Qs,QP hd6 hX7 Qs,hbn,Bc2,bY,jX.nil hX7,tk.sw,jY.o.trans tk.o,by rw[tk.o.g.aO];exact hup,by rw[hpq];exact hE,λx hx hq=>?_⟩⟩
   ·rw[jY.o.g.dep] at hd1 hd2;rw[hd1,hd2];omega
   ·rw[hpq] at hx;have x0:=(Q2.1 (Yv jY.sw.a.tree _ hup x hx).1).1;rw[tk.q x x0] at hq;exact(tk2 ht).2 x x0 (CJ6 x (I1 _ hx)) hq
  ·have ht:¬(K5 V c g).2:=by simpa using hf
   rw[B' ht] at hE;show Leaves _ _ a7.tmps _ a7.defers (.panicking [_]) w6;rw[hd7,d6];refine leaves_cons (f:=X5) (args:=#[.pointer (some ⟨b1,0,none⟩)]) Qs (by simp[go_sem];rfl) ((zt7 ⟨b1,0,none⟩ false g [] _ (by rw[Ti hd6];rfl) (by simp[World.frozen?,hd6])).mono ?_);rintro e u' kA ⟨rfl,rfl,rfl⟩
   have hb9:(w6.setCell ⟨b1,0,none⟩ (.bool true)).heap[b1]? = some (.cells ([.bool true]:List Va).toArray ZA (0,0)):=by
    have:=Kg (k:=0) (n:=0) (vs:=[.bool true]) hd6;exact this
   refine⟨.bool true,DU Qk ((hk7 4 Qd).trans k4) hb9,?_,?_⟩
   ·rw[hE];rfl
   ·rw[hE];exact jX.far ((Q0.refl [] w6).of_nil.setCell (p:=⟨b1,0,none⟩) (.inr Qs) _) bY Bc2 (by have:=V3 h.pt;omega)
 ·
  subst hz;have hE:=jY.e;rw[show QR V.IE 0=[] from Zh _ _,List.nil_append,zz4 jY.sw] at hE;show YD.wpIn (M7 none) 0 Tryz.prog _ a5 w5;refine LI none (some ⟨b1,0,none⟩) (R:=λe vs w6=>e=.ret/\Q0 [b1] w5 w6/\w6.heap[b1]? = some (.cells ([.bool false]:List Va).toArray ZA (0,0))) jY.sz (λp hp=>?_) ⟨BD (k0:=0) jY.dr Qs Qs,λwr hx=>⟨rfl,?_,?_⟩⟩ λe vs a6 w6 hR fo6=>?_
  ·simp only[Ii,List.not_mem_nil,or_false] at hp;subst hp;exact⟨Ik rfl,jY.a4⟩
  ·have e1:Q0 [b1] w5 (Rw w5 (some ⟨b1,0,none⟩) 0 [.bool false]):=TR (bs:=[b1]) Qs;exact e1.trans hx.of_nil
  ·exact QP (Kg (vs:=[.bool false]) (n:=0) jY.dr) hx Qs
  obtain⟨rfl,hX6,hd6⟩:=hR;have d6:a6.defers=[zne b1]:=by rw[fo6.defers,jY.df]
  show Leaves _ _ a6.tmps _ a6.defers .returning w6;rw[d6];refine leaves_cons (f:=X5) (args:=#[.pointer (some ⟨b1,0,none⟩)]) Qs (by simp[go_sem];rfl) ((zw3 ⟨b1,0,none⟩ _).mono ?_);rintro e u' kA ⟨rfl,rfl,rfl⟩;refine⟨.bool false,DU Qk ((fo6.kept 4 (by decide +kernel)).trans jY.a4) hd6,?_,?_⟩
  ·rw[hE];rfl
  ·rw[hE];exact jY.mp.far hX6 bY Bc2 (by have:=V3 h.pt;omega)
end
def zx4(W:Q7)(i:Int):Va:=.iface XK (.agg (I i::Xc (Q8 W i)).toArray)
def zup(W:Q7)(c:Int)(i:Int):Va:=.iface Jd (.agg (I i::T9 (Qa W i c)).toArray)
def zi1(W:Q7)(c:Int)(i:Nat):Va:=if i<12 then zx4 W (i:Int) else zup W c ((i-12:Nat):Int)
def zla(W:Q7)(c:Int):Option Nat->List Va
 |none=>[.nilIface]
 |some i=>[zi1 W c i]
def zxp(W:Q7)(c:Int)(x:Option Nat):(zla W c x).length=1:=by cases x <;> rfl
def z4d(W:Q7)(c:Int)(x:Option Nat):∃v r,zla W c x=v::r:=by cases x <;> exact⟨_,_,rfl⟩
def znf(W:Q7)(c:Int)(x:Option Nat):Zk (zla W c x):=by
 cases x with
 |none=>rfl
 |some i=>
  show Zk [zi1 W c i]=true
  by_cases h:i<12
  ·rw[show zi1 W c i=zx4 W (i:Int) from C' h];rfl
  ·rw[show zi1 W c i=zup W c ((i-12:Nat):Int) from B' h];rfl
def El(W:Q7)(c:Int):zpl Tryz.prog (zla W c) 1 Zx 16 none:=H3 Qk (zxp W c)
def AH:Tryz.prog.underlying ZU=some (.slice Zx):=Qk
def zx6{W:Q7}{c:Int}{i:Nat}(h:i<12):zi1 W c i=zx4 W (i:Int):=C' h
def zx5{W:Q7}{c:Int}{i:Nat}:zi1 W c (12+i)=zup W c (i:Int):=by
 unfold zi1;rw[B' Qo,show 12+i-12=i by omega]
def zw4{bs:List Nat}{w:Wo}{o:OA}{n:Nat}{vs:List Va}(h:Q1 bs w o n vs):Q1 bs w (o.map (·.add n)) 0 vs:=Ok λj v hj=>by
 obtain⟨a,ha,hb,hc⟩:=h.get j v hj;refine⟨a.add n,by rw[ha];rfl,by rw[ZW];exact hb,?_⟩;rw[JJ,Nat.zero_add];exact hc
def Au(p:Nat->Bool)(k:Nat)(h:p k):(List.range (k+1)).filter p=(List.range k).filter p++[k]:=by
 rw[List.range_succ,List.filter_append];simp[h]
def Kc(p:Nat->Bool)(k:Nat)(h:p k=false):(List.range (k+1)).filter p=(List.range k).filter p:=by
 rw[List.range_succ,List.filter_append];simp[h]
def Nj(p:Nat->Bool)(k:Nat):((List.range k).filter p).length<=k:=by
 have:=List.length_filter_le p (List.range k)
 simpa using this
def VW(W:Q7)(g c:Int)(k:Nat):List Nat:=(List.range k).filter (Z3 W g c)
section
variable {W:Q7}{m:MW}{w:Wo}{bs:List Nat}{p:OA}
def zdu{g c:Int}(h:Pn bs w p W m)(ha:WA W)(c0:0<=c)(c1:c<(W.IF.length:Int))(hb0:bs=[]) :
  Cz Ut #[.agg #[.pointer p,I c],I g] w λe w'=>∃o cap,e=.returned (.slice o (VW W g c 20).length cap)/\UD (zla W c) 1 Zx w.heap.size w' o cap ((VW W g c 20).map some)/\Q0 [] w w':=by
 subst hb0;refine(Dp p c g (R:=λv w'=>∃o cap,v=.slice o (VW W g c 20).length cap/\UD (zla W c) 1 Zx w.heap.size w' o cap ((VW W g c 20).map some)/\Q0 [] w w') ?_).mono λe w' ⟨v,he,o,cap,hv,h1⟩=>⟨o,cap,by rw[he,hv],h1⟩
 have jF:=ha.t;have bU:=ha.gl;intro b hb;refine⟨h.some,_,_,_,h.IJ,?_⟩
 refine⟨λvs w1=>∃(k:Nat) (o:OA) (c':Nat),vs=[.slice o ((VW W g c k).map some).length c',I (k:Int)]/\k<=12/\Sc w [b] w1/\Ob (zla W c) 1 Zx w.heap.size [b] w1 o c' ((VW W g c k).map some),ZG 12 1,
  λwr hx _=>⟨0,none,0,rfl,Qo,⟨hx,by simpa using hb⟩,⟨.inl ⟨rfl,rfl,rfl⟩,by simp[QL]⟩⟩,?_⟩
 rintro o1 L1 C1 x w1 dE ⟨k,o',c',he,hk,s1,hO⟩;simp only[I4,I5,Iv,true_and,and_true] at he;obtain⟨⟨rfl,rfl,rfl⟩,rfl⟩:=he;have hp1:=h.sc s1;refine⟨λIW=>?_,λRM=>?_⟩
 ·have IW:=Ot IW;have lS:k<12:=Qo;refine⟨h.rd.t.ix QT Qo IW,_,_,_,_,_,_,_,_,_,hp1.rd.t k Qo IW,λb1 bY=>⟨_,KB hp1 Qo IW,λq b2 cD R5 S9 V' WO=>?_,λq=>⟨⟨Qo,Qo⟩,λRD Rl _=>⟨⟨k+1,o1,C1,?_,Qo,s1.step Rl,?_⟩,Zo (k:=k) rfl rfl lS⟩⟩⟩⟩
  ·have q':Z3 W g c k:=by rw[Jn lS];rwa[Ig] at q
   have s2:=s1.AH4 S9 bY cD;have nG:=hO.AH4 S9 bY cD
   obtain⟨o2,c2,w2,We,uF,hO3,Rk⟩:=nG.AG3 (El W c) AH (x:=some k) V' s2.ext.size (by
    show _=some (Obj.cells [zi1 W c k].toArray _ _);rw[zx6 lS];exact WO) (znf _ _ _) (by have:=Nj (Z3 W g c) k;simp[VW];omega) Qd ZU #[false,false]
   have s3:=s2.call Rk λx hm=>(nG.own.lt x hm).1
   have hL:(VW W g c k).map some++[some k]=(VW W g c (k+1)).map some:=by
    unfold VW;rw[Au _ _ q',List.map_append];rfl
   rw[hL] at We hO3;exact⟨_,_,_,w2,We,uF,⟨Qo,Qo⟩,λR6 Rl _=>⟨⟨k+1,o2,c2,Qs,Qo,(s3.step Rl).sub Qs,(hO3.step Rl).sub Qs⟩,Zo (k:=k) rfl rfl lS⟩⟩
  ·have q':Z3 W g c k=false:=by rw[Jn lS];rwa[Ig] at q
   have hL:VW W g c (k+1)=VW W g c k:=Kc _ _ q';rw[hL];simp
  ·have q':Z3 W g c k=false:=by rw[Jn lS];rwa[Ig] at q
   have hL:VW W g c (k+1)=VW W g c k:=Kc _ _ q';rw[hL];exact hO.step Rl
 ·have RM:=Ou RM;have:k=12:=Qo;subst this;refine⟨h.some,_,_,_,hp1.IE,?_⟩
  refine⟨λvs w1=>∃(k:Nat) (o:OA) (c':Nat),vs=[.slice o ((VW W g c (12+k)).map some).length c',I (k:Int)]/\k<=8/\Sc w [b] w1/\Ob (zla W c) 1 Zx w.heap.size [b] w1 o c' ((VW W g c (12+k)).map some),ZG 8 1,
   λwr hx _=>⟨0,o1,C1,rfl,Qo,s1.step hx,hO.step hx⟩,?_⟩
  rintro o3 L3 C3 x w3 fY ⟨k,o',c',he,hk,s3,hO3⟩;simp only[I4,I5,Iv,true_and,and_true] at he;obtain⟨⟨rfl,rfl,rfl⟩,rfl⟩:=he;have hp3:=h.sc s3;refine⟨λIW=>?_,λaX wr hx=>?_⟩
  ·have IW:=Ot IW;have hk8:k<8:=Qo;have cY:(0:Int)<=(k:Int):=Qo;refine⟨_,LJ hp3 ha Qo IW c0 c1,λq=>?_,λq=>⟨⟨Qo,Qo⟩,λSw eQ _=>⟨⟨k+1,o3,C3,?_,Qo,s3.step eQ,?_⟩,Zo (k:=k) rfl rfl hk8⟩⟩⟩
   ·rw[Ig] at q;have q':Z3 W g c (12+k):=by rw[J7];exact q
    have hus:(gi W.IE (k:Int)).IV:=by
     unfold Xb at q;simp only[A'] at q;exact q.1.2.1
    have hkc:c<((gi W.IE (k:Int)).IH.length:Int):=by rw[ha.sl (zbi IW hus)];exact c1
    refine⟨_,Zt hp3 cY IW c0 hkc,(hp3.sh cY IW c0 hkc).1,_,_,_,_,_,zw4 (hp3.rd.g.IH _ cY IW c c0 hkc),λb3 qS RQ Su fK WO=>?_⟩;have s5:=s3.put Su qS;have hO5:=hO3.put Su qS
    obtain⟨o2,c2,w2,We,uF,hO6,Rk⟩:=hO5.AG3 (El W c) AH (x:=some (12+k)) fK s5.ext.size (by
     show _=some (Obj.cells [zi1 W c (12+k)].toArray _ _);rw[zx5];exact WO) (znf _ _ _) (by have:=Nj (Z3 W g c) (12+k);simp[VW];omega) Qd ZU #[false,false]
    have s6:=s5.call Rk λx hm=>(hO5.own.lt x hm).1
    have hL:(VW W g c (12+k)).map some++[some (12+k)]=(VW W g c (12+(k+1))).map some:=by
     unfold VW;rw[show 12+(k+1)=12+k+1 from rfl,Au _ _ q',List.map_append];rfl
    rw[hL] at We hO6;exact⟨_,_,_,w2,We,uF,⟨Qo,Qo⟩,λR6 Rl _=>⟨⟨k+1,o2,c2,Qs,Qo,(s6.step Rl).sub Qs,(hO6.step Rl).sub Qs⟩,Zo (k:=k) rfl rfl hk8⟩⟩
   ·rw[Ig] at q;have q':Z3 W g c (12+k)=false:=by rw[J7];exact q
    have hL:VW W g c (12+(k+1))=VW W g c (12+k):=Kc _ _ q';rw[hL];simp
   ·rw[Ig] at q;have q':Z3 W g c (12+k)=false:=by rw[J7];exact q
    have hL:VW W g c (12+(k+1))=VW W g c (12+k):=Kc _ _ q';rw[hL];exact hO3.step eQ
  ·have aX:=Ou aX;have:k=8:=Qo;subst this;exact⟨o3,C3,Qs,(hO3.step hx).own,(s3.step hx).ext⟩
def zyi{x:Int}{t:PS}:PX bs Xg #[.agg (I x::Xc t).toArray] w (I t.v):=LX x t.state t.II t.R1 t.nice t.mask t.v t.sum t.IV t.load λwr hx=>λ_ _=>rfl
def zyh{x:Int}{s:KM}:PX bs YZ #[.agg (I x::T9 s).toArray] w (I s.v):=Li x s.IM s.on s.v s.w s.sum λwr hx=>λ_ _=>rfl
def z04 (W : Q7) (i : Int) (w : World) : (zcp "loop.example/stint/impl.time" (zx4 W i) []).run Tryz.prog w = .ok (.enter Xg #[.agg (.int .i64 i :: Xc (Q8 W i)).toArray]) w := by kernel_rfl
def zxc (W : Q7) (c i : Int) (w : World) : (zcp "loop.example/stint/impl.time" (zup W c i) []).run Tryz.prog w = .ok (.enter YZ #[.agg (.int .i64 i :: T9 (Qa W i c)).toArray]) w := by kernel_rfl
def zyt (c : Int) (i : Nat) : ∃ (F : FuncId) (aa : Array Value), (∀ w : World, (zcp "loop.example/stint/impl.time" (zi1 W c i) []).run Tryz.prog w = .ok (.enter F aa) w) ∧ ∀ (bs : List Nat) (w : World), Q3 bs Tryz.prog F aa w (.int .i64 (Z1 W c i)) := by
 by_cases h:i<12
 ·rw[zx6 h,Hh h]
  refine⟨Xg,#[.agg (.int .i64 (i:Int)::Xc (Q8 W (i:Int))).toArray],?_,?_⟩
  ·intro w;exact z04 W (i:Int) w
  ·intro bs w;exact zyi (x:=(i:Int)) (t:=Q8 W (i:Int))
 ·have e:i=12+(i-12):=Qo
  rw[e,zx5,Hg]
  refine⟨YZ,#[.agg (.int .i64 ((i-12:Nat):Int)::T9 (Qa W ((i-12:Nat):Int) c)).toArray],?_,?_⟩
  ·intro w;exact zxc W c ((i-12:Nat):Int) w
  ·intro bs w;exact zyh (x:=((i-12:Nat):Int)) (s:=Qa W ((i-12:Nat):Int) c)
def Av{x:Int}:PX bs UH #[I x] w (.bool false):=zac x λwr hx=>by
 show Value.bool (x != x)=_;simp
def zm9(x y:Int):Int:=if x<y then -1 else if x>y then 1 else 0
def zg9{x y:Int}:PX bs VF #[I x,I y] w (I (zm9 x y)):=B8 x y λwr hx=>by
 refine⟨_,Av,_,Av,λg=>(by cases g),λ_=>⟨λg=>(by cases g),λ_=>⟨λg=>?_,λg=>⟨λg2=>?_,λg2=>?_⟩⟩⟩⟩
 ·unfold zm9;rw[C' (Ot g)]
 ·unfold zm9;rw[B' (Ou g),C' (Ot g2)]
 ·unfold zm9;rw[B' (Ou g),B' (Ou g2)]
def zna{x y:Int}:zm9 x y<0↔x<y:=by
 unfold zm9;split
 ·rename_i h;exact⟨λ_=>h,λ_=>by decide⟩
 ·rename_i h
  split <;> exact⟨λhc=>by omega,λhc=>Ir hc h⟩
def zyg{c:Int}{i j:Nat}:PX bs YH #[zi1 W c i,zi1 W c j] w (I (zm9 (Z1 W c i) (Z1 W c j))):=by
 refine Lk λwr0 sJ=>Eh (zi1 W c i) (zi1 W c j) (R:=λv w'=>v=I (zm9 (Z1 W c i) (Z1 W c j))/\Q0 [] wr0 w') ?_
 intro wr hx hs;obtain⟨F,aa,h1,h2⟩:=zyt (W:=W) c i;obtain⟨F',aa',h1',h2'⟩:=zyt (W:=W) c j;exact⟨F,aa,h1 wr,(h2 [] wr wr (Q0.refl _ _)).mono λe w1 ⟨he,S9⟩=>⟨_,he,Xm,λR5 cW _=>⟨F',aa',h1' R5,(h2' [] R5 R5 (Q0.refl _ _)).mono λe w2 ⟨he,Rk⟩=>⟨_,he,Xm,_,zg9,λR6 SQ=>⟨rfl,((((hx.trans S9).trans cW).trans Rk)).trans SQ⟩⟩⟩⟩⟩
def zuu{c:Int}{L:List Nat}{o:OA}{cap:Nat}(h:Rd (zla W c) 1 [] w o (L.map some))(hl:1<=L.length)(hl2:L.length<=100) :
  Cz ZJ #[.slice o L.length cap,.func (.func YH) #[] #[]] w λe w'=>e=.returned (zi1 W c (Ew (Z1 W c) L).toNat)/\Q0 [] w w':=by
 refine(U1 o L.length cap (.func YH) #[] #[] (R:=λv w'=>v=zi1 W c (Ew (Z1 W c) L).toNat/\Q0 [] w w') ?_).mono λe w' ⟨v,he,hv,h1⟩=>⟨by rw[he,hv],h1⟩
 have hlm:((L.map some).length:Int)=(L.length:Int):=Qs
 have cell:∀{w1:Wo} {k:Nat},Q0 [] w w1->k<L.length->Q1 [] w1 o (Int.toNat (k:Int)*1) [zi1 W c (gi L (k:Int))]:=λ{w1 k} hx hk=>by
  have:=(h.ext hx) (k:Int) Qo Qo
  rwa[z4l some L Qo Qo] at this
 have ix:∀{k:Nat},k<L.length->Ix o L.length (k:Int):=λ{k} hk=>by
  have:=h.ix (z4d W c) (i:=(k:Int)) Qo Qo
  rwa[List.length_map] at this
 have take:∀{k:Nat},k<L.length->L.take (k+1)=L.take k++[gi L (k:Int)]:=λ{k} hk=>by
  rw[List.take_succ_eq_append_getElem hk,Ju hk]
 refine⟨λg=>by have:=Ot g;omega,λ_=>⟨ix (k:=0) Qo,_,cell (k:=0) (Q0.refl _ _) Qo,?_⟩⟩;refine⟨λvs w1=>∃k:Nat,vs=[zi1 W c (Ew (Z1 W c) (L.take k)).toNat,I (k:Int)]/\1<=k/\k<=L.length/\Q0 [] w w1,ZG L.length 1,λwr hx _=>⟨1,?_,Qo,Qo,hx⟩,?_⟩
 ·rw[take (k:=0) Qo,List.take_zero,B3];rw[C' (by rfl)];simp
 rintro mv x w1 dE ⟨k,he,hk1,hk,hX⟩;simp only[I4,I5,and_true] at he;obtain⟨rfl,_,rfl⟩:=he;refine⟨λIW=>?_,λRM wr hx=>⟨?_,hX.trans hx⟩⟩
 ·have IW:=Ot IW;have nN:k<L.length:=Qo
  have cU:L.take k≠[]:=λe=>by
   have h0:(L.take k).length=0:=by rw[e];rfl
   rw[List.length_take] at h0;omega
  have hmn:=zsw (Z1 W c) (L.take k) cU;refine⟨ix nN,_,cell hX nN,λR5 S9 V'=>.inl ⟨YH,#[zi1 W c (gi L (k:Int)),zi1 W c (Ew (Z1 W c) (L.take k)).toNat],by rfl,(zyg (bs:=[]) R5 (Q0.refl _ _)).mono λe w2 ⟨he,Rk⟩=>⟨_,he,Xm,λg=>⟨ix nN,_,cell ((hX.trans S9).trans Rk) nN,⟨Qo,Qo⟩,λR6 Rl _=>⟨⟨k+1,?_,Qo,Qo,((hX.trans S9).trans Rk).trans Rl⟩,Zo (k:=k) rfl rfl nN⟩⟩,λg=>⟨⟨Qo,Qo⟩,λRD Rl _=>⟨⟨k+1,?_,Qo,Qo,((hX.trans S9).trans Rk).trans Rl⟩,Zo (k:=k) rfl rfl nN⟩⟩⟩⟩⟩
  ·have g:=zna.1 (Ot g);rw[take nN,B3,C' (by rw[Ih g,Bool.or_true]),Ig];simp
  ·have g:=Ou g;have g:¬Z1 W c (gi L (k:Int))<Z1 W c (Ew (Z1 W c) (L.take k)).toNat:=λhc=>g (zna.2 hc)
   rw[take nN,B3,B' (by rw[decide_eq_false g,decide_eq_false (show ¬Ew (Z1 W c) (L.take k)<0 by omega)];decide)];simp
 ·have RM:=Ou RM;have:k=L.length:=Qo;subst this;rw[List.take_length]
def z2z(W:Q7)(i:Int)(w:Wo):(Instr.typeAssert (zx4 W i) Zx XK true).run Tryz.prog w=.ok (.tuple #[.agg (I i::Xc (Q8 W i)).toArray,.bool true]) w:=Qk
def zzz(W:Q7)(c i:Int)(w:Wo):(Instr.typeAssert (zup W c i) Zx XK true).run Tryz.prog w=.ok (.tuple #[.agg (I 0::Xc T8).toArray,.bool false]) w:=Qk
def zzy(W:Q7)(c i:Int)(w:Wo):(Instr.typeAssert (zup W c i) Zx Jd true).run Tryz.prog w=.ok (.tuple #[.agg (I i::T9 (Qa W i c)).toArray,.bool true]) w:=Qk
def zn0{c:Int}(h:Pn bs w p W m)(ha:WA W)(lQ : -1<=(gi W.IF c).cur)(c0:0<=c)(c1:c<(W.IF.length:Int)):PX bs Tk #[.agg #[.pointer p,I c]] w (I (if (gi W.IF c).up=true then Qe W c else -1)):=by
 refine Lk λwr0 sJ=>N9 p c (R:=λv w'=>v=I (if (gi W.IF c).up=true then Qe W c else -1)/\Q0 [] wr0 w') ?_
 have h:=(h.ext sJ).less (cs:=[]) Qs;have bU:=ha.gl;have cc:=h.rd.c c c0 c1;have sm:=MQ (n:=Int.toNat c*5) cc;intro b hb;refine⟨m.cO.map (λa=>a.add (Int.toNat c*5)),by exact VU h c0 c1,sm,_,JK cc (j:=0) rfl,λg wr hx=>⟨?_,hx⟩,λg=>⟨sm,_,JK cc (j:=1) rfl,λ_=>sm,_,λ_=>JK cc (j:=2) rfl,λg2=>⟨sm,_,JK cc (j:=1) rfl,λwr hx=>⟨?_,hx⟩⟩,λg2=>?_⟩⟩
 ·rw[B' (by simpa using g)]
 ·have gu:(gi W.IF c).up:=by simpa using g
  simp only[A',It,Ij] at g2;rw[C' gu];unfold Qe;rw[C' ⟨Qo,g2.2⟩]
 have gu:(gi W.IF c).up:=by simpa using g
 have hpk:Qe W c=PN W 0 c:=by
  unfold Qe;rw[B'];rintro⟨e1,e2⟩;rw[It.2 (show (gi W.IF c).cur≠-1 by omega),Ih e2] at g2;cases g2
 rw[C' gu,hpk];refine⟨λvs w1=>∃x:Int,vs=[I x]/\Q6 W.IE x/\PN W x c=PN W 0 c/\Sc wr0 [b] w1,λvs _=>(3-dep 3 W.IE (Ye 0 vs)).toNat,λwr hx _=>⟨0,rfl,ha.root,rfl,⟨hx,by simpa using hb⟩⟩,?_⟩;rintro x w1 dE ⟨x',he,hux,hI,s1⟩ RD Rl fY;simp only[I4,I5,true_and,and_true] at he;subst he;have s3:=s1.step Rl;have hp3:Pn [] RD p W m:=(h.sc s3).less Qs;have kE:=HS ha hux (c:=c);have Bd1:Ew (Z1 W c) (VW W x c 20)=QG W x c:=Hi _ _ _;refine(zdu hp3 ha c0 c1 rfl).mono λe w4 ⟨o,cap,he,hO,T'⟩=>⟨_,_,_,he,Qi T' fY,λq RE Su=>⟨?_,((s3.R7 T').step Su).ext⟩,λq RQ Su fK=>?_⟩
 ·have hn : VW W x c 20 = [] := List.eq_nil_of_length_eq_zero (by have:(((VW W x c 20).length:Nat):Int)=0:=by simpa using q
                                                                  omega)
  have:QG W x c = -1:=by rw[<-Bd1,hn];rfl
  rw[<-hI,kE,C' Qo]
 have cU:VW W x c 20≠[]:=λe=>by rw[e] at q;simp at q
 have hlen:1<=(VW W x c 20).length:=by
  rcases Nat.eq_zero_or_pos (VW W x c 20).length with h0|h0
  ·exact Ir (List.eq_nil_of_length_eq_zero h0) cU
  ·exact h0
 have hF:0<=QG W x c:=by rw[<-Bd1];exact zsw _ _ cU
 have s5:=(s3.R7 T').step Su;have hO5:=(Ob.of hO fY).step Su;have DC7:=Nj (Z3 W x c) 20;refine(zuu (hO5.rd0 (El W c).len) hlen (by unfold VW;omega)).mono λe w6 ⟨he,bE⟩=>⟨_,he,Qi bE fK,?_⟩
 rw[Bd1]
 by_cases h12:QG W x c<12
 ·have hi:(QG W x c).toNat<12:=Qo;rw[zx6 hi];refine⟨_,_,_,_,_,_,_,_,_,_,_,λwq=>z2z W _ wq,λ_ b1 bY Sj eQ=>⟨?_,((s5.R7 bE).step eQ).ext⟩,λg=>by cases g⟩;rw[<-hI,kE,B' Qo,C' h12,show (((QG W x c).toNat:Nat):Int)=QG W x c by omega]
 ·have e:(QG W x c).toNat=12+((QG W x c).toNat-12):=Qo;rw[e,zx5];have ei:(((QG W x c).toNat-12:Nat):Int)=QG W x c-12:=Qo;obtain⟨k1,k2,k3,_⟩:=KT ha hux (c:=c) Qo;have hdk:=Kr ha k1;rw[ei];refine⟨_,_,_,_,_,_,_,_,_,_,_,λwq=>zzz W c _ wq,λg=>(by cases g),λ_=>⟨_,_,_,_,_,_,_,λwq=>zzy W c _ wq,λ_ b2 cD Sw eQ _=>⟨⟨QG W x c-12,rfl,k1,?_,(s5.R7 bE).step eQ⟩,?_⟩,λg=>by cases g⟩⟩
  ·rw[<-hI,kE,B' Qo,B' h12]
  ·show (3-dep 3 W.IE (QG W x c-12)).toNat<(3-dep 3 W.IE x).toNat;omega
end
section
variable {base pb:Nat}{W:Q7}{m:MW}{w:Wo}
def ztv(base pb b:Nat)(w0:Wo)(m:MW)(c n:Int)(W:Q7)(f:Nat)(vs:List Va)(w2:Wo):Prop:=
 ∃(V:Q7) (left:Int),vs=[I left]/\Mp base pb [b] w0 m w2 V m/\Md f c W V left/\PD c f V left=J9 W c n
def zdt{c n:Int}{tf:Fn}{ta tk0:Array Va}(h:PW base pb w W m)(hI0:Md 400 c W W n)(ht:∀(t u:Int) (w1:Wo),O7 Tryz.prog (.func tf ta tk0) [I t,I u] w1 λe w2=>e=.returned (.tuple #[])/\Q0 [] w1 w2) :
  Cz Oq #[.agg #[.pointer (pA pb),I c],I n,.func tf ta tk0] w λe w'=>e=.returned (.tuple #[])/\Mp base pb [] w m w' (J9 W c n) m:=by
 refine(CE (pA pb) c n tf ta tk0 (R:=λv w'=>v=.tuple #[]/\Mp base pb [] w m w' (J9 W c n) m) ?_).mono λe w' ⟨v,he,hv,h3⟩=>⟨by rw[he,hv],h3⟩
 intro b hb;have c0:=hI0.c0;have kE:UW=173430457200:=rfl;have hlg:Qh=34686091440:=rfl;have hh0:(0:Int)<=Ql:=Qd;have hM0:=Mp.start h;have hp0:=hM0.wpt;refine⟨_,VU hp0 c0 hI0.c1,λvs w2=>∃f,ztv base pb b w m c n W f vs w2,λvs w2=>zhs λf=>ztv base pb b w m c n W f vs w2,λwr hx _=>⟨400,W,n,rfl,(hM0.add hb).R7 hx,hI0,rfl⟩,?_⟩;intro left w2 V' hinv;obtain⟨f0,hf0⟩:∃f0,f0=zhs λf=>ztv base pb b w m c n W f [I left] w2:=⟨_,rfl⟩
 have hS:=zjd hinv;simp only[<-hf0] at hS ⊢;clear hf0 hinv;obtain⟨V,Cc8,hv,Wz,hI,hN⟩:=hS;simp only[I4,I5,true_and,and_true] at hv;subst hv;obtain⟨f,rfl⟩:=zov hI;have AB8:∀{vs:List Va} {w9:Wo},ztv base pb b w m c n W f vs w9->(∃f,ztv base pb b w m c n W f vs w9)/\(zhs λf=>ztv base pb b w m c n W f vs w9)<f+1:=λhh=>⟨⟨f,hh⟩,Nat.lt_succ_of_le (zst hh)⟩
 have dD:=Wz.wpt;have hf:=hI.f2;have hKu:=M3 hf;have hSu:=Bn hf;have pF:=hI.c1;have hs:=MQ (n:=Int.toNat c*5) (dD.rd.c c c0 pF);refine⟨λIW=>?_,λRM=>?_⟩
 ·have IW:=Ot IW;have hpk:=zn0 dD hI.sw.a (hI.sw.cu c c0 pF).1 c0 pF;rw[C' hI.up] at hpk;refine⟨_,hpk,λgp=>?_,λgp=>?_⟩
  ·have gp:=Ot gp;rw[OP Qo gp] at hN;obtain⟨i1,i2,i3,i4⟩:=zlj hI;have e1:Zp 8 base _ (RO V c (OL V c left)) m:=Wz.own.AF2 c0 pF (j:=4) (vs:=[I ((gi V.IF c).idle+left)]) (x:=OL V c left) rfl Qs;have fX:=Wz.Ss e1 Dz (FF _ _ _ _);refine⟨hs,_,JK (dD.rd.c c c0 pF) (j:=4) rfl,⟨Qo,Qo⟩,hs,M5.2 (zpk Wz.own Wz.nb c0 pF Qd),?_⟩;rw[TQ];intro R5 S9 dE;have cM:=fX.step S9;refine I3 (UR cM.pw c0 (by show c<((V.IF.set c.toNat (OL V c left)).length:Int);rw[E'];exact pF)) ?_;rintro e3 S3 ⟨gD,eD⟩;refine⟨gD,cM.kept eD dE,λRE T' dT=>?_⟩;have nM:=(cM.call eD dE).step T';refine I3 (JT nM.pw i1 Qo Qo) ?_;rintro e5 dX ⟨he5,hy5⟩;rw[hN] at hy5;exact⟨he5,nM.kept hy5 dT,λSj bE=>⟨by trivial,((nM.call hy5 dT).step bE).close⟩⟩
  ·have gp:=Ou gp;rw[UT Qo gp] at hN;have hR:=TO hI IW gp;have t0:=hR.line.t0;have t1:=hR.line.t1;obtain⟨q1,q2,q3,q4,q5,q6⟩:=Ki hI.sw hI.rb c0 pF hI.up t0 t1;have eC:(Zl V c).1.IF=(ZX V c (Qe V c)).IF:=hR.tk.o.c;have lT:(Zl V c).1.IF.length=V.IF.length:=by rw[eC];exact q6
   have cT:c<((Zl V c).1.IF.length:Int):=by rw[lT];exact pF
   have rT:RB (Dy (f+1)) (Zl V c).1:=hR.r1.sum hR.tk.su hR.tk.o.g (by rw[eC]);have eT:(Zl V c).1.IJ=V.IJ:=hR.tk.o.t;have eG:QH V.IE (Zl V c).1.IE:=hR.tk.o.g;have pT:QV (Zl V c).1 (Qe V c)=QV V (Qe V c):=Bl eT eG _;have uT:Q6 (Zl V c).1.IE (Q8 (Zl V c).1 (Qe V c)).II:=by rw[eG.aO,YE eT];exact hR.us
   have upT:(gi (Zl V c).1.IF c).up:=by rw[eC];exact q3
   have AN3:(gi (Zl V c).1.IF c).SX<50:=by rw[eC];exact hR.SX
   have hnx:=hR.nx;have uG:=hI.l1;have hTk:DW c (QV V (Qe V c)) (ZX V c (Qe V c))=Zl V c:=rfl;have hmE:J8 (Zl V c).1 c (QV V (Qe V c)) left=ZV V c left:=rfl;refine⟨hs,_,JK (dD.rd.c c c0 pF) (j:=1) rfl,λ_=>hs,_,λ_=>JK (dD.rd.c c c0 pF) (j:=2) rfl,λg5=>?_,λg5 RE T' dT=>?_⟩
   ·have g5:Qe V c≠(gi V.IF c).cur\/(gi V.IF c).SX>=50:=by simpa using g5
    have hS:Yf V c (Qe V c)={ gi V.IF c with cur:=Qe V c,SX:=0 }:=by unfold Yf;rw[C' g5]
    have e1:=Wz.own.AF2 c0 pF (j:=1) (vs:=[I (Qe V c)]) (x:={ gi V.IF c with cur:=Qe V c }) rfl Qs;have Cy9:(V.IF.set c.toNat { gi V.IF c with cur:=Qe V c }).length=V.IF.length:=E';have hg1:gi (V.IF.set c.toNat { gi V.IF c with cur:=Qe V c }) c={ gi V.IF c with cur:=Qe V c }:=(Qx _ _ c0 pF c0).trans (C' rfl);have e2:=e1.AF2 c0 (by simpa using pF) (j:=2) (vs:=[I 0]) (x:=Yf V c (Qe V c)) (by rw[hg1,hS];rfl) Qs
    have hW2:({ V with IF:=(V.IF.set c.toNat { gi V.IF c with cur:=Qe V c }).set c.toNat (Yf V c (Qe V c)) }:Q7)=ZX V c (Qe V c):=by
     unfold ZX RO;rw[List.set_set]
    have fX:Mp base pb [b] w m _ ({ V with IF:=V.IF.set c.toNat { gi V.IF c with cur:=Qe V c } }:Q7) m:=Wz.Ss e1 Dz (by simp[Qc]);have CT5:Mp base pb [b] w m _ ({ V with IF:=(V.IF.set c.toNat { gi V.IF c with cur:=Qe V c }).set c.toNat (Yf V c (Qe V c)) }:Q7) m:=fX.Ss e2 Dz (by simp[Qc]);rw[hW2] at CT5;refine⟨hs,M5.2 (zpk Wz.own Wz.nb c0 pF Qd),hs,?_⟩;rw[TQ];refine⟨M5.2 (zpk e1 Wz.nb c0 (by show c<((V.IF.set c.toNat { gi V.IF c with cur:=Qe V c }).length:Int);rw[Cy9];exact pF) Qd),?_⟩;rw[TQ];intro RE T' dT;have cM:=CT5.step T';refine I3 (L5 (t:=Qe V c) cM.pw q1 c0 (by rw[q6];exact pF) t0 t1 hR.us hR.dr) ?_;rintro e3 S3 ⟨gD,eD⟩;have hpS:QV (ZX V c (Qe V c)) (Qe V c)=QV V (Qe V c):=rfl;rw[hpS,hTk] at gD eD;have nM:=cM.call eD dT;refine⟨_,gD,cM.kept eD dT,λgt RQ Su fK=>?_,λgt RQ Su fK=>?_⟩
    ·have gt:¬(Zl V c).2:=by simpa using gt
     have hRW:Uk V c left=(Qb (Rc (Zl V c).1 c),left):=by unfold Uk;rw[B' gt]
     rw[hRW] at hnx hN;have jX:=nM.step Su;refine I3 (UR jX.pw c0 cT) ?_;rintro e6 fC ⟨he6,hy6⟩;refine⟨he6,jX.kept hy6 fK,λSw eQ sH=>?_⟩;have lR:=(jX.call hy6 fK).step eQ;refine I3 (JT lR.pw (hR.tk.sw.Rc c0 cT) Qo Qo) ?_;rintro e8 sA ⟨he8,hy8⟩;generalize Qb (Rc (Zl V c).1 c)=V9 at hy8 hnx hN;exact⟨he8,lR.kept hy8 sH,λWL kL _=>AB8 ⟨V9,left,rfl,(lR.call hy8 sH).step kL,hnx,hN⟩⟩
    ·have gt:(Zl V c).2:=by simpa using gt
     have hRW:Uk V c left=(Qb (Ui (Zl V c).1 c (Qe V c) (ZV V c left)),left-ZV V c left):=by unfold Uk;rw[C' gt]
     rw[hRW] at hnx hN;obtain⟨m1,m2'⟩:=hR.m gt;have sC:=(hR.ch gt).1;have jX:=nM.step Su;have hcG:=FO (t:=Qe V c) (left:=left) jX.pw hR.tk.sw rT ⟨Qo,Qo⟩ ⟨Qo,Qo⟩ c0 cT upT AN3 t0 t1 uT (by rw[pT,hmE];omega) (by rw[pT,hmE];omega);rw[pT,hmE] at hcG;refine I3 hcG ?_;rintro e6 fC ⟨he6,hy6⟩;refine⟨_,he6,jX.kept hy6 fK,λSw eQ sH=>?_⟩;have lR:=(jX.call hy6 fK).step eQ;refine O7.mono (ht _ _ Sw) ?_;rintro e8 sA ⟨he8,hy8⟩;refine⟨he8,Qi hy8 sH,λWL kL hs9=>?_⟩;have hM9:=(lR.R7 hy8).step kL;refine I3 (JT hM9.pw sC Qo Qo) ?_;rintro e10 fA ⟨CG5,BK6⟩;generalize Qb (Ui (Zl V c).1 c (Qe V c) (ZV V c left))=V9 at BK6 hnx hN;exact⟨CG5,hM9.kept BK6 hs9,⟨by show _<=left-ZV V c left;omega,by show left-ZV V c left<=_;omega⟩,λSr wA _=>AB8 ⟨V9,left-ZV V c left,rfl,(hM9.call BK6 hs9).step wA,hnx,hN⟩⟩
   ·have g5:¬(Qe V c≠(gi V.IF c).cur\/(gi V.IF c).SX>=50):=by simpa using g5
    have hS:ZX V c (Qe V c)=V:=by
     unfold ZX Yf RO;rw[B' g5,Ab c0 pF]
    have cM:Mp base pb [b] w m RE (ZX V c (Qe V c)) m:=by rw[hS];exact Wz.step T'
    refine I3 (L5 (t:=Qe V c) cM.pw q1 c0 (by rw[q6];exact pF) t0 t1 hR.us hR.dr) ?_;rintro e3 S3 ⟨gD,eD⟩;have hpS:QV (ZX V c (Qe V c)) (Qe V c)=QV V (Qe V c):=rfl;rw[hpS,hTk] at gD eD;have nM:=cM.call eD dT;refine⟨_,gD,cM.kept eD dT,λgt RQ Su fK=>?_,λgt RQ Su fK=>?_⟩
    ·have gt:¬(Zl V c).2:=by simpa using gt
     have hRW:Uk V c left=(Qb (Rc (Zl V c).1 c),left):=by unfold Uk;rw[B' gt]
     rw[hRW] at hnx hN;have jX:=nM.step Su;refine I3 (UR jX.pw c0 cT) ?_;rintro e6 fC ⟨he6,hy6⟩;refine⟨he6,jX.kept hy6 fK,λSw eQ sH=>?_⟩;have lR:=(jX.call hy6 fK).step eQ;refine I3 (JT lR.pw (hR.tk.sw.Rc c0 cT) Qo Qo) ?_;rintro e8 sA ⟨he8,hy8⟩;generalize Qb (Rc (Zl V c).1 c)=V9 at hy8 hnx hN;exact⟨he8,lR.kept hy8 sH,λWL kL _=>AB8 ⟨V9,left,rfl,(lR.call hy8 sH).step kL,hnx,hN⟩⟩
    ·have gt:(Zl V c).2:=by simpa using gt
     have hRW:Uk V c left=(Qb (Ui (Zl V c).1 c (Qe V c) (ZV V c left)),left-ZV V c left):=by unfold Uk;rw[C' gt]
     rw[hRW] at hnx hN;obtain⟨m1,m2'⟩:=hR.m gt;have sC:=(hR.ch gt).1;have jX:=nM.step Su;have hcG:=FO (t:=Qe V c) (left:=left) jX.pw hR.tk.sw rT ⟨Qo,Qo⟩ ⟨Qo,Qo⟩ c0 cT upT AN3 t0 t1 uT (by rw[pT,hmE];omega) (by rw[pT,hmE];omega);rw[pT,hmE] at hcG;refine I3 hcG ?_;rintro e6 fC ⟨he6,hy6⟩;refine⟨_,he6,jX.kept hy6 fK,λSw eQ sH=>?_⟩;have lR:=(jX.call hy6 fK).step eQ;refine O7.mono (ht _ _ Sw) ?_;rintro e8 sA ⟨he8,hy8⟩;refine⟨he8,Qi hy8 sH,λWL kL hs9=>?_⟩;have hM9:=(lR.R7 hy8).step kL;refine I3 (JT hM9.pw sC Qo Qo) ?_;rintro e10 fA ⟨CG5,BK6⟩;generalize Qb (Ui (Zl V c).1 c (Qe V c) (ZV V c left))=V9 at BK6 hnx hN;exact⟨CG5,hM9.kept BK6 hs9,⟨by show _<=left-ZV V c left;omega,by show left-ZV V c left<=_;omega⟩,λSr wA _=>AB8 ⟨V9,left-ZV V c left,rfl,(hM9.call BK6 hs9).step wA,hnx,hN⟩⟩
 ·have RM:=Ou RM;rw[Ph Qo] at hN;intro RE T' dT;have cM:=Wz.step T';refine I3 (JT cM.pw hI.sw Qo Qo) ?_;rintro e5 dX ⟨he5,hy5⟩;rw[hN] at hy5;exact⟨he5,cM.kept hy5 dT,λSj bE=>⟨by trivial,((cM.call hy5 dT).step bE).close⟩⟩
def zlq{cap cap1 Bm6:OA}{c n:Int}{tf:Fn}{ta tk0:Array Va}(h:PW base pb w W m)(hW:Qr W)(h0:Q1 [] w cap 0 [I n])(h1:Q1 [] w cap1 0 [I c])(h2:Q1 [] w Bm6 0 [.func tf ta tk0])(ht:∀(t u:Int) (w1:Wo),O7 Tryz.prog (.func tf ta tk0) [I t,I u] w1 λe w2=>e=.returned (.tuple #[])/\Q0 [] w1 w2) :
  Cz JB #[.pointer (pA pb),.pointer cap,.pointer cap1,.pointer Bm6] w λe w2=>(X9 W c n≠0/\e=.returned (.iface Yd (.agg #[I (X9 W c n)]))/\Q0 [] w w2)\/(X9 W c n=0/\e=.returned .nilIface/\∃m2,zbk base pb [] w m w2 (J9 W c n) m2):=by
 have wp:=Qm.1 hW;have hM:=Mp.start h;have hp:=hM.wpt;have hm0:=Y5;have hc2:=wp.a.c2
 refine(Fv (pA pb) cap cap1 Bm6 (R:=λv w2=>(X9 W c n≠0/\v=.iface Yd (.agg #[I (X9 W c n)])/\Q0 [] w w2)\/(X9 W c n=0/\v=.nilIface/\∃m2,zbk base pb [] w m w2 (J9 W c n) m2)) ?_).mono λe w' ⟨v,he,h3⟩=>by
  rw[he];rcases h3 with ⟨a,b,c⟩|⟨a,b,c⟩
  ·exact .inl ⟨a,by rw[b],c⟩
  ·exact .inr ⟨a,by rw[b],c⟩
 refine⟨n,h0,_,QK,c,λ_=>h1,Xd W c,λ_=>by exact j9 hp Qo,λg wr hx=>.inl ?_,λg=>?_⟩
 ·have hb:X9 W c n=1:=by
   unfold X9;rw[C']
   simpa using g
  rw[hb];exact⟨Qd,rfl,hx⟩
 have g:YY n 1 100/\Xd W c:=by simpa using g
 have hn1:¬(YY n 1 100=false\/Xd W c=false):=by rw[g.1,g.2];simp
 obtain⟨c0,c1⟩:=UF g.2;refine⟨hp.some,_,_,_,hp.IF,c,h1,hp.rd.c.ix Y1 c0 c1,_,hp.rd.c.f c0 c1 (j:=0) rfl,λg2 wr hx=>.inl ?_,λg2=>⟨_,zln hp wp.a,λg3 wr hx=>.inl ?_,λg3=>?_⟩⟩
 ·have hb:X9 W c n=6:=by unfold X9;rw[B' hn1,C' (by simpa using g2)]
  rw[hb];exact⟨Qd,rfl,hx⟩
 ·have g2:(gi W.IF c).up:=by simpa using g2
  have hb:X9 W c n=10:=by unfold X9;rw[B' hn1,B' (by rw[g2];decide),C' (by simpa using g3)]
  rw[hb];exact⟨Qd,rfl,hx⟩
 have g2:(gi W.IF c).up:=by simpa using g2
 have g3:QO W:=by simpa using g3
 have hb:X9 W c n=0:=by unfold X9;rw[B' hn1,B' (by rw[g2];decide),B' (by rw[g3];decide)]
 refine⟨c,h1,_,_,Ux,n,h0,_,_,_,h2,λRD Rl _=>?_⟩;have fX:=hM.nil Rl;refine I3 (zdt fX.pw (G4 hW hb).2.2.2.2 ht) ?_;rintro e wv ⟨he,hy⟩;exact⟨he,Xm,λRE T'=>.inr ⟨hb,rfl,m,((fX.call hy Qs).nil T').done⟩⟩
def z11{t u:Int}{bs:List Nat}:PX bs XB #[I t,I u] w (.tuple #[]):=B9 t u λ_ _=>rfl
def z4u(t u:Int)(w1:Wo):O7 Tryz.prog (.func (.func XB) #[] #[]) [I t,I u] w1 λe w2=>e=.returned (.tuple #[])/\Q0 [] w1 w2:=
 .inl ⟨XB,_,rfl,(z11 (bs:=[]) w1 (Q0.refl _ _)).mono λe w2 ⟨he,hx⟩=>⟨he,hx⟩⟩
def zql{c n:Int}{tf:Fn}{ta tk0:Array Va}(h:XV [] w W m)(hl:VB W)(hg:K6 w)(ht:∀(t u:Int) (w1:Wo),O7 Tryz.prog (.func tf ta tk0) [I t,I u] w1 λe w2=>e=.returned (.tuple #[])/\Q0 [] w1 w2) :
  Cz Ov #[.agg (Qc W m).toArray,I c,I n,.func tf ta tk0] w λe w'=>∃v,e=.returned v/\QX (Yz W (X9 W c n) (J9 W c n)) w v w':=by
 refine CF _ _ _ _ _ _ _ _ _ _ c n tf ta tk0 (R:=λv w'=>QX (Yz W (X9 W c n) (J9 W c n)) w v w') ?_;intro x hx b1 wb S9 bY sR hn1 b2 wb1 Rk cD hc2 hn2 b3 wb2 Rl qS hc3 hn3 b4 hb4 wr T' hs;have hX1:Q0 [] w wb1:=S9.fresh Rk λy hy=>.inl (zlt hy hx)
 have hX2:Q0 [] w wb2:=hX1.fresh Rl λy hy=>.inl (zlt hy hx)
 have hX:Q0 [] w wr:=hX2.fresh T' λy hy=>.inl (zlt hy hx)
 have k1:=QP (QP (QP sR Rk hn1) Rl hn1) T' hn1;have k2:=QP (QP hc2 Rl hn2) T' hn2;have k3:=QP hc3 T' hn3;have cell:∀{b:Nat} {v:Va} {t:TypeId} {w1:Wo},wr.heap[b]? = some (Obj.cells ([v]:List Va).toArray t (0,0))->Q0 [] wr w1->Q1 [] w1 (some ⟨b,0,none⟩) 0 [v]:=λhb hx=>T1 (QP hb hx Qs) Qs (k0:=0) rfl
 refine I3 (zuw (bar:=X9 W c n) (W':=J9 W c n) (h.ext hX) hl (hg.ext hX) λw1 pb m1 hW eD hpb hP=>.inl ⟨JB,_,rfl,zlq hP hW (cell k2 eD) (cell k1 eD) (cell k3 eD) ht⟩) ?_;rintro e wv ⟨v,he,n',m',hv,hM,hy⟩;subst hv;refine⟨_,_,_,_,_,_,_,_,_,_,_,he,Qi hy hs,λR5 Su=>⟨n',m',rfl,(hM.ext Su λy hy hm=>?_).mono hX.size,(hX.trans hy).fresh Su λy hm=>?_⟩⟩
 ·have:=(hM.lt y hy).1;have:=hs y hm;omega
 ·simp only[Ii,List.not_mem_nil,or_false] at hm;rcases hm with rfl|rfl
  ·exact .inl hx
  ·exact .inl (IB hX2.size hb4)
def Py{c n:Int}(h:XV [] w W m)(hl:VB W)(hg:K6 w) :
  Cz Jf #[.agg (Qc W m).toArray,I c,I n] w λe w'=>∃v,e=.returned v/\QX (Yz W (X9 W c n) (J9 W c n)) w v w':=by
 refine CC _ _ _ _ _ _ _ _ _ _ c n (R:=λv w'=>QX (Yz W (X9 W c n) (J9 W c n)) w v w') ?_;intro x hx b1 bY wr S9 hs;refine I3 (zql (c:=c) (n:=n) (h.ext S9) hl (hg.ext S9) z4u) ?_;rintro e wv ⟨v,he,n',m',hv,hM,hy⟩;subst hv;refine⟨_,_,_,_,_,_,_,_,_,_,_,he,Qi hy hs,λR5 T'=>⟨n',m',rfl,(hM.ext T' λy hy hm=>?_).mono S9.size,(S9.trans hy).fresh T' λy hm=>.inl (YM hx bY y hm)⟩⟩;have:=(hM.lt y hy).1;have:=hs y hm;omega
end
def zp9{W:Q7}{g c:Int}(h:¬QG W g c<0):Za W g c 20/\QZ W g c 20=Z1 W c (QG W g c).toNat:=by
 unfold Za QZ;unfold QG at h ⊢;rw[B' h];exact⟨Ih Qo,rfl⟩
def zy1{W:Q7}(ha:WA W)(fl:z67 W){c:Int}(c0:0<=c)(c1:c<(W.IF.length:Int))(f:Nat):∀g:Int,Q6 W.IE g->(4-dep 3 W.IE g).toNat=f->(∀x∈QR W.IE g,(Qa W x c).v<=(Qa W (gi W.IE x).IG c).IM)->0<=PN W g c->
  (Q8 W (PN W g c)).v<=(Qa W (Q8 W (PN W g c)).II c).IM/\∀x∈QR W.IE (Q8 W (PN W g c)).II,(Qa W x c).v<=(Qa W (gi W.IE x).IG c).IM:=by
 induction f with
 |zero=>
  intro g hu hf;have:=Kr ha hu;omega
 |succ f ih=>
  intro g hu hf hp h;rw[HS ha hu] at h ⊢
  by_cases h1:QG W g c<0
  ·rw[C' h1] at h;omega
  ·rw[B' h1] at h ⊢;obtain⟨b1,b2⟩:=zp9 h1;have qV:=fl g c hu c0 c1 b1;rw[b2] at qV
   by_cases h2:QG W g c<12
   ·rw[C' h2] at h ⊢
    have hm:Z3 W g c (QG W g c).toNat:=by
     rcases Zg (Z3 W g c) (Z1 W c) 20 with ⟨a,_⟩|⟨_,_,a,_⟩
     ·unfold QG at h1;omega
     ·exact a
    rw[Jn Qo] at hm;unfold Ug at hm;rw[show (((QG W g c).toNat:Nat):Int)=QG W g c by omega] at hm;simp only[A',Is] at hm;unfold Z1 at qV;rw[C' Qo,show (((QG W g c).toNat:Nat):Int)=QG W g c by omega] at qV;rw[show (Q8 W (QG W g c)).II=g from hm.1.2];exact⟨qV,hp⟩
   ·rw[B' h2] at h ⊢;obtain⟨k1,k2,k3,k4⟩:=KT ha hu (g:=g) (c:=c) Qo
    have hm:Z3 W g c (QG W g c).toNat:=by
     rcases Zg (Z3 W g c) (Z1 W c) 20 with ⟨a,_⟩|⟨_,_,a,_⟩
     ·unfold QG at h1;omega
     ·exact a
    rw[show (QG W g c).toNat=12+(QG W g c-12).toNat by omega,J7] at hm;unfold Xb at hm;rw[show (((QG W g c-12).toNat:Nat):Int)=QG W g c-12 by omega] at hm;simp only[A',Is] at hm;unfold Z1 at qV;rw[B' Qo,show (((QG W g c).toNat-12:Nat):Int)=QG W g c-12 by omega] at qV;refine ih _ k1 Qo (λx hx=>?_) h;rw[Yq ha.tree k1 k2] at hx;rcases Ii.1 hx with e|e
    ·rw[e,hm.1.2.2];exact qV
    ·rw[hm.1.2.2] at e;exact hp x e
structure z5z (W:Q7) (c t SX:Int):Prop where
 r0:0<=SX
 r1:SX<50
 t1:(Q8 W t).v-(Qa W (Q8 W t).II c).IM<=QS SX (Qf (Q8 W t).nice)
 t2:(Qa W (Q8 W t).II c).IM<=(Q8 W t).v
 p1:∀x∈QR W.IE (Q8 W t).II,(Qa W x c).v-(Qa W (gi W.IE x).IG c).IM<=QS SX (Qa W x c).w
 p2:∀x∈QR W.IE (Q8 W t).II,(Qa W (gi W.IE x).IG c).IM<=(Qa W x c).v
def z0u{W:Q7}(iv:Xo W){c:Int}(c0:0<=c)(c1:c<(W.IF.length:Int))(hl:zr1 W (Qe W c) c)(hp:¬Qe W c<0):z5z W c (Qe W c) (gi (ZX W c (Qe W c)).IF c).SX:=by
 have wp:=iv.wp;have p:=XJ wp;have h:=OY p hl.t0 hl.t1 (by rw[hl.st];decide);have e:gi (ZX W c (Qe W c)).IF c=Yf W c (Qe W c):=(Qx _ _ c0 c1 c0).trans (C' rfl)
 have t2:(Qa W (Q8 W (Qe W c)).II c).IM<=(Q8 W (Qe W c)).v:=by
  have:=(h.f hl.st).1
  rwa[hl.R1] at this
 have p2:∀x∈QR W.IE (Q8 W (Qe W c)).II,(Qa W (gi W.IE x).IG c).IM<=(Qa W x c).v:=λx hx=>by
  obtain⟨xu,xz⟩:=Yv wp.a.tree _ h.g x hx;exact((p.s x c xu c0 c1).st xz (hl.on x hx)).1
 rw[e]
 by_cases hc:(gi W.IF c).cur>=0/\(gi W.IF c).SX<50
 ·have hpk:Qe W c=(gi W.IF c).cur:=by unfold Qe;rw[C' hc]
  have hs:Yf W c (Qe W c)=gi W.IF c:=by
   unfold Yf;rw[B'];rintro (h|h)
   ·exact h hpk
   ·omega
  rw[hs];have hy:=(p.c c c0 c1).yes hc.1;have hq:=(p.c c c0 c1).q hc.1 (by rw[<-hpk];exact hl.st) (by rw[<-hpk];exact hl.R1);rw[<-hpk] at hq;exact⟨Qo,hc.2,hq.1,t2,λx hx=>(hq.2 x hx).2,p2⟩
 ·have hpk:Qe W c=PN W 0 c:=by unfold Qe;rw[B' hc]
  have hs:(Yf W c (Qe W c)).SX=0:=by
   unfold Yf;rw[C']
   by_cases h0:(gi W.IF c).cur>=0
   ·exact .inr Qo
   ·exact .inl Qo
  rw[hs];have hn:=zy1 wp.a iv.fl c0 c1 _ 0 wp.a.root rfl (λx hx=>by rw[show QR W.IE 0=[] from Zh _ _] at hx;cases hx) (by rw[<-hpk];omega);rw[<-hpk] at hn;have v0:∀w:Int,0<=QS 0 w:=λw=>(Pl 0 w).1
  refine⟨I2 _,Qd,?_,t2,λx hx=>?_,p2⟩
  ·have:=v0 (Qf (Q8 W (Qe W c)).nice);have:=hn.1;omega
  ·have:=v0 (Qa W x c).w;have:=hn.2 x hx;omega
def zy7{gs:List ZD}(ht:Yr gs):∀g:Int,Q6 gs g->∀x∈QR gs g,dep 3 gs x<=dep 3 gs g:=
 MK ht (λx hx=>by rw[show QR gs 0=[] from Zh _ _] at hx;cases hx) λh hu hz ih x hx=>by
  rw[Yq ht hu hz] at hx;rcases Ii.1 hx with e|e
  ·subst e;exact I2 _
  ·obtain⟨_,_,_,d,e1,e2,_⟩:=Y0 ht hu hz;have:=ih x e;omega
def zs4{gs:List ZD}(ht:Yr gs):∀g:Int,Q6 gs g->(QR gs g++[0]).Nodup:=
 MK ht (by rw[show QR gs 0=[] from Zh _ _];simp) λh hu hz ih=>by
  rw[Yq ht hu hz,List.cons_append,List.nodup_cons];refine⟨λhm=>?_,ih⟩;rcases Im.1 hm with hm|hm
  ·obtain⟨hp,_,_,d,e1,e2,_⟩:=Y0 ht hu hz;have:=zy7 ht _ hp h hm;omega
  ·exact hz (IA.1 hm)
def z02{W:Q7}{c n g:Int}(bU:W.IE.length=8)(u0:0<=g)(u1:g<8)(c0:0<=c)(cs:c<((gi W.IE g).IH.length:Int))(i d:Int)(hi:0<=i)(hd:0<=d):Qa (GQ W c n g) i d=if g=i/\c=d then Gg W c n g else Qa W i d:=by
 rw[<-UV (W:=W) (s:=Gg W c n g) u0 Qo c0 cs hi hd];have hl2:g<((PJ W c n g).IE.length:Int):=by rw[LD];omega
 have uG:g<((R3 (PJ W c n g) g (KN W c n g)).IE.length:Int):=by simp only[R3,E'];rw[LD];omega
 unfold Qa;show gi (gi (GQ W c n g).IE i).IH d=gi (gi (PJ W c n g).IE i).IH d;unfold GQ RF;rw[Ym u0 uG hi,Ym u0 hl2 hi,Ym u0 hl2 u0,C' rfl];split
 ·rename_i e;subst e;rfl
 ·rfl
def z03{K S c n:Int}(c0:0<=c)(n0:0<=n)(n1:n<=100):∀(l:List Int) {W:Q7},l.Nodup->SW K W->RB S W->S+100*(l.length:Int)<=100000000000000000->c<(W.IF.length:Int)->(∀g∈l,Q6 W.IE g)->
  ∀i d:Int,0<=i->0<=d->Qa (DD c n l W) i d=if i∈l/\c=d then Gg W c n i else Qa W i d:=by
 intro l
 induction l generalizing K S with
 |nil=>
  intro W _ _ _ _ _ _ i d _ _;rw[B' Qs];rfl
 |cons g l ih=>
  intro W nd sw rb hS c1 hu i d hi hd;rw[List.length_cons] at hS;have tI:=hu g I9;obtain⟨u0,u1,_⟩:=sw.a.u tI;have hsl:=sw.a.sl tI;have h1:=zku sw rb Qo c0 c1 tI n0 n1;obtain⟨hng,ndl⟩:=List.nodup_cons.1 nd;have e:=z02 (n:=n) sw.a.gl u0 u1 c0 Qo;rw[zcs,ih ndl h1.sw (h1.rb.mono (show S+n<=S+100 by omega)) Qo (by rw[h1.cp];exact c1) (λx hx=>by rw[h1.g.aO];exact hu x (I1 _ hx)) i d hi hd]
  by_cases hil:i∈l
  ·have hgi:g≠i:=λh=>hng (h▸hil)
   by_cases hcd:c=d
   ·rw[C' ⟨hil,hcd⟩,C' ⟨I1 _ hil,hcd⟩];unfold Gg;rw[e i c hi c0,B' λh=>hgi h.1]
   ·rw[B' λh=>hcd h.2,B' λh=>hcd h.2,e i d hi hd,B' λh=>hcd h.2]
  ·rw[B' λh=>hil h.1,e i d hi hd]
   by_cases hgi:g=i
   ·subst hgi
    by_cases hcd:c=d
    ·rw[C' ⟨rfl,hcd⟩,C' ⟨I9,hcd⟩]
    ·rw[B' λh=>hcd h.2,B' λh=>hcd h.2]
   ·rw[B' λh=>hgi h.1,B'];rintro⟨hm,_⟩;rcases Ii.1 hm with h|h
    ·exact hgi h.symm
    ·exact hil h
def ztt{a b w:Int}(ha:0<=a)(hb:0<=b)(h:a+b<=149)(w1:1<=w)(w2:w<=20):QS (a+b) w=QS a w+QS b w/\QS a w+QS b w<=ZT w:=by
 have e1:=Lt ha hb Qo w1 w2;have e2:=Lt (a:=a+b) (b:=149-(a+b)) (w:=w) Qo Qo Qo w1 w2;rw[show a+b+(149-(a+b))=149 by omega] at e2;have:=(Pl (149-(a+b)) w).1;unfold ZT;omega
structure z7c (V T:Q7) (c t:Int):Prop where
 tk:T.IJ=V.IJ
 g:QH V.IE T.IE
 s:∀i:Int,0<=i->(gi T.IE i).IH=(gi V.IE i).IH
 cp:∀d:Int,0<=d->gi T.IF d=if c=d then Yf V c t else gi V.IF d
 l:T.IF.length=V.IF.length
def z38{K S:Int}{V T:Q7}{c t m:Int}(iv:Xo V)(hM:z7c V T c t)(sw:SW K T)(rb:RB S T)(hS:0<=S/\S+500<=100000000000000000)(c0:0<=c)(c1:c<(V.IF.length:Int))(up:(gi V.IF c).up)(t0:0<=t)(t1:t<12)(kE:(Q8 V t).state=1)(kH:(Q8 V t).R1=c)(qU:(Yf V c t).cur=t)(hb:z5z V c t (Yf V c t).SX)(m0:1<=m)(m1:m<=100):TX (Ui T c t m):=by
 have wp:=iv.wp;have p:=XJ wp;have hht:=OY p t0 t1 (by rw[kE];decide);have bU:=wp.a.gl;have jF:=wp.a.t;have c1T:c<(T.IF.length:Int):=by rw[hM.l];exact c1
 have eTc:gi T.IF c=Yf V c t:=(hM.cp c c0).trans (C' rfl);have upT:(gi T.IF c).up:=by rw[eTc];unfold Yf;split <;> exact up
 have AN3:(gi T.IF c).SX<50:=by rw[eTc];exact hb.r1
 have hg:Q6 V.IE (Q8 V t).II:=hht.g;have huT:Q6 T.IE (Q8 T t).II:=by rw[hM.g.aO,YE hM.tk];exact hg
 have pT:QV T t=QV V t:=Bl hM.tk hM.g t;obtain⟨sE,rE,_,_,hlE,_,s1,r1,cp1⟩:=Ee sw rb hS.2 c0 c1T upT AN3 t0 t1 huT Qo m1;obtain⟨pin,Bt2⟩:=HY sw.a huT;have hTG:QH V.IE (Ui T c t m).IE:=hM.g.trans cp1.g;have shT:∀i d:Int,0<=i->Qa T i d=Qa V i d:=λi d hi=>by unfold Qa;rw[hM.s i hi]
 have hnd:(QV T t).Nodup:=by rw[pT];exact zs4 wp.a.tree _ hg
 have eS:∀i d:Int,0<=i->0<=d->Qa (Ui T c t m) i d=if i∈QV V t/\c=d then Gg V c m i else Qa V i d:=λi d hi hd=>by
  have e:=z03 c0 Qo m1 (QV T t) hnd s1 r1 Qo c1T pin i d hi hd;have e':Qa (Ui T c t m) i d=if i∈QV T t/\c=d then Gg T c m i else Qa T i d:=e;rw[e',pT,shT i d hi];have:Gg T c m i=Gg V c m i:=by unfold Gg;rw[shT i c hi]
  rw[this]
 have fF:∀i d:Int,0<=i->0<=d->(Qa (Ui T c t m) i d).IM=(Qa V i d).IM:=λi d hi hd=>by
  rw[eS i d hi hd];split
  ·rename_i h;rw[<-h.2];rfl
  ·rfl
 have fO:∀i d:Int,0<=i->0<=d->(Qa (Ui T c t m) i d).on=(Qa V i d).on:=λi d hi hd=>by
  rw[eS i d hi hd];split
  ·rename_i h;rw[<-h.2];rfl
  ·rfl
 have fW:∀i d:Int,0<=i->0<=d->(Qa (Ui T c t m) i d).w=(Qa V i d).w:=λi d hi hd=>by
  rw[eS i d hi hd];split
  ·rename_i h;rw[<-h.2];rfl
  ·rfl
 have fV:∀i d:Int,0<=i->0<=d->¬(i∈QR V.IE (Q8 V t).II/\c=d)->(Qa (Ui T c t m) i d).v=(Qa V i d).v:=λi d hi hd hn=>by
  rw[eS i d hi hd];split
  ·rename_i h
   have hz:¬i≠0:=λhz=>by
    rcases Im.1 h.1 with h'|h'
    ·exact hn ⟨h',h.2⟩
    ·exact hz (IA.1 h')
   rw[<-h.2];show (if i≠0 then _ else _)=_;rw[B' hz]
  ·rfl
 have fP:∀i:Int,i∈QR V.IE (Q8 V t).II->(Qa (Ui T c t m) i c).v=(Qa V i c).v+QS m (Qa V i c).w:=λi hi=>by
  obtain⟨iu,iz⟩:=Yv wp.a.tree _ hg i hi;rw[eS i c (Q2.1 iu).1 c0,C' ⟨Ia _ hi,rfl⟩];show (if i≠0 then _ else _)=_;rw[C' iz]
 have eK:∀i:Int,0<=i->Q8 (Ui T c t m) i=if t=i then Tb V t m else Q8 V i:=λi hi=>by
  have h1:Q8 (Ui T c t m) i=gi (T.IJ.set t.toNat (Tb T t m)) i:=by
   show gi (DD c m (QV T t) (J' T t (Tb T t m))).IJ i=_;rw[cp1.t];rfl
  have h2:Tb T t m=Tb V t m:=by unfold Tb;rw[YE hM.tk]
  rw[h1,Qx _ _ t0 (by rw[hM.tk];omega) hi,h2];split
  ·rfl
  ·exact YE hM.tk i
 have eC:∀d:Int,0<=d->gi (Ui T c t m).IF d=if c=d then Fp T c m else gi V.IF d:=λd hd=>by
  have h1:gi (Ui T c t m).IF d=gi (T.IF.set c.toNat (Fp T c m)) d:=by
   show gi ((DD c m (QV T t) (J' T t (Tb T t m))).IF.set c.toNat (Fp T c m)) d=_;rw[cp1.cp];rfl
  rw[h1,Qx _ _ c0 c1T hd];split
  ·rfl
  ·rename_i h;rw[hM.cp d hd,B' h]
 have wn:1<=Qf (Q8 V t).nice/\Qf (Q8 V t).nice<=20:=by
  have:=Xa (Q8 V t).nice;have:=hht.n;omega
 have hv0:∀w:Int,0<=QS m w:=λw=>(Pl m w).1
 have C25:∀i d:Int,Q6 V.IE i->0<=d->d<(V.IF.length:Int)->1<=(Qa V i d).w/\(Qa V i d).w<=20:=λi d hu d0 d1=>by
  have:=EJ wp hu d0 d1;exact⟨this.w1,this.w2⟩
 have vt:=ztt hb.r0 (show 0<=m by omega) (by have:=hb.r1;omega) wn.1 wn.2
 have vp:∀i:Int,i∈QR V.IE (Q8 V t).II->QS ((Yf V c t).SX+m) (Qa V i c).w=QS (Yf V c t).SX (Qa V i c).w+QS m (Qa V i c).w/\QS (Yf V c t).SX (Qa V i c).w+QS m (Qa V i c).w<=ZT (Qa V i c).w:=λi hi=>by
  have h:=C25 i c (Yv wp.a.tree _ hg i hi).1 c0 c1;exact ztt hb.r0 (show 0<=m by omega) (by have:=hb.r1;omega) h.1 h.2
 have B35:∀i:Int,Q6 V.IE i->i≠0->0<=(gi V.IE i).IG:=λi hu hz=>(Q2.1 (Y0 wp.a.tree hu hz).1).1
 have Ca9:∀i:Int,i∈QR V.IE (Q8 V t).II->VY (Ui T c t m) i c:=λi hi=>by
  obtain⟨iu,iz⟩:=Yv wp.a.tree _ hg i hi;have i0:=(Q2.1 iu).1;unfold VY;rw[hTG.p,fF _ c (B35 i iu iz) c0,fP i hi,fW i c i0 c0];have h1:=hb.p1 i hi;have h2:=hb.p2 i hi;have h3:=vp i hi;have:=hv0 (Qa V i c).w;omega
 refine⟨⟨sE.a,λi a b=>?_,λi a b n=>?_,λk d hk d0 d1=>?_⟩,λd d0 d1=>?_⟩
 ·have hrt:=rE.t i a b;rw[eK i a] at hrt ⊢;split
  ·rename_i he;rw[C' he] at hrt;refine .inr ⟨by show (Q8 V t).state≠0;rw[kE];decide,hht.st,by rw[hTG.aO];exact hg,hht.n,hht.m,hht.m0,Xj.2 ⟨hrt.1,Qo⟩,Xj.2 ⟨hrt.2.2.1,Qo⟩,hht.l1,hht.l2,λ_=>?_⟩;show (Qa (Ui T c t m) (Q8 V t).II (Q8 V t).R1).IM<=(Q8 V t).v+QS m (Qf (Q8 V t).nice)/\(Q8 V t).v+QS m (Qf (Q8 V t).nice)-(Qa (Ui T c t m) (Q8 V t).II (Q8 V t).R1).IM<=ZT (Qf (Q8 V t).nice);rw[kH,fF _ c (Q2.1 hg).1 c0];have:=hb.t1;have:=hb.t2;have:=hv0 (Qf (Q8 V t).nice);omega
  ·rcases p.t i a b with h|⟨h1,h2⟩
   ·exact .inl h
   ·refine .inr ⟨h1,h2.st,by rw[hTG.aO];exact h2.g,h2.n,h2.m,h2.m0,h2.s,h2.u,h2.l1,h2.l2,λhs=>?_⟩;rw[fF _ _ (Q2.1 h2.g).1 (p.l i a b h1).1];exact h2.f hs
 ·rw[hlE,hM.l];rw[eK i a] at n ⊢;split
  ·show 0<=(Q8 V t).R1/\(Q8 V t).R1<_;rw[kH];exact⟨c0,c1⟩
  ·rename_i he;rw[B' he] at n;exact p.l i a b n
 ·have hrs:=rE.s k d hk d0 d1;rw[hTG.aO] at hk;rw[hlE,hM.l] at d1;have k0:=(Q2.1 hk).1;have hp:=p.s k d hk d0 d1;refine⟨Xj.2 ⟨hrs.1,Qo⟩,λhz=>?_,λhz ho=>?_⟩
  ·have h:=hp.root hz;rw[fO k d k0 d0,fW k d k0 d0,fV k d k0 d0 λh=>(Yv wp.a.tree _ hg k h.1).2 hz];exact h
  ·rw[fO k d k0 d0] at ho
   by_cases hin:k∈QR V.IE (Q8 V t).II/\c=d
   ·obtain⟨h1,rfl⟩:=hin;exact Ca9 k h1
   ·have h:=hp.st hz ho;unfold VY at h ⊢;rw[hTG.p,fF _ d (B35 k hk hz) d0,fV k d k0 d0 hin,fW k d k0 d0];exact h
 ·have hrc:=rE.c d d0 d1;rw[hlE,hM.l] at d1
  by_cases hd:c=d
  ·subst hd;have e:=(eC c c0).trans (C' rfl);have A35:(gi (Ui T c t m).IF c).cur=t:=by rw[e];show (gi T.IF c).cur=t;rw[eTc];exact qU
   have Cs7:(gi (Ui T c t m).IF c).SX=(Yf V c t).SX+m:=by rw[e];show (gi T.IF c).SX+m=_;rw[eTc]
   have bM:=hb.r0;have vL:=hb.r1;refine⟨Xj.2 ⟨hrc.1,Qo⟩,Xj.2 ⟨hrc.2.2.1,by have:=hrc.2.2.2.1;omega⟩,Qo,Qo,λh0=>by omega,λ_=>⟨by rw[e];exact upT,Qo,Qo⟩,λ_ _ _=>?_⟩;rw[A35,Cs7,eK t t0,C' rfl];refine⟨?_,λx hx=>?_⟩
   ·show (Q8 V t).v+QS m (Qf (Q8 V t).nice)-(Qa (Ui T c t m) (Q8 V t).II c).IM<=QS ((Yf V c t).SX+m) (Qf (Q8 V t).nice);rw[fF _ c (Q2.1 hg).1 c0,vt.1];have:=hb.t1;omega
   ·have hx:x∈QR (Ui T c t m).IE (Q8 V t).II:=hx;rw[Jc hTG] at hx;obtain⟨xu,xz⟩:=Yv wp.a.tree _ hg x hx;refine⟨Ca9 x hx,?_⟩;rw[hTG.p,fF _ c (B35 x xu xz) c0,fP x hx,fW x c (Q2.1 xu).1 c0,(vp x hx).1];have:=hb.p1 x hx;omega
  ·have e:=(eC d d0).trans (B' hd);have h:=p.c d d0 d1;refine⟨by rw[e];exact h.b,by rw[e];exact h.i,by rw[e];exact h.c1,by rw[e];exact h.c2,by rw[e];exact h.no,by rw[e];exact h.yes,?_⟩;rw[e];intro h0 h1 h2;rw[eK _ h0] at h1 h2 ⊢
   by_cases ht:t=(gi V.IF d).cur
   ·rw[C' ht] at h2;have h2:(Q8 V t).R1=d:=h2;exact Ir (kH.symm.trans h2) hd
   ·rw[B' ht] at h1 h2 ⊢;obtain⟨q1,q2⟩:=h.q h0 h1 h2;have kJ:=(OY p h0 h.c2 (by rw[h1];decide)).g;refine⟨by rw[fF _ d (Q2.1 kJ).1 d0];exact q1,λx hx=>?_⟩;rw[Jc hTG] at hx;obtain⟨xu,xz⟩:=Yv wp.a.tree _ kJ x hx;have x0:=(Q2.1 xu).1;have:=q2 x hx;unfold VY at this ⊢;rw[hTG.p,fF _ d (B35 x xu xz) d0,fV x d x0 d0 λh=>hd h.2,fW x d x0 d0];exact this
def z2v(W:Q7)(c n g:Int):O0 W (GQ W c n g):=
 ((zfp W g c (Gg W c n g)).trans (zrj (W:=PJ W c n g) (g:=g) (x:=KN W c n g) rfl rfl rfl rfl rfl)).trans (zri _ _ _)
def ztk(c n:Int):∀(l:List Int) (W:Q7),O0 W (DD c n l W)
 |[],W=>O0.refl _
 |g::l,W=>(z2v W c n g).trans (ztk c n l _)
def ztl(W:Q7)(c g:Int):O0 W (K5 W c g).1:=by
 unfold K5;split
 ·exact O0.refl _
 ·exact zri _ _ _
def ztm(c:Int):∀(l:List Int) (W:Q7),O0 W (DW c l W).1
 |[],W=>O0.refl _
 |g::l,W=>by
  simp only[DW];split
  ·exact(ztl W c g).trans (ztm c l _)
  ·exact ztl W c g
def zzr(W:Q7)(c t:Int):O0 W (ZX W c t):=zmj (by unfold Yf;split <;> rfl)
def zug(W:Q7)(c t:Int):XA (Yf W c t)=XA (gi W.IF c):=by unfold Yf;split <;> rfl
def z1n{f:Nat}{c left:Int}{W0 V:Q7}(h:Md f c W0 V left)(iv:Xo V):Xo (Qb (Rc (RO V c (OL V c left)) c)):=by
 have p:=XJ iv.wp;have c0:=h.c0;have c1:=h.c1;have hK:=M3 h.f2;have hh0:(0:Int)<=Ql:=Qd;have kE:UW=173430457200:=rfl;obtain⟨sE,s1,i3,i4⟩:=zlj h;have hl:(RO V c (OL V c left)).IF.length=V.IF.length:=E'
 have hP:TX (RO V c (OL V c left)):=by
  refine⟨⟨s1.a,λt t0 t1=>(p.t t t0 t1).imp id λh=>⟨h.1,h.2.gr rfl⟩,λt t0 t1 n=>?_,λk d hk d0 d1=>?_⟩,λd d0 d1=>?_⟩
  ·rw[hl];exact p.l t t0 t1 n
  ·rw[hl] at d1;exact(p.s k d hk d0 d1).Bm7 rfl λ_=>rfl
  ·rw[hl] at d1;have hd:=p.c d d0 d1;have e:gi (RO V c (OL V c left)).IF d=if c=d then OL V c left else gi V.IF d:=Qx _ _ c0 c1 d0
   by_cases he:c=d
   ·subst he;have e:=e.trans (C' rfl);exact⟨by rw[e];exact hd.b,by rw[e];exact Xj.2 ⟨i3,by show (gi V.IF c).idle+left<=_;omega⟩,by rw[e];exact hd.c1,by rw[e];exact hd.c2,by rw[e];exact hd.no,by rw[e];exact hd.yes,by rw[e];exact hd.q⟩
   ·have e:=e.trans (B' he);exact⟨by rw[e];exact hd.b,by rw[e];exact hd.i,by rw[e];exact hd.c1,by rw[e];exact hd.c2,by rw[e];exact hd.no,by rw[e];exact hd.yes,by rw[e];exact hd.q⟩
 exact ZQ sE Qo Qo (hP.Rc c0 (by rw[hl];exact c1)) (((zmj (W:=V) (c:=c) (x:=OL V c left) rfl).loc rfl (Vd iv.wp)).Rc _)
def ztd{f:Nat}{c left:Int}{W0 V:Q7}(h:Md (f+1) c W0 V left)(iv:Xo V)(hl:0<left)(hp:¬Qe V c<0):Xo (Uk V c left).1:=by
 have hR:=TO h hl hp;have c0:=h.c0;have c1:=h.c1;have hK:=M3 h.f2;have hSu:=Bn h.f2;have hh0:(0:Int)<=Ql:=Qd;have kE:UW=173430457200:=rfl;have hlg:Qh=34686091440:=rfl;have t0:=hR.line.t0;have t1:=hR.line.t1;obtain⟨q1,q2,q3,q4,q5,q6⟩:=Ki h.sw h.rb c0 c1 h.up t0 t1;have eC:(Zl V c).1.IF=(ZX V c (Qe V c)).IF:=hR.tk.o.c;have lT:(Zl V c).1.IF.length=V.IF.length:=by rw[eC];exact q6
 have cT:c<((Zl V c).1.IF.length:Int):=by rw[lT];exact c1
 have rT:RB (Dy (f+1)) (Zl V c).1:=hR.r1.sum hR.tk.su hR.tk.o.g (by rw[eC]);have eT:(Zl V c).1.IJ=V.IJ:=hR.tk.o.t;have eG:QH V.IE (Zl V c).1.IE:=hR.tk.o.g;have eN:(Zl V c).1.now=V.now:=hR.tk.o.n;have eSh:∀i:Int,0<=i->(gi (Zl V c).1.IE i).IH=(gi V.IE i).IH:=hR.tk.o.s;have sT:O0 V (Zl V c).1:=(zzr V c (Qe V c)).trans (ztm c _ _);have lcT:zbm (Zl V c).1:=sT.loc eT (Vd iv.wp)
 have eCp:∀d:Int,0<=d->gi (Zl V c).1.IF d=if c=d then Yf V c (Qe V c) else gi V.IF d:=λd hd=>by
  rw[eC];exact Qx _ _ c0 c1 hd
 have hRW:Uk V c left=if (Zl V c).2=true then (Qb (Ui (Zl V c).1 c (Qe V c) (ZV V c left)),left-ZV V c left) else (Qb (Rc (Zl V c).1 c),left):=rfl;rw[hRW]
 by_cases gt:(Zl V c).2=true
 ·rw[C' gt];obtain⟨m1,m2⟩:=hR.m gt;obtain⟨sC,rC⟩:=hR.ch gt;have uG:=h.l1;have hb:=z0u iv c0 c1 hR.line hp;have es:gi (ZX V c (Qe V c)).IF c=Yf V c (Qe V c):=(Qx _ _ c0 c1 c0).trans (C' rfl);rw[es] at hb q5;have hP:TX (Ui (Zl V c).1 c (Qe V c) (ZV V c left)):=z38 iv ⟨eT,eG,eSh,eCp,lT⟩ hR.tk.sw rT ⟨Qo,Qo⟩ c0 c1 h.up t0 t1 hR.line.st hR.line.R1 q5 hb m1 Qo;refine ZQ sC Qo Qo hP ?_;have uT:Q6 (Zl V c).1.IE (Q8 (Zl V c).1 (Qe V c)).II:=by rw[eG.aO,YE eT];exact hR.us
  have upT:(gi (Zl V c).1.IF c).up:=by rw[eC];exact q3
  have AN3:(gi (Zl V c).1.IF c).SX<50:=by rw[eC];exact hR.SX
  have cp1:=(Ee (t:=Qe V c) (n:=ZV V c left) hR.tk.sw rT Qo c0 cT upT AN3 t0 t1 uT Qo Qo).2.2.2.2.2.2.2.2;have l1:zbm (J' (Zl V c).1 (Qe V c) (Tb (Zl V c).1 (Qe V c) (ZV V c left))):=lcT.J' hR.tk.sw.a t0 t1 λn=>lcT _ t0 t1 n
  have l2:=(ztk c (ZV V c left) (QV (Zl V c).1 (Qe V c)) (J' (Zl V c).1 (Qe V c) (Tb (Zl V c).1 (Qe V c) (ZV V c left)))).loc cp1.t l1;refine O0.loc (zmj ?_) rfl l2;show (gi (Zl V c).1.IF c).up=(gi (DD c (ZV V c left) (QV (Zl V c).1 (Qe V c)) (J' (Zl V c).1 (Qe V c) (Tb (Zl V c).1 (Qe V c) (ZV V c left)))).IF c).up;rw[cp1.cp];rfl
 ·rw[B' gt]
  have hE:Rc (Zl V c).1 c=Rc { (Zl V c).1 with IF:=V.IF } c:=by
   have e1:=(eCp c c0).trans (C' rfl);show ({ (Zl V c).1 with IF:=(Zl V c).1.IF.set c.toNat (XA (gi (Zl V c).1.IF c)) }:Q7)={ (Zl V c).1 with IF:=V.IF.set c.toNat (XA (gi V.IF c)) };rw[e1,zug,eC];show ({ (Zl V c).1 with IF:=(V.IF.set c.toNat (Yf V c (Qe V c))).set c.toNat (XA (gi V.IF c)) }:Q7)=_;rw[List.set_set]
  have ha:WA ({ (Zl V c).1 with IF:=V.IF }:Q7):=hR.tk.sw.a.cp lT.symm iv.wp.a.ups;have p2:TX ({ (Zl V c).1 with IF:=V.IF }:Q7):=(XJ iv.wp).A96 ⟨eN,rfl,eT,eG,eSh⟩ ha;have lU:=lcT.Rc c;have sE:=hR.tk.sw.Rc c0 cT;rw[hE] at lU sE ⊢;exact ZQ sE Qo Qo (p2.Rc c0 c1) lU
def zow{c:Int}{W0:Q7}:∀(f:Nat) {V:Q7} {left:Int},Md f c W0 V left->Xo V->Xo (PD c f V left)
 |0,V,left,h,_=>by
  have:=h.f1;have:=h.l0;omega
 |f+1,V,left,h,iv=>by
  have hK:=M3 h.f2;have hh0:(0:Int)<=Ql:=Qd;have kE:UW=173430457200:=rfl
  by_cases hl:left<=0
  ·rw[Ph hl];exact ZQ h.sw Qo Qo (XJ iv.wp) (Vd iv.wp)
  ·by_cases hp:Qe V c<0
   ·rw[OP hl hp];exact z1n h iv
   ·rw[UT hl hp];have hR:=TO h Qo hp;exact zow f hR.nx (ztd h iv Qo hp)
def za9{W:Q7}{c n:Int}(iv:Xo W)(hb:X9 W c n=0):Xo (J9 W c n):=zow 400 (G4 (Qm.2 iv.wp) hb).2.2.2.2 iv
def zv7{W:Q7}(wp:XQ W){c:Int}(c0:0<=c)(c1:c<(W.IF.length:Int)):XQ (Rc W c):=by
 have hl:(Rc W c).IF.length=W.IF.length:=E';have e:∀d:Int,0<=d->gi (Rc W c).IF d=if c=d then XA (gi W.IF c) else gi W.IF d:=λd d0=>Qx _ _ c0 c1 d0
 have sta:=D1 W c
 have ha:WA (Rc W c):=wp.a.cp (cs:=W.IF.set c.toNat (XA (gi W.IF c))) E' (by
  rw[show JG (W.IF.set c.toNat (XA (gi W.IF c)))=JG W.IF from sta.ups];exact wp.a.ups)
 refine⟨ha,λt t0 t1=>?_,λk d k0 k1 d0 d1=>?_,λd d0 d1=>?_⟩
 ·rcases wp.t t t0 t1 with hz|⟨n,hx⟩
  ·exact .inl hz
  ·refine .inr ⟨n,hx.st,hx.g,hx.n,hx.m,hx.m0,hx.v,hx.s,hx.u,hx.l1,hx.l2,?_,hx.f⟩;rw[sta.wh];exact hx.c
 ·have hs:=wp.s k d k0 k1 d0 d1;exact⟨hs.f,hs.v,hs.s,hs.w1,hs.w2,hs.root,hs.on,hs.st⟩
 ·rw[hl] at d1;have h:=wp.c d d0 d1
  by_cases hd:c=d
  ·subst hd;have e1:=(e c c0).trans (C' rfl);refine⟨by rw[e1];exact h.b,by rw[e1];exact h.i,by rw[e1];show (-1:Int)<=-1;decide,by rw[e1];show (-1:Int)<_;have:=wp.a.t;show (-1:Int)<(W.IJ.length:Int);omega,λ_=>by rw[e1];rfl,λh0=>?_⟩;rw[e1] at h0;have h0:(0:Int)<=-1:=h0;omega
  ·have e1:=(e d d0).trans (B' hd);refine⟨by rw[e1];exact h.b,by rw[e1];exact h.i,by rw[e1];exact h.c1,by rw[e1];exact h.c2,by rw[e1];exact h.no,λh0=>?_⟩;rw[e1] at h0 ⊢;obtain⟨y1,y2,y3,y4,y5,y6⟩:=h.yes h0;refine⟨y1,y2,y3,y4,y5,?_⟩;unfold MR at y6 ⊢;rw[e1];exact y6
def zus{W:Q7}(iv:Xo W){c:Int}(c0:0<=c)(c1:c<(W.IF.length:Int)):Xo (Rc W c):=
 ⟨zv7 iv.wp c0 c1,λk d hu d0 d1 hb=>by
  have hl:(Rc W c).IF.length=W.IF.length:=E';rw[hl] at d1;exact iv.fl k d hu d0 d1 hb⟩
def B5(W:Q7)(t g:Int):Int:=if Zq (QD W g (Q8 W t).mask) (Q8 W t).R1=true then (Q8 W t).R1 else Dt (QD W g (Q8 W t).mask)
noncomputable def NM(W:Q7)(t g:Int):Int:=if Yn W t=false\/Q6 W.IE g=false then 2 else if QO W=false then 10 else 0
def zaa(W:Q7)(t g:Int):Q7:=if (Q8 W t).II=g then W else Qb (Uj (Z6 W t) t g (B5 W t g))
def zl0{W:Q7}(wp:XQ W){t g:Int}(t0:0<=t)(t1:t<12)(n:(Q8 W t).state≠0):0<=B5 W t g/\B5 W t g<(W.IF.length:Int)/\Zq (QD W g (Q8 W t).mask) (B5 W t g):=by
 unfold B5;split
 ·rename_i h;have:=(XJ wp).l t t0 t1 n;exact⟨this.1,this.2,h⟩
 ·have hw:=HE wp.a g (Q8 W t).mask;have hf:=D6 wp.a g (Q8 W t).mask;exact⟨hf.1,hf.2,B2 hw.1 hw.2⟩
def z1s{W:Q7}{t g:Int}(iv:Xo W)(hb:NM W t g=0):Xo (zaa W t g):=by
 have wp:=iv.wp;unfold NM at hb
 split at hb
 ·cases hb
 ·rename_i h1
  split at hb
  ·cases hb
  ·rename_i h3;have hth:Yn W t:=by cases h:Yn W t with|true=>rfl|false=>exact Ir (.inl h) h1
   have hu:Q6 W.IE g:=by cases h:Q6 W.IE g with|true=>rfl|false=>exact Ir (.inr h) h1
   have hr:QO W:=by simpa using h3
   obtain⟨t0,t1,n⟩:=Y7 hth;have jF:=wp.a.t;unfold zaa;split
   ·exact iv
   ·obtain⟨m0,m1,m2⟩:=zl0 wp (g:=g) t0 Qo n;have sw:=MS wp (Qm.1 hr);obtain⟨c0,c1⟩:=(XJ wp).l t t0 Qo n
    have key:TX (Z6 W t)/\O0 W (Z6 W t)/\SW Ql (Z6 W t)/\Q8 (Z6 W t) t=Q8 W t/\(Z6 W t).IJ=W.IJ/\(Z6 W t).IE=W.IE:=by
     unfold Z6;split
     ·exact⟨(XJ wp).Rc c0 c1,D1 _ _,sw.Rc c0 c1,rfl,rfl,rfl⟩
     ·exact⟨XJ wp,O0.refl _,sw,rfl,rfl,rfl⟩
    obtain⟨k1,k2,k3,k4,k5,k6⟩:=key;have hlo:=k2.loc k5 (Vd wp);have hu2:Q6 (Z6 W t).IE g:=by rw[k6];exact hu
    have hm1:B5 W t g<((Z6 W t).IF.length:Int):=by rw[k2.len];exact m1
    have sf:=(Bm (Lo k3) (I2 _) (t:=t) t0 Qo hu2 m0 hm1).2;refine ZQ sf.w (by simp only[Qh];decide) (by simp only[Qh,UW];decide) (zfe k1 t0 Qo (by rw[k4];exact n) hu2 m0 hm1) λi i0 i1 hn=>?_
    rw[(zbg (Z6 W t) t g (B5 W t g)).wh];rw[zq8 k1.a.t t0 Qo i0] at hn ⊢
    split at hn
    ·rename_i he;rw[C' he];show Zq (QD (Z6 W t) g (Q8 (Z6 W t) t).mask) (B5 W t g)=true;rw[k4,k2.wh];exact m2
    ·rename_i he;rw[B' he];exact hlo i i0 i1 hn
structure zfz (W:Q7) (g:Int):Prop where
 g1:1<=g
 us:Q6 W.IE g=true
 nk:∀h:Int,1<=h->h<8->(gi W.IE h).IV->(gi W.IE h).IG≠g
 nt:∀t:Int,0<=t->t<12->(Q8 W t).state≠0->(Q8 W t).II≠g
def XT(W:Q7)(g:Int):Q7:=R3 W g zfy
section
variable {W:Q7}{g:Int}
def zfz.g8(h:zfz W g)(ha:WA W):g<8:=by
 have:=ha.gl;have:=(Q2.1 h.us).2.1;omega
def DE(ha:WA W)(h:zfz W g){i:Int}(hi:0<=i):gi (XT W g).IE i=if g=i then zfy else gi W.IE i:=Ym (by have:=h.g1;omega) (Q2.1 h.us).2.1 hi
def LE(ha:WA W)(h:zfz W g){k:Int}(hu:Q6 W.IE k)(hk:k≠g):gi (XT W g).IE k=gi W.IE k:=by
 rw[DE ha h (Q2.1 hu).1,B' λe=>hk e.symm]
def zk1(ha:WA W):(XT W g).IE.length=8:=by
 have:=ha.gl;simp[XT,R3];omega
def zcx(ha:WA W)(h:zfz W g){k:Int}(hu:Q6 W.IE k)(hz:k≠0):(gi W.IE k).IG≠g:=by
 obtain⟨a,b,c⟩:=Q2.1 hu;have:=ha.gl;exact h.nk k Qo Qo c
def PU(ha:WA W)(h:zfz W g){k:Int}:Q6 (XT W g).IE k=true↔Q6 W.IE k/\k≠g:=by
 have bU:=ha.gl;rw[Q2,Q2,zk1 ha,bU];constructor
 ·rintro⟨x,y,z⟩;rw[DE ha h x] at z
  by_cases e:g=k
  ·rw[C' e] at z;cases z
  ·rw[B' e] at z;exact⟨⟨x,y,z⟩,λe2=>e e2.symm⟩
 ·rintro⟨⟨x,y,z⟩,e⟩;refine⟨x,y,?_⟩;rw[DE ha h x,B' λe2=>e e2.symm];exact z
def zxl(ha:WA W)(h:zfz W g):∀(f:Nat) (k:Int),Q6 W.IE k->k≠g->dep f (XT W g).IE k=dep f W.IE k
 |0,_,_,_=>rfl
 |f+1,k,hu,hk=>by
  by_cases hz:k=0
  ·subst hz;rw[ZR,ZR]
  ·have ih:=zxl ha h f _ (Y0 ha.tree hu hz).1 (zcx ha h hu hz);simp only[dep];rw[LE ha h hu hk,ih]
def zk2(ha:WA W)(h:zfz W g):∀(f:Nat) (k:Int),Q6 W.IE k->k≠g->UZ f (XT W g).IE k=UZ f W.IE k
 |0,_,_,_=>rfl
 |f+1,k,hu,hk=>by
  by_cases hz:k=0
  ·subst hz;rw[Zh,Zh]
  ·have ih:=zk2 ha h f _ (Y0 ha.tree hu hz).1 (zcx ha h hu hz);simp only[UZ];rw[LE ha h hu hk,ih]
def zp1(ha:WA W)(h:zfz W g):∀k:Int,Q6 W.IE k->k≠g->∀x∈QR W.IE k,x≠g:=
 MK ha.tree (λ_ x hx=>by rw[show QR W.IE 0=[] from Zh _ _] at hx;cases hx) λk hu hz ih hk x hx=>by
  rw[Yq ha.tree hu hz] at hx;rcases Ii.1 hx with e|e
  ·rw[e];exact hk
  ·exact ih (zcx ha h hu hz) x e
def z09(ha:WA W)(h:zfz W g):Yr (XT W g).IE:=by
 have ht:=ha.tree;have r:=LE ha h ha.root (by have:=h.g1;omega)
 have sp:∀{k:Int},1<=k->k<8->(gi (XT W g).IE k).IV->Q6 W.IE k/\k≠g/\gi (XT W g).IE k=gi W.IE k:=λ{k} b d hh=>by
  have:=(PU ha h).1 (Q2.2 ⟨Qo,by rw[zk1 ha];omega,hh⟩);exact⟨this.1,this.2,LE ha h this.1 this.2⟩
 refine⟨zk1 ha,by rw[r];exact ht.ru,by rw[r];exact ht.rp,by rw[r];exact ht.rn,λk b d hh=>?_,λk b d hh=>?_,λk b d hh=>?_,λx k b d e hx hk=>?_⟩
 ·obtain⟨_,_,e⟩:=sp b d hh;rw[e] at hh ⊢;exact ht.nm k b d hh
 ·obtain⟨_,_,e⟩:=sp b d hh;rw[e] at hh ⊢;exact(PU ha h).2 ⟨ht.par k b d hh,h.nk k b d hh⟩
 ·obtain⟨u,n,_⟩:=sp b d hh;rw[zxl ha h 3 k u n];exact ht.dp k b d (Q2.1 u).2.2
 ·rintro⟨q1,q2⟩;obtain⟨u1,_,e1⟩:=sp Qo e hx;obtain⟨u2,_,e2⟩:=sp b Qo hk;rw[e1,e2] at q1 q2;exact ht.uniq x k b d e (Q2.1 u1).2.2 (Q2.1 u2).2.2 ⟨q1,q2⟩
def Mf(ha:WA W)(h:zfz W g){k c:Int}(hu:Q6 W.IE k)(hk:k≠g):Qa (XT W g) k c=Qa W k c:=by
 unfold Qa;rw[LE ha h hu hk]
def z08(wp:XQ W)(h:zfz W g){c:Int}:Qv W g c=false:=by
 have hl:=wp.a.gl;have ht:=wp.a.t
 have e1:∀j,j<W.IJ.length->Ug W g c j=false:=λj hj=>by
  unfold Ug
  cases hs:((gi W.IJ (j:Int)).state==1) with
  |false=>rfl
  |true=>
   have hs:(gi W.IJ (j:Int)).state=1:=by simpa using hs
   have:(gi W.IJ (j:Int)).II≠g:=h.nt (j:Int) Qo Qo (by rw[show (Q8 W (j:Int)).state=1 from hs];decide);rw[show ((gi W.IJ (j:Int)).II==g)=false by simpa using this];rfl
 have e2:∀j,j<W.IE.length->Xb W g c j=false:=λj hj=>by
  unfold Xb
  by_cases hj1:1<=j
  ·cases hs:(gi W.IE (j:Int)).IV with
   |false=>simp
   |true=>
    have:=h.nk (j:Int) Qo Qo hs;rw[show ((gi W.IE (j:Int)).IG==g)=false by simpa using this];simp
  ·rw[decide_eq_false hj1];rfl
 unfold Qv;rw[KQ e1,KQ e2];rfl
def z4b(wp:XQ W)(h:zfz W g){c:Int}(c0:0<=c)(c1:c<(W.IF.length:Int)):(Qa W g c).on=false:=by
 have g1:=h.g1;have:=(wp.s g c Qo (h.g8 wp.a) c0 (by rw[wp.a.sl h.us];exact c1)).on Qo;rw[this,z08 wp h];rfl
def zsc(wp:XQ W)(h:zfz W g){k c:Int}(c0:0<=c)(c1:c<(W.IF.length:Int))(j:Nat):Xb (XT W g) k c j=Xb W k c j:=by
 have ha:=wp.a;unfold Xb
 by_cases e:g=(j:Int)
 ·rw[DE ha h Qo,C' e,<-e,z4b wp h c0 c1];simp[zfy]
 ·rw[DE ha h Qo,B' e]
  have:Qa (XT W g) (j:Int) c=Qa W (j:Int) c:=by
   unfold Qa;rw[DE ha h Qo,B' e]
  rw[this]
def zxk(wp:XQ W)(h:zfz W g){k c:Int}(c0:0<=c)(c1:c<(W.IF.length:Int)):Qv (XT W g) k c=Qv W k c:=by
 unfold Qv;rw[show O1 (Ug (XT W g) k c) (XT W g).IJ.length=O1 (Ug W k c) W.IJ.length from rfl,zk1 wp.a,wp.a.gl];rw[KP λj _=>zsc wp h c0 c1 j]
def z4c(ha:WA W)(h:zfz W g){k:Int}(hu:Q6 W.IE k)(hk:k≠g)(u:Int):Ta (XT W g).IE k u=Ta W.IE k u:=by
 have e:QR (XT W g).IE k=QR W.IE k:=zk2 ha h 3 k hu hk;have g1:=h.g1;unfold Ta;rw[e];refine Nm _ _ λs x hx=>?_
 have hxu:Q6 W.IE x/\x≠g:=by
  rcases Im.1 hx with hx|hx
  ·exact⟨(Yv ha.tree k hu x hx).1,zp1 ha h k hu hk x hx⟩
  ·rw[IA.1 hx];exact⟨ha.root,Qo⟩
 rw[LE ha h hxu.1 hxu.2]
def z6b(ha:WA W)(h:zfz W g){k:Int}(hu:Q6 W.IE k)(hk:k≠g)(m:Int):QD (XT W g) k m=QD W k m:=z0b (W:=W) (W':=XT W g) rfl (z4c ha h hu hk) m
def zsm(iv:Xo W)(h:zfz W g):Xo (XT W g):=by
 have wp:=iv.wp;have ha:=wp.a;have g1:=h.g1;have g8:=h.g8 ha;have bU:=ha.gl;have hpu:∀{k:Int},Q6 W.IE k->k≠0->Q6 W.IE (gi W.IE k).IG:=λhu hz=>(Y0 ha.tree hu hz).1
 have hA:WA (XT W g):=by
  refine⟨ha.n1,ha.n2,ha.c1,ha.c2,ha.t,z09 ha h,ha.ups,λk k0 k1=>?_⟩;unfold Kn;rw[DE ha h k0];split
  ·exact⟨λ_=>⟨rfl,rfl,rfl,rfl,rfl,rfl,rfl,rfl,show ON ⟨0,0,0,[],[]⟩=true by decide⟩,λhh=>by cases hh⟩
  ·have:=ha.grp k k0 k1;exact⟨this.1,λhu=>by have:=this.2 hu;exact⟨this.w1,this.w2,this.m,this.m0,this.s,this.len,this.root,this.none,this.IL⟩⟩
 refine⟨⟨hA,λt t0 t1=>?_,λk c k0 k1 c0 c1=>?_,λc c0 c1=>?_⟩,λk c hu c0 c1 hb=>?_⟩
 ·rcases wp.t t t0 t1 with hz|⟨n,hx⟩
  ·exact .inl hz
  ·have hn:=h.nt t t0 t1 n;refine .inr ⟨n,hx.st,(PU ha h).2 ⟨hx.g,hn⟩,hx.n,hx.m,hx.m0,hx.v,hx.s,hx.u,hx.l1,hx.l2,?_,λhs=>?_⟩
   ·rw[show (Q8 (XT W g) t)=Q8 W t from rfl,z6b ha h hx.g hn];exact hx.c
   ·rw[show (Q8 (XT W g) t)=Q8 W t from rfl,Mf ha h hx.g hn];exact hx.f hs
 ·by_cases e:g=k
  ·subst e;rw[DE ha h k0,C' rfl] at c1;have c1:c<(0:Int):=c1;omega
  ·have hg:gi (XT W g).IE k=gi W.IE k:=by rw[DE ha h k0,B' e]
   have e2:k≠g:=λh=>e h.symm
   rw[hg] at c1
   have hu:Q6 W.IE k:=by
    cases hh:(gi W.IE k).IV with
    |true=>exact Q2.2 ⟨k0,Qo,hh⟩
    |false=>
     have:=((ha.grp k k0 k1).1 hh).l;omega
   have cl:c<(W.IF.length:Int):=by rw[<-ha.sl hu];exact c1
   have hs:=wp.s k c k0 k1 c0 c1;have es:=Mf ha h (c:=c) hu e2;refine⟨by rw[es];exact hs.f,by rw[es];exact hs.v,by rw[es];exact hs.s,by rw[es];exact hs.w1,by rw[es];exact hs.w2,λhz=>by rw[es];exact hs.root hz,λhz=>?_,λhz ho=>?_⟩
   ·rw[es,zxk wp h c0 cl,show Xu (XT W g) k c=Xu W k c by unfold Xu;rw[hg]];exact hs.on hz
   ·rw[es] at ho;rw[es,hg,Mf ha h (hpu hu hz) (zcx ha h hu hz)];exact hs.st hz ho
 ·have hc:=wp.c c c0 c1;refine⟨hc.b,hc.i,hc.c1,hc.c2,hc.no,λh0=>?_⟩;have h0:0<=(gi W.IF c).cur:=h0;obtain⟨y1,y2,y3,y4,y5,y6⟩:=hc.yes h0;have hl:=ha.t;have hc2:=hc.c2
  have kJ:Q6 W.IE (Q8 W (gi W.IF c).cur).II/\(Q8 W (gi W.IF c).cur).II≠g:=by
   rcases wp.t _ h0 Qo with hz|⟨n,hx⟩
   ·unfold Zf at y5;rw[hz.1] at y5;simp at y5
   ·exact⟨hx.g,h.nt _ h0 Qo n⟩
  obtain⟨kJ,hgn⟩:=kJ;have hpt:QR (XT W g).IE (Q8 W (gi W.IF c).cur).II=QR W.IE (Q8 W (gi W.IF c).cur).II:=zk2 ha h 3 _ kJ hgn;refine⟨y1,y2,y3,y4,?_,?_⟩
  ·unfold Zf JR at y5 ⊢;rw[show (gi (XT W g).IF c).cur=(gi W.IF c).cur from rfl,show Q8 (XT W g) (gi W.IF c).cur=Q8 W (gi W.IF c).cur from rfl,hpt];rw[A',List.all_eq_true] at y5 ⊢;exact⟨y5.1,λx hx=>by rw[Mf ha h (Yv ha.tree _ kJ x hx).1 (zp1 ha h _ kJ hgn x hx)];exact y5.2 x hx⟩
  ·unfold MR Oi at y6 ⊢;rw[show (gi (XT W g).IF c).cur=(gi W.IF c).cur from rfl,show (gi (XT W g).IF c).SX=(gi W.IF c).SX from rfl,show Q8 (XT W g) (gi W.IF c).cur=Q8 W (gi W.IF c).cur from rfl,hpt,Mf ha h kJ hgn];rw[A',List.all_eq_true] at y6 ⊢;refine⟨y6.1,λx hx=>?_⟩;obtain⟨xu,xz⟩:=Yv ha.tree _ kJ x hx;have xg:=zp1 ha h _ kJ hgn x hx;rw[Mf ha h xu xg,LE ha h xu xg,Mf ha h (hpu xu xz) (zcx ha h xu xz)];exact y6.2 x hx
 ·have cl:c<(W.IF.length:Int):=c1;obtain⟨hk,hkg⟩:=(PU ha h).1 hu
  have Ab5:∀j,j<20->Z3 (XT W g) k c j=Z3 W k c j:=λj hj=>by
   by_cases vC:j<12
   ·rw[Jn vC,Jn vC];rfl
   ·rw[show j=12+(j-12) by omega,J7,J7,zsc wp h c0 cl (j-12)]
  have hv:∀j,j<20->Z3 (XT W g) k c j->Z1 (XT W g) c j=Z1 W c j:=λj hj hm=>by
   unfold Z1;split
   ·rfl
   ·rename_i vC;have hm2:=hm;rw[show j=12+(j-12) by omega,J7] at hm2;unfold Xb at hm2;simp only[A'] at hm2
    have cU:((j-12:Nat):Int)≠g:=λe=>by
     have hu2:=hm2.1.2.1;rw[DE ha h Qo,C' e.symm] at hu2;cases hu2
    rw[Ab5 j hj,show j=12+(j-12) by omega,J7] at hm;unfold Xb at hm;simp only[A'] at hm;rw[Mf ha h (Q2.2 ⟨Qo,Qo,hm.1.2.1⟩) cU]
  have e:QU (Z3 (XT W g) k c) (Z1 (XT W g) c) 20=QU (Z3 W k c) (Z1 W c) 20:=Pb Ab5 hv;have qV:=iv.fl k c hk c0 cl (by unfold Za at hb ⊢;rwa[e] at hb);rw[Mf ha h hk hkg];refine IC (Int.le_of_eq ?_) qV;unfold Za at hb;have hb:=Ot hb;rw[e] at hb;unfold QZ;rw[e,B' Qo,B' Qo];rcases Zg (Z3 W k c) (Z1 W c) 20 with ⟨q,_⟩|⟨_,q2,q3,_⟩
  ·omega
  ·have IW:(QU (Z3 W k c) (Z1 W c) 20).toNat<20:=Qo;exact hv _ IW (by rw[Ab5 _ IW];exact q3)
def zwg(W:Q7)(g:Int):Prop:=(∃h:Int,1<=h/\h<8/\(gi W.IE h).IV/\(gi W.IE h).IG=g)\/∃t:Int,0<=t/\t<12/\(Q8 W t).state≠0/\(Q8 W t).II=g
noncomputable def N8(W:Q7)(g:Int):Int:=if g=0 then 1 else if Q6 W.IE g=false then 2 else if U0 (zwg W g) then 4 else if QO W=false then 10 else 0
def zxm{W:Q7}{g:Int}(hb:N8 W g=0):zfz W g/\QO W:=by
 unfold N8 at hb
 split at hb
 ·cases hb
 rename_i h1
 split at hb
 ·cases hb
 rename_i h2
 split at hb
 ·cases hb
 rename_i h3
 split at hb
 ·cases hb
 rename_i h4;have h3:¬zwg W g:=λh=>h3 (Qm.2 h)
 have hu:Q6 W.IE g:=by simpa using h2
 have:=(Q2.1 hu).1;exact⟨⟨Qo,hu,λh a b c d=>h3 (.inl ⟨h,a,b,c,d⟩),λt a b c d=>h3 (.inr ⟨t,a,b,c,d⟩)⟩,by simpa using h4⟩
end
def zax(W:Q7)(c:Int):Int:=if Xd W c=false then 1 else if (gi W.IF c).cur<0 then 6 else 0
def zry{W:Q7}{c:Int}(h:zax W c=0):Xd W c/\0<=(gi W.IF c).cur:=by
 unfold zax at h
 split at h
 ·cases h
 ·rename_i h1
  split at h
  ·cases h
  ·exact⟨by simpa using h1,Qo⟩
section
variable {W:Q7}{m:MW}{w:Wo}{bs:List Nat}
def FT{c:Int}(h:XV [] w W m)(hl:VB W) :
  Cz VQ #[.agg (Qc W m).toArray,I c] w λe w'=>∃v,e=.returned v/\QX (Yz W (zax W c) (Rc W c)) w v w':=by
 refine Fz _ _ _ _ _ _ _ _ _ _ c (R:=λv w'=>QX (Yz W (zax W c) (Rc W c)) w v w') ?_;intro y hy y1 cW;have hm0:=XX;have hlc:=hl.c;refine⟨_,Uy h hl.c hl.t hl.g hl.f,λg wr hx=>QX.bad (by simpa using g) hx,λg wr Rk V'=>?_⟩;have hW:Qr W:=by simpa using g
 have wp:=Qm.1 hW;refine I3 (M0 (h.ext Rk) wp.a) ?_;rintro e wv ⟨m',he,hM,SQ⟩;have hK:=Wk.begin hy cW Rk V' hM SQ;have hr:=hK.rd;refine⟨_,_,_,_,_,_,_,_,_,_,he,Qi SQ V',⟨Qo,Qo⟩,Xd W c,Qq,λg R5 Rl=>?_,λg=>?_⟩
 ·have hb:zax W c=1:=by unfold zax;rw[C' (by simpa using g)]
  exact QX.no hW (by rw[hb];decide) (hK.step Rl) hb
 have g:Xd W c:=by simpa using g
 obtain⟨c0,c1⟩:=UF g;refine⟨hr.c.ix Y1 c0 c1,_,hr.c.f c0 c1 (j:=1) rfl,λg2 R6 Rl=>?_,λg2 RE T' dT=>?_⟩
 ·have g2:=Ot g2;have hb:zax W c=6:=by unfold zax;rw[B' (by rw[g];decide),C' g2]
  exact QX.no hW (by rw[hb];decide) (hK.step Rl) hb
 have g2:=Ou g2;have hb:zax W c=0:=by unfold zax;rw[B' (by rw[g];decide),B' g2]
 have eH:=hK.step T';refine I3 (ZS eH.own c0 c1) ?_;rintro e1 Rb ⟨kB,eD⟩;exact⟨_,_,_,_,_,_,_,_,_,_,kB,eH.kept eD dT,λRQ Su=>QX.ok hW hb ((eH.Ss eD dT).step Su)⟩
def zuf(V:Q7)(t g c:Int)(m:MW):Qc (Uj V t g c) m=Qc V m:=by
 unfold Uj
 split <;> simp[Qc,Rc,RO,J']
def z4x{K:Int}{W:Q7}(sw:SW K W){t:Int}(t0:0<=t)(t1:t<12)(n:(Q8 W t).state≠0):SW K (Z6 W t):=by
 unfold Z6;split
 ·have:=sw.t t t0 t1 n;exact sw.Rc this.2.1 this.2.2
 ·exact sw
def k7{t g:Int}(h:XV [] w W m)(hl:VB W) :
  Cz Oy #[.agg (Qc W m).toArray,I t,I g] w λe w'=>∃v,e=.returned v/\QX (Yz W (NM W t g) (zaa W t g)) w v w':=by
 refine CL _ _ _ _ _ _ _ _ _ _ t g (R:=λv w'=>QX (Yz W (NM W t g) (zaa W t g)) w v w') ?_;intro y hy y1 cW wr Rk V';refine I3 (Zn (h.ext Rk) hl) ?_;rintro e wv (⟨hW,he,SQ⟩|⟨hW,m',he,hM,SQ⟩)
 ·exact⟨_,_,_,_,_,_,_,_,_,_,_,he,Qi SQ V',λ_ R5 Rl=>QX.bad hW ((Rk.trans SQ).fresh Rl λz hm=>.inl (YM hy cW z hm)),λg=>by simp at g⟩
 have hK:=Wk.begin hy cW Rk V' hM SQ;have hr:=hK.rd;have wp:=Qm.1 hW;have jF:=wp.a.t;refine⟨_,_,_,_,_,_,_,_,_,_,_,he,Qi SQ V',λg=>by split at g <;> simp at g,λ_=>⟨_,JU hr hl.t,_,λ_=>Xr hr.g,λq R6 Rl=>?_,λq=>?_⟩⟩
 ·have hb:NM W t g=2:=by
   unfold NM;rw[C']
   simpa using q
  exact QX.no hW (by rw[hb];decide) (hK.step Rl) hb
 simp only[H',I6] at q;obtain⟨q1,q2⟩:=q;have n1:¬(Yn W t=false\/Q6 W.IE g=false):=by rw[q1,q2];simp
 obtain⟨t0,t1,tn⟩:=Y7 q1;have Wn:=hr.t.ix QT t0 t1;refine⟨λg3 RE Rl=>?_,λg3=>?_⟩
 ·have bM:¬QO W:=λhr=>by rw[C' hr] at g3;simp at g3
  have hb:NM W t g=10:=by unfold NM;rw[B' n1,C' (by simpa using bM)]
  rw[B' bM];exact QX.no hW (by rw[hb];decide) (hK.step Rl) hb
 have bM:QO W:=Iq λhr=>by rw[B' hr] at g3;simp at g3
 have hb:NM W t g=0:=by unfold NM;rw[B' n1,B' (by rw[bM];decide)]
 have sw:=MS wp (Qm.1 bM);obtain⟨hu,c0,c1⟩:=sw.t t t0 Qo tn;refine⟨Wn,_,_,_,_,_,_,_,_,_,hr.t t t0 t1,λb2 cD=>⟨λg4 RE T'=>?_,λg4=>?_⟩⟩
 ·have g4:(Q8 W t).II=g:=by simpa[Q8] using g4
  have hE:zaa W t g=W:=by unfold zaa;rw[C' g4]
  have:=QX.ok (W':=zaa W t g) hW hb (m':=m') (hE.symm▸hK.step T')
  rwa[hE] at this ⊢
 have g4:¬(Q8 W t).II=g:=by simpa[Q8] using g4
 have hE:zaa W t g=Qb (Uj (Z6 W t) t g (B5 W t g)):=by unfold zaa;rw[B' g4]
 obtain⟨m0,m1,_⟩:=zl0 wp (g:=g) t0 Qo tn;have hK0:=hK.add cD;refine⟨_,Jl hr wp.a.c2 wp.a.tree q2,λvs bs w1=>bs=[]/\vs=[I (B5 W t g)]/\Q0 [y,y1] wv w1,⟨_,Yu,λg5=>⟨_,L7,λRQ Su _=>⟨rfl,?_,Su⟩⟩,λg5 Sj bE _=>⟨rfl,?_,bE⟩⟩,?_⟩
 ·have g5:¬Zq (QD W g (Q8 W t).mask) (Q8 W t).R1:=by simpa[Q8] using g5
  unfold B5;rw[B' g5];rfl
 ·have g5:Zq (QD W g (Q8 W t).mask) (Q8 W t).R1:=by simpa[Q8] using g5
  unfold B5;rw[C' g5];rfl
 rintro cv Rb dE ⟨-,hv,hxv⟩;simp only[I4,I5,true_and,and_true] at hv;subst hv;have C29:Q0 ([y,y1]++[b2]) wv Rb:=hxv.mono λx hm=>Ia _ hm
 have hK1:=hK0.step C29;have e5:Qc (Rc W (Q8 W t).R1) m'=Qc W m':=by simp[Qc,Rc,RO]
 refine⟨λvs bs w1=>bs=[]/\vs=Qc W m'/\Wk 8 ([y,y1]++[b2]) w w1 (Z6 W t) m',⟨hK1.rd.c.ix Y1 c0 c1,_,hK1.rd.c.f c0 c1 (j:=1) rfl,λg6 Sw eQ sH=>?_,λg6 WL kL _=>⟨rfl,rfl,?_⟩⟩,?_⟩
 ·have g6:(gi W.IF (Q8 W t).R1).cur=t:=by simpa using g6
  have fZ:=hK1.step eQ;refine I3 (ZS fZ.own c0 c1) ?_;rintro e1 RI ⟨kB,eD⟩;rw[show Qc (Rc W (gi W.IJ t).R1) m'=Qc W m' from e5] at kB;refine⟨_,_,_,_,_,_,_,_,_,_,kB,fZ.kept eD sH,λSZ sV _=>⟨rfl,rfl,?_⟩⟩;have hlv:Z6 W t=Rc W (Q8 W t).R1:=by unfold Z6;rw[C' g6]
  rw[hlv];exact(fZ.Ss eD sH).step sV
 ·have g6:¬(gi W.IF (Q8 W t).R1).cur=t:=by simpa using g6
  have hlv:Z6 W t=W:=by unfold Z6;rw[B' g6]
  rw[hlv];exact hK1.step kL
 rintro l S8 Si Sp Se Sk Sn Sf Sg Sh S3 fY ⟨-,hv,qR⟩;simp only[Qc,I4,I5,Iv,true_and,and_true] at hv;obtain⟨rfl,⟨rfl,rfl,rfl⟩,⟨rfl,rfl,rfl⟩,rfl,rfl,rfl⟩:=hv;have swl:=z4x sw t0 Qo tn;have ht:(Z6 W t).IJ=W.IJ:=by unfold Z6;split <;> rfl
 have hg:(Z6 W t).IE=W.IE:=by unfold Z6;split <;> rfl
 have qT:(Z6 W t).IF.length=W.IF.length:=by
  unfold Z6;split
  ·exact E'
  ·rfl
 have hn:(Z6 W t).now=W.now:=by unfold Z6;split <;> rfl
 have eL:∀mm,Qc (Z6 W t) mm=Qc W mm:=λmm=>by simp[Qc,ht,hg,qT,hn]
 have tn2:(Q8 (Z6 W t) t).state≠0:=by rw[YE ht];exact tn
 have hu2:Q6 (Z6 W t).IE g:=by rw[hg];exact q2
 have hm1:B5 W t g<((Z6 W t).IF.length:Int):=by rw[qT];exact m1
 rw[hE];generalize Z6 W t=V at qR swl eL tn2 hu2 hm1;generalize B5 W t g=c at m0 hm1;intro Sq AC2 oP;have eH:=qR.step AC2;have RA:=Vi eH.own (Lo swl) (I2 _) (by simp only[Qh];decide) (t:=t) (g:=g) (c:=c) t0 Qo tn2 hu2 m0 hm1;rw[eL] at RA;refine I3 RA ?_;rintro e2 bG ⟨bH,iD⟩;have dZ:=eH.Ss iD oP;have sf2:=(Bm (Lo swl) (I2 _) (t:=t) t0 Qo hu2 m0 hm1).2;have eP:Qc (Uj V t g c) m'=Qc W m':=by rw[<-eL];exact zuf V t g c m'
 refine⟨_,_,_,_,_,_,_,_,_,_,bH,eH.kept iD oP,λSr wA AC0=>?_⟩;have vB:=dZ.step wA;have tF:=QA vB.own sf2.w (by simp only[Qh];decide) (by simp only[Qh];decide) vB.base;rw[eP] at tF;refine I3 tF ?_;rintro e3 dX ⟨m2,gD,hy5⟩;exact⟨_,_,_,_,_,_,_,_,_,_,gD,vB.kept hy5 AC0,λSA wB=>QX.ok hW hb ((vB.Ss hy5 AC0).step wB)⟩
def v8{g:Int}(h:XV bs w W m)(hg8:W.IE.length=8)(CJ4:W.IJ.length=12) :
  PX bs OE #[.agg (Qc W m).toArray,I g] w (.bool (U0 (zwg W g))):=
 zan _ _ _ _ _ _ _ _ _ _ g λwr hx=>by
  have h:=(h.ext hx).less (cs:=[]) Qs;intro b hb;refine X7 8 1 rfl (λk=>1<=k/\k<=8/\∀j:Int,1<=j->j<(k:Int)->¬((gi W.IE j).IV/\(gi W.IE j).IG=g)) ⟨Qo,Qo,λj a b=>by omega⟩ λk ⟨hk1,hk8,kD⟩=>⟨λIW=>?_,λRM=>?_⟩
  ·have IW:=Ot IW;have k0:(0:Int)<=(k:Int):=Qo;refine⟨h.g.ix k0 IW,_,h.g.IV k0 IW,λ_=>h.g.ix k0 IW,_,λ_=>h.g.IG k0 IW,λq=>?_,λq=>⟨⟨Qo,Qo⟩,QB Qo ⟨Qo,Qo,λj a b=>?_⟩⟩⟩
   ·rw[A',Is] at q;exact zph (.inl ⟨(k:Int),Qo,Qo,q.1,q.2⟩)
   ·by_cases e:j<(k:Int)
    ·exact kD j a e
    ·have:j=(k:Int):=Qo;subst this;rintro⟨q1,q2⟩;rw[q1,Is.2 q2] at q;cases q
  ·have RM:=Ou RM;refine X7 12 0 rfl (λk=>k<=12/\∀j:Int,0<=j->j<(k:Int)->¬((Q8 W j).state≠0/\(Q8 W j).II=g)) ⟨Qo,λj a b=>by omega⟩ λk2 ⟨lS,hnt⟩=>⟨λRh=>?_,λaX=>?_⟩
   ·have Rh:=Ot Rh;have k0:(0:Int)<=(k2:Int):=Qo;refine⟨h.t.ix QT k0 Rh,_,h.t.f k0 Rh (j:=0) rfl,λ_=>h.t.ix QT k0 Rh,_,λ_=>h.t.f k0 Rh (j:=1) rfl,λq=>?_,λq=>⟨⟨Qo,Qo⟩,QB Qo ⟨Qo,λj a b=>?_⟩⟩⟩
    ·rw[A',Is,It] at q;exact zph (.inr ⟨(k2:Int),Qo,Qo,q.1,q.2⟩)
    ·by_cases e:j<(k2:Int)
     ·exact hnt j a e
     ·have:j=(k2:Int):=Qo;subst this;rintro⟨q1,q2⟩;have q1:(gi W.IJ (k2:Int)).state≠0:=q1;have q2:(gi W.IJ (k2:Int)).II=g:=q2;rw[It.2 q1,Is.2 q2] at q;cases q
   ·have aX:=Ou aX;refine GB ?_;rintro (⟨j,a,b,c,d⟩|⟨j,a,b,c,d⟩)
    ·exact kD j a Qo ⟨c,d⟩
    ·exact hnt j a Qo ⟨c,d⟩
def NA{g:Int}(h:XV [] w W m)(hl:VB W) :
  Cz Tv #[.agg (Qc W m).toArray,I g] w λe w'=>∃v,e=.returned v/\QX (Yz W (N8 W g) (XT W g)) w v w':=by
 refine Nd _ _ _ _ _ _ _ _ _ _ g (R:=λv w'=>QX (Yz W (N8 W g) (XT W g)) w v w') ?_;intro x hx x1 S9 wr Rk V';refine I3 (Vx (g:=g) (ok:=true) (h.ext Rk) hl) ?_;rintro e wv (⟨hW,he,hy⟩|⟨hW,m',he,hM,hy⟩)
 ·exact⟨_,_,_,_,_,_,_,_,_,_,_,he,Qi hy V',λ_ R5 Rl=>QX.bad hW ((Rk.trans hy).fresh Rl λy hm=>.inl (YM hx S9 y hm)),λg=>by simp at g⟩
 have hK:=Wk.begin hx S9 Rk V' hM hy;have hr:=hK.rd;have wp:=Qm.1 hW;refine⟨_,_,_,_,_,_,_,_,_,_,_,he,Qi hy V',λg1 R5 Rl=>?_,λg1=>⟨_,v8 hr wp.a.gl wp.a.t,λg2 R6 Rl=>?_,λg2=>⟨λg3 RD Rl=>?_,λg3=>?_⟩⟩⟩
 ·have hb:N8 W g=Kw W g true:=by
   by_cases h0:g=0
   ·unfold N8 Kw;rw[C' h0,C' (.inr h0)]
   ·have e0:¬(true=false\/g=0):=by simp[h0]
    by_cases h1:Q6 W.IE g=false
    ·unfold N8 Kw;rw[B' h0,B' e0,C' h1,C' h1]
    ·exfalso
     unfold Kw at g1;rw[B' e0,B' h1] at g1
     split at g1 <;> simp at g1
  exact QX.no hW (λh0=>by rw[<-hb,h0] at g1;simp at g1) (hK.step Rl) hb
 all_goals
  have g1':¬g=0/\¬Q6 W.IE g=false:=by
   unfold Kw at g1
   by_cases h0:g=0
   ·rw[C' (.inr h0)] at g1;simp at g1
   ·refine⟨h0,λh1=>?_⟩;rw[B' (show ¬(true=false\/g=0) by simp[h0]),C' h1] at g1;simp at g1
  have hgB:Kw W g true=if QO W=false then 10 else 0:=by
   unfold Kw;rw[B' (show ¬(true=false\/g=0) by simp[g1'.1]),B' g1'.2]
 ·have hb:N8 W g=4:=by unfold N8;rw[B' g1'.1,B' g1'.2,C' g2]
  exact QX.no hW (by rw[hb];decide) (hK.step Rl) hb
 ·have bM:QO W=false:=by
   cases hq:QO W with
   |false=>rfl
   |true=>rw[hgB,hq] at g3;simp at g3
  have hb:N8 W g=10:=by unfold N8;rw[B' g1'.1,B' g1'.2,B' (by rw[g2];decide),C' bM]
  rw[hgB,C' bM];exact QX.no hW (by rw[hb];decide) (hK.step Rl) hb
 ·have bM:QO W:=by
   cases hq:QO W with
   |true=>rfl
   |false=>rw[hgB,hq] at g3;simp at g3
  have hb:N8 W g=0:=by unfold N8;rw[B' g1'.1,B' g1'.2,B' (by rw[g2];decide),B' (by rw[bM];decide)]
  have hu:Q6 W.IE g:=by simpa using g1'.2
  obtain⟨u0,u1,_⟩:=Q2.1 hu;have bU:=wp.a.gl
  have SS:Wk 8 [x,x1] w (Rw wv m'.gO (Int.toNat g*14) (YA zfy zab)) (XT W g) (GK m' g.toNat zab):=
   ⟨hK.s.call Ag λy hy=>(hK.own.lt y hy).1,⟨hK.own.Bt5 u0 Qo (g:=zfy) (p:=zab) (j:=0) (vs:=YA zfy zab) ⟨.inl ⟨rfl,rfl,rfl⟩,.inl ⟨rfl,rfl,rfl⟩,.inl ⟨rfl,rfl,rfl⟩⟩ (λy hy=>by simp[Qt,zab,QL] at hy) (by simp[YA]) (by simp[YA]),λy hy hm=>by
    rcases OQ y hy with h1|h1
    ·exact hK.nb y h1 hm
    ·simp[Qt,zab,QL] at h1⟩⟩
  refine⟨hr.g.ix u0 u1,zrw hK.own hK.nb u0 Qo (j:=0) Qd,λRE T'=>?_⟩;have A50:=QX.ok hW hb (SS.step T');have ew:Qc (XT W g) (GK m' g.toNat zab)=Qc W m':=by simp[Qc,XT,R3,GK]
  rw[ew] at A50;have hgz:Kw W g true=0:=by rw[hgB,B' (by rw[bM];decide)]
  exact A50
end
def z14{V:Q7}(ha:WA V):VB V:=by
 have h1:=ha.c2;have h2:=ha.t;have h3:=ha.gl;have hm:=Y5;have hn1:=ha.n1;have hn2:=ha.n2;refine⟨Qo,Qo,Qo,λi a b=>?_⟩;have hb:=KR ha a Qo;have hg:=ha.grp i a Qo;have hz:(⟨[].toArray⟩:ByteArray).size=0:=rfl;refine⟨?_,?_,Qo,Qo,Qo⟩
 ·cases hu:(gi V.IE i).IV with
  |false=>rw[(hg.1 hu).n,hz];omega
  |true=>
   by_cases e:i=0
   ·rw[e,ha.tree.rn,hz];omega
   ·have:=(LR.1 (ha.tree.nm i Qo Qo hu)).1;omega
 cases hu:(gi V.IE i).IV with
 |false=>rw[(hg.1 hu).ne];exact⟨Qd,Qd⟩
 |true=>
  have hg:=hg.2 hu
  by_cases hq:(gi V.IE i).IL.I'=0
  ·rw[(hg.none hq).2.2];exact⟨Qd,Qd⟩
  ·have:=hg.IL hq;exact⟨Qo,Qo⟩
def Hb{n:Nat}{p:Int}{name:ByteArray}{w:Wo}(hn:n<=4) :
  Cz Vs #[I (n:Int),I p,.string name] w λe w'=>∃mg,e=.returned (.agg (YA (Pf n p name) mg).toArray)/\PR w.heap.size w' (Pf n p name,mg)/\Q0 [] w w':=by
 refine(zc7 (n:Int) p name (R:=λv w'=>∃mg,v=.agg (YA (Pf n p name) mg).toArray/\PR w.heap.size w' (Pf n p name,mg)/\Q0 [] w w') ?_).mono λe w' ⟨v,he,mg,hv,h3⟩=>⟨mg,by rw[he,hv],h3⟩
 intro b hb b1 bY
 refine⟨λvs w2=>∃(k:Nat) (o:OA) (cap:Nat),vs=[I (k:Int),.bool true,I p,.string name,I 10,I 15,I 0,I 0,I 0,I 0,I 0,I 0,.slice none 0 0,.slice none 0 0,.slice o k cap]/\k<=n/\Sc w [b,b1] w2/\Ob T9 5 ZO w.heap.size [b,b1] w2 o cap (List.replicate k B6),
  ZG n 0,λwr hx _=>⟨0,none,0,rfl,Ic _,(((Sc.start w).add hb).add bY).R7 hx,⟨.inl ⟨rfl,rfl,rfl⟩,by simp[QL]⟩⟩,?_⟩
 rintro c1 l l1 l2 l3 l4 l5 l6 l7 l8 l9 l10 oU oT oR AN0 AM9 AM8 AN2 vF AN1 wv V' ⟨k,o,cap,he,hk,s1,hO⟩;simp only[I4,I5,Value.bool.injEq,Value.string.injEq,Iv,true_and,and_true] at he;obtain⟨rfl,rfl,rfl,rfl,rfl,rfl,rfl,rfl,rfl,rfl,rfl,rfl,⟨rfl,rfl,rfl⟩,⟨rfl,rfl,rfl⟩,rfl,rfl,rfl⟩:=he;refine⟨λIW=>?_,λRM=>?_⟩
 ·have IW:=Ot IW;intro b3 qS RD Rl fY WO;have s2:=s1.put Rl qS;have nG:=hO.put Rl qS;obtain⟨o2,c2,w2,We,uF,hO3,Rk⟩:=nG.AG3 M6 PF (x:=B6) fY s2.ext.size WO (z46 _) (by simp;omega) Qd Zd #[false,false];have s3:=s2.call Rk λx hm=>(nG.own.lt x hm).1
  have hL:List.replicate vF B6++[B6]=List.replicate (vF+1) B6:=by rw[List.replicate_succ']
  rw[hL] at We hO3;rw[List.length_replicate,List.length_replicate] at We;exact⟨_,_,_,w2,We,uF,⟨Qo,Qo⟩,λRE T' _=>⟨⟨vF+1,o2,c2,Qs,Qo,(s3.step T').sub Qs,(hO3.step T').sub Qs⟩,Zo (k:=vF) rfl rfl Qo⟩⟩
 ·have RM:=Ou RM;have:vF=n:=Qo;subst this;intro RQ Su;refine⟨⟨none,0,none,0,AN2,AN1⟩,?_,⟨.inl ⟨rfl,rfl,rfl⟩,.inl ⟨rfl,rfl,rfl⟩,(hO.step Su).own⟩,(s1.step Su).ext⟩;simp[YA,Pf,ZI]
def z6o:QQ≠Zi:=Qd
def z3l:Z0≠Zi:=Qd
def z6n:Z0≠QQ:=Qd
def FK{i:Int}(h0:0<=i)(h1:i<8):gi (List.replicate 8 Pm) i=Pm:=by
 obtain⟨k,rfl⟩:=Int.eq_ofNat_of_zero_le h0;rw[Ju (by rw[List.length_replicate];omega)];exact List.getElem_replicate _
def zvb{base:Nat}{w:Wo}{o:OA}{cap:Nat}(h:UD Om 14 Z0 base w o cap (List.replicate 8 Pm)):Lw base w o cap (List.replicate 8 Pm):=by
 refine⟨h,λi h0 h1=>?_,λi j h0 h1 _ _ _ x hm=>?_⟩
 ·rw[FK h0 (by simpa using h1)];exact⟨.inl ⟨rfl,rfl,rfl⟩,.inl ⟨rfl,rfl,rfl⟩,.inl ⟨rfl,rfl,rfl⟩⟩
 ·rw[FK h0 (by simpa using h1)] at hm;simp[Qt,Pm,QL] at hm
section
variable {w:Wo}{b:Nat}
def z7d(b:Nat)(w:Wo)(vs:List Va)(bs:List Nat)(w2:Wo):Prop:=
 ∃(bx:Nat) (tO gO:OA) (tC gC:Nat),bs=[bx]/\vs=[I 0,.slice none 0 0,.slice tO 12 tC,.slice gO 8 gC]/\Sc w [b,bx] w2/\Ob Xc 9 QQ w.heap.size [b,bx] w2 tO tC (List.replicate 12 T8)/\Ob Om 14 Z0 w.heap.size [b,bx] w2 gO gC (List.replicate 8 Pm)
def zyx{bs:List Nat}{w1:Wo}(s:Sc w bs w1)(hs:∀x∈bs,x<w1.heap.size):∃(o:OA) (c:Nat) (w2:Wo),(Instr.makeSlice Z8 (I 12) (I 12):Sem Va).run Tryz.prog w1=.ok (.slice o 12 c) w2/\Q9 bs w1 w2/\Q0 [] w1 w2/\Ob Xc 9 QQ w.heap.size bs w2 o c (List.replicate 12 T8):=
 ⟨_,_,_,KI Mh MU 12 Qd (by have:=Y5;omega) w1,Qi (Zc _ _) hs,Zc _ _,(Ob.of (Vj (enc:=Xc) Mh.len QQ 12 T8 w1) hs).mono s.ext.size⟩
def zyw{bs:List Nat}{w1:Wo}(s:Sc w bs w1)(hs:∀x∈bs,x<w1.heap.size):∃(o:OA) (c:Nat) (w2:Wo),(Instr.makeSlice QE (I 8) (I 8):Sem Va).run Tryz.prog w1=.ok (.slice o 8 c) w2/\Q9 bs w1 w2/\Q0 [] w1 w2/\Ob Om 14 Z0 w.heap.size bs w2 o c (List.replicate 8 Pm):=
 ⟨_,_,_,KI YG PE 8 Qd (by have:=Y5;omega) w1,Qi (Zc _ _) hs,Zc _ _,(Ob.of (Vj (enc:=Om) YG.len Z0 8 Pm w1) hs).mono s.ext.size⟩
def y9{n:Nat}(n0:1<=n)(n1:n<=4) :
  Cz OD #[I (n:Int)] w λe w'=>∃m,e=.returned (.tuple #[.agg (Qc (Jp n) m).toArray,.bool true])/\Zp 8 w.heap.size w' (Jp n) m/\Q0 [] w w':=by
 refine(CP (n:Int) (R:=λv w'=>∃m,v=.tuple #[.agg (Qc (Jp n) m).toArray,.bool true]/\Zp 8 w.heap.size w' (Jp n) m/\Q0 [] w w') ?_).mono λe w' ⟨v,he,m,hv,h3⟩=>⟨m,by rw[he,hv],h3⟩
 intro b hb;have hin:YY (n:Int) 1 4:=Qu.2 ⟨Qo,Qo⟩;have s0:Sc w [b] w:=(Sc.start w).add hb;refine⟨_,Qq,λg=>(by rw[hin] at g;cases g),λ_=>⟨z7d b w,?_,?_⟩⟩
 ·refine⟨λR5 S9 dE=>?_,λSj bE hs6=>?_,λb5 hb5=>⟨λSr wA AC0=>?_,λWB BK4 C14=>?_⟩⟩
  ·have s1:=s0.R7 S9;obtain⟨tO,tC,w2,hr,hk,he,hT⟩:=zyx s1 dE;have s2:=s1.R7 he;refine⟨_,_,_,w2,hr,hk,λR6 Rk V'=>?_,λb2 cD RE T' dT=>?_⟩
   ·have s3:=s2.step Rk;obtain⟨gO,gC,w3,hr3,hk3,gD,hG⟩:=zyw s3 V';exact⟨_,_,_,w3,hr3,hk3,λb1 bY RD Rl _=>⟨b1,tO,gO,tC,gC,rfl,rfl,(s3.R7 gD).put Rl bY,((hT.step Rk).R7 gD).put Rl bY,hG.put Rl bY⟩⟩
   ·have s3:=s2.put T' cD;obtain⟨gO,gC,w3,hr3,hk3,gD,hG⟩:=zyw s3 dT;exact⟨_,_,_,w3,hr3,hk3,λRQ Su _=>⟨b2,tO,gO,tC,gC,rfl,rfl,(s3.R7 gD).step Su,((hT.put T' cD).R7 gD).step Su,hG.step Su⟩⟩
  ·have s1:=s0.R7 bE;obtain⟨gO,gC,w2,hr,hk,he,hG⟩:=zyw s1 hs6;have s2:=s1.R7 he;refine⟨_,_,_,w2,hr,hk,λR6 Rk V'=>?_,λb2 cD RE T' dT=>?_⟩
   ·have s3:=s2.step Rk;obtain⟨tO,tC,w3,hr3,hk3,gD,hT⟩:=zyx s3 V';exact⟨_,_,_,w3,hr3,hk3,λb1 bY RD Rl _=>⟨b1,tO,gO,tC,gC,rfl,rfl,(s3.R7 gD).put Rl bY,hT.put Rl bY,((hG.step Rk).R7 gD).put Rl bY⟩⟩
   ·have s3:=s2.put T' cD;obtain⟨tO,tC,w3,hr3,hk3,gD,hT⟩:=zyx s3 dT;exact⟨_,_,_,w3,hr3,hk3,λRQ Su _=>⟨b2,tO,gO,tC,gC,rfl,rfl,(s3.R7 gD).step Su,hT.step Su,((hG.put T' cD).R7 gD).step Su⟩⟩
  ·have s1:=(s0.add hb5).R7 wA;obtain⟨tO,tC,w2,hr,hk,he,hT⟩:=zyx s1 AC0;refine⟨_,_,_,w2,hr,hk,λR6 Rk V'=>?_⟩;have s3:=(s1.R7 he).step Rk;obtain⟨gO,gC,w3,hr3,hk3,gD,hG⟩:=zyw s3 V';exact⟨_,_,_,w3,hr3,hk3,λRQ Su _=>⟨b5,tO,gO,tC,gC,rfl,rfl,(s3.R7 gD).step Su,((hT.step Rk).R7 gD).step Su,hG.step Su⟩⟩
  ·have s1:=(s0.add hb5).R7 BK4;obtain⟨gO,gC,w2,hr,hk,he,hG⟩:=zyw s1 C14;refine⟨_,_,_,w2,hr,hk,λR6 Rk V'=>?_⟩;have s3:=(s1.R7 he).step Rk;obtain⟨tO,tC,w3,hr3,hk3,gD,hT⟩:=zyx s3 V';exact⟨_,_,_,w3,hr3,hk3,λRQ Su _=>⟨b5,tO,gO,tC,gC,rfl,rfl,(s3.R7 gD).step Su,hT.step Su,((hG.step Rk).R7 gD).step Su⟩⟩
 ·rintro l S8 Si Sp Se Sk Sn Sf Sg Sh b6 fA oP ⟨bx,tO,gO,tC,gC,hbx,hv,s1,hT,hG⟩;simp only[I4,I5,Iv,true_and,and_true] at hbx hv;subst hbx;obtain⟨rfl,⟨rfl,rfl,rfl⟩,⟨rfl,rfl,rfl⟩,rfl,rfl,rfl⟩:=hv
  refine⟨λvs w2=>∃(k:Nat) (o:OA) (cap:Nat),vs=[I (k:Int),I 0,.slice o k cap,.slice Se 12 Sn,.slice Sf 8 Sh]/\k<=n/\Sc w [b,b6] w2/\Ob Gv 5 Zi w.heap.size [b,b6] w2 o cap (List.replicate k (⟨true,-1,0,0,0⟩:PP))/\Ob Xc 9 QQ w.heap.size [b,b6] w2 Se Sn (List.replicate 12 T8)/\Ob Om 14 Z0 w.heap.size [b,b6] w2 Sf Sh (List.replicate 8 Pm),
   ZG n 0,λwr hx _=>⟨0,none,0,rfl,Ic _,s1.step hx,⟨.inl ⟨rfl,rfl,rfl⟩,by simp[QL]⟩,hT.step hx,hG.step hx⟩,?_⟩
  rintro c1 l4 nP jG nO nI pU nH kO oX nQ wv V' ⟨k,o,cap,he,hk,s2,hC,hT2,hG2⟩;simp only[I4,I5,Iv,true_and,and_true] at he;obtain⟨rfl,rfl,⟨rfl,rfl,rfl⟩,⟨rfl,rfl,rfl⟩,rfl,rfl,rfl⟩:=he;clear hT hG;refine⟨λIW=>?_,λRM=>?_⟩
  ·have IW:=Ot IW;intro b3 qS RD Rl fY WO;have s3:=s2.put Rl qS;have vA:=hC.put Rl qS;obtain⟨o2,c2,w2,We,uF,hC3,Rk⟩:=vA.AG3 HN KK (x:=(⟨true,-1,0,0,0⟩:PP)) fY s3.ext.size WO (z44 _) (by simp;omega) Qd Zy #[false,false];have s4:=s3.call Rk λx hm=>(vA.own.lt x hm).1
   have hT3:=(hT2.put Rl qS);have hT4:Ob Xc 9 QQ w.heap.size [b,b6,b3] w2 nI nH (List.replicate 12 T8):=⟨hT3.own.ext Rk (hT3.own.Wd vA.own z6o),hT3.nb⟩;have hG3:=(hG2.put Rl qS);have hG4:Ob Om 14 Z0 w.heap.size [b,b6,b3] w2 kO nQ (List.replicate 8 Pm):=⟨hG3.own.ext Rk (hG3.own.Wd vA.own z3l),hG3.nb⟩;have hL:List.replicate jG (⟨true,-1,0,0,0⟩:PP)++[⟨true,-1,0,0,0⟩]=List.replicate (jG+1) (⟨true,-1,0,0,0⟩:PP):=by rw[List.replicate_succ']
   rw[hL] at We hC3;rw[List.length_replicate,List.length_replicate] at We;exact⟨_,_,_,w2,We,uF,⟨Qo,Qo⟩,λRE T' _=>⟨⟨jG+1,o2,c2,Qs,Qo,(s4.step T').sub Qs,(hC3.step T').sub Qs,(hT4.step T').sub Qs,(hG4.step T').sub Qs⟩,Zo (k:=jG) rfl rfl Qo⟩⟩
  ·have RM:=Ou RM;have:jG=n:=Qo;subst this;intro RQ Su fK;have s3:=s2.step Su;have hC3:=hC.step Su;have hT3:=hT2.step Su;have hG3:=hG2.step Su;refine(Hb n1).mono λe w3 ⟨mg,he,hM,Rl⟩=>?_
   have s4:=s3.R7 Rl;have hC4:=hC3.R7 Rl;have hT4:=hT3.R7 Rl;have hG4:=hG3.R7 Rl;have G:=zvb hG4.own
   have hmb:∀x∈Qt mg,x∉[b,b6]:=λx hm hx=>by
    have h1:=(hM.lt x hm).1;have h2:=fK x hx;omega
   have P:=G.put (i:=0) (I2 _) Qs (p:=(Pf jG (-1) ⟨[].toArray⟩,mg)) (hM.mono s3.ext.size) λj j0 j1 _ x hm=>by
    rw[FK j0 (by simpa using j1)] at hm;simp[Qt,Pm,QL] at hm
   have hxs:=hG4.own.rP (Int.toNat 0*14) (Om (Pf jG (-1) ⟨[].toArray⟩,mg));have s5:Sc w [b,b6] (Rw w3 kO (Int.toNat 0*14) (Om (Pf jG (-1) ⟨[].toArray⟩,mg))):=⟨hG4.own.Cf2 _ _ s4.ext (I7 _),s4.new⟩;have hC5:=hC4.own.ext hxs (hC4.own.Wd hG4.own z3l.symm);have hT5:=hT4.own.ext hxs (hT4.own.Wd hG4.own z6n.symm);refine⟨_,_,_,_,_,_,_,_,_,_,_,_,_,_,_,_,_,_,_,_,he,Qi Rl fK,rfl,hG4.own.ix (I2 _) Qs,hG4.own.wr YG.len hG4.nb (i:=0) (j:=0) (I2 _) Qs Qd,λwr hx=>⟨⟨nP,nO,nI,nH,kO,nQ,λk=>if k=0 then mg else Pm.2⟩,?_,⟨?_,?_,?_,rfl⟩,(s5.step hx).ext⟩⟩
   ·simp[Qc,Jp]
   ·exact hC5.ext hx hC4.nb
   ·exact hT5.ext hx hT4.nb
   ·have hps:zs9 (Jp jG) ⟨nP,nO,nI,nH,kO,nQ,λk=>if k=0 then mg else Pm.2⟩=(List.replicate 8 Pm).set (Int.toNat 0) (Pf jG (-1) ⟨[].toArray⟩,mg):=rfl;rw[hps];refine⟨P.row.ext hx hG4.nb,λi i0 i1=>(P.each i i0 i1).ext hx λx hm=>?_,P.dj⟩;have hi8:i<8:=by simpa using i1
    have:=Qx (List.replicate 8 Pm) (Pf jG (-1) ⟨[].toArray⟩,mg) (i:=0) (j:=i) (I2 _) Qs i0;rw[this] at hm
    split at hm
    ·exact hmb x hm
    ·rw[FK i0 hi8] at hm;simp[Qt,Pm,QL] at hm
end
def OK(W:Q7)(j:Nat):Bool:=decide (1<=j) && !(gi W.IE (j:Int)).IV
def TF(W:Q7):Int:=Ep (OK W) 8
def z50(W:Q7)(p:Int)(name:ByteArray):Prop:=∃h:Int,1<=h/\h<8/\(gi W.IE h).IV/\(gi W.IE h).IG=p/\(gi W.IE h).name=name
open Classical in
noncomputable def GA(W:Q7)(p:Int)(name:ByteArray):Int:=if UC name=false then 1 else if Q6 W.IE p=false then 2 else if z50 W p name then 7 else if dep 3 W.IE p=3 then 9 else if TF W<0 then 3 else if QO W=false then 10 else 0
def zyu(W:Q7)(p:Int)(name:ByteArray):Q7:=O5 W (TF W) p name
def zns(W:Q7):(TF W = -1/\∀h:Int,1<=h->h<8->(gi W.IE h).IV)\/(1<=TF W/\TF W<8/\(gi W.IE (TF W)).IV=false):=by
 rcases KY (OK W) 8 with ⟨h1,h2⟩|⟨h1,h2,h3,_⟩
 ·refine .inl ⟨h1,λh a b=>?_⟩;have:=h2 h.toNat Qo;unfold OK at this;rw[show ((h.toNat:Nat):Int)=h by omega,Ih (by omega:1<=h.toNat)] at this
  simpa using this
 ·have e:(((TF W).toNat:Nat):Int)=TF W:=by unfold TF;omega
  have h3:OK W (TF W).toNat:=h3;unfold OK at h3;rw[e,A',Ij,ID] at h3;refine .inr ⟨Qo,by unfold TF;omega,h3.2⟩
def zei{W:Q7}{p:Int}{name:ByteArray}(hb:GA W p name=0):AK W (TF W) p name/\QO W:=by
 unfold GA at hb
 split at hb
 ·cases hb
 rename_i h1
 split at hb
 ·cases hb
 rename_i h2
 split at hb
 ·cases hb
 rename_i h3
 split at hb
 ·cases hb
 rename_i h4
 split at hb
 ·cases hb
 rename_i h5
 split at hb
 ·cases hb
 rename_i h6;rcases zns W with ⟨a,_⟩|⟨a,b,c⟩
 ·omega
 ·exact⟨⟨a,b,c,by simpa using h2,by simpa using h1,λh a1 a2 u e=>h3 ⟨h,a1,a2,u,e.1,e.2⟩,h4⟩,by simpa using h6⟩
section
variable {W:Q7}{m:MW}{w:Wo}
def L6{p:Int}{name:ByteArray}(h:XV [] w W m)(hl:VB W) :
  Cz QJ #[.agg (Qc W m).toArray,I p,.string name] w λe w'=>∃v,e=.returned v/\P1 (Tf W (GA W p name) (zyu W p name) (TF W)) w v w':=by
 refine Nf _ _ _ _ _ _ _ _ _ _ p name (R:=λv w'=>P1 (Tf W (GA W p name) (zyu W p name) (TF W)) w v w') ?_;intro y hy y1 cW wr Rk V';refine I3 (Zn (h.ext Rk) hl) ?_;rintro e wv (⟨hW,he,SQ⟩|⟨hW,m',he,hM,SQ⟩)
 ·exact⟨_,_,_,_,_,_,_,_,_,_,_,he,Qi SQ V',true,λg=>by simp at g,λ_ R5 Rl=>P1.bad hW ((Rk.trans SQ).fresh Rl λz hm=>.inl (YM hy cW z hm)),λg=>by simp at g⟩
 have hK:=Wk.begin hy cW Rk V' hM SQ;have hr:=hK.rd;have wp:=Qm.1 hW;have bU:=wp.a.gl;have sR:((if QO W=true then 0 else 10:Int)==1)=false:=by split <;> rfl
 refine⟨_,_,_,_,_,_,_,_,_,_,_,he,Qi SQ V',_,λ_=>DO,λg1 R5 Rl=>?_,λg1=>⟨_,Xr hr.g,λg2 R6 Rl=>?_,λg2=>?_⟩⟩
 ·rw[sR] at g1;have hb:GA W p name=1:=by unfold GA;rw[C' (by simpa using g1)]
  exact P1.no hW (by rw[hb];decide) (hK.step Rl) hb
 ·rw[sR] at g1;have n1:¬UC name=false:=by simpa using g1
  have hb:GA W p name=2:=by unfold GA;rw[B' n1,C' (by simpa using g2)]
  exact P1.no hW (by rw[hb];decide) (hK.step Rl) hb
 rw[sR] at g1;have n1:¬UC name=false:=by simpa using g1
 have hu:Q6 W.IE p:=by simpa using g2
 have n2:¬Q6 W.IE p=false:=by rw[hu];decide
 refine⟨λvs w1=>∃k:Nat,vs=[I (k:Int),I 0,.slice none 0 0,.slice none 0 0,.slice none 0 0]/\1<=k/\k<=8/\(∀q:Int,1<=q->q<(k:Int)->(gi W.IE q).IV->¬((gi W.IE q).IG=p/\(gi W.IE q).name=name))/\Q0 [y,y1] wv w1,
  ZG 8 0,λw1 sJ _=>⟨1,rfl,Qo,Qo,λq a b=>by omega,sJ⟩,?_⟩
 rintro h1 l S8 Si Sp Se Sk Sn Sf Sg Sh RI fY ⟨k,bH,hk1,hk8,kD,hxw⟩;simp only[I4,I5,Iv,true_and,and_true] at bH;obtain⟨rfl,rfl,⟨rfl,rfl,rfl⟩,⟨rfl,rfl,rfl⟩,rfl,rfl,rfl⟩:=bH;have hK1:=hK.step hxw;have vL:=hK1.rd;refine⟨λIW=>?_,λRM=>?_⟩
 ·have IW:=Ot IW;have cY:(0:Int)<=(k:Int):=Qo;refine⟨vL.g.ix cY IW,_,vL.g.IV cY IW,λ_=>vL.g.ix cY IW,_,λ_=>vL.g.IG cY IW,λ_=>vL.g.ix cY IW,_,λ_=>vL.g.name cY IW,λg3 RQ Su=>?_,λg3=>⟨⟨Qo,Qo⟩,λSj bE _=>⟨⟨k+1,Qs,Qo,Qo,λq q1 q2 qu=>?_,hxw.trans bE⟩,Zo (k:=k) rfl rfl Qo⟩⟩⟩
  ·rw[A',A',JX,Is] at g3;have hb:GA W p name=7:=by unfold GA;rw[B' n1,B' n2,C' ⟨k,Qo,Qo,g3.1.1,g3.1.2,g3.2⟩]
   exact P1.no hW (by rw[hb];decide) (hK1.step Su) hb
  ·by_cases e:q<(k:Int)
   ·exact kD q q1 e qu
   ·have:q=(k:Int):=Qo;subst this;rintro⟨c1,c2⟩;rw[qu,Is.2 c1,JX.2 c2] at g3;cases g3
 have RM:=Ou RM;have:k=8:=Qo;subst this;have n3:¬z50 W p name:=λ⟨q,a,b,c,d,e⟩=>kD q a Qo c ⟨d,e⟩
 refine⟨_,MF vL.g (by rw[bU];have:=Y5;omega),λg4 Sw eQ=>?_,λg4=>⟨⟨Qo,Qo⟩,?_⟩⟩
 ·rw[zk0 wp.a.tree hu,Is] at g4;have hb:GA W p name=9:=by unfold GA;rw[B' n1,B' n2,B' n3,C' g4]
  exact P1.no hW (by rw[hb];decide) (hK1.step eQ) hb
 rw[zk0 wp.a.tree hu,beq_eq_false_iff_ne] at g4
 refine⟨λvs w1=>∃a t:Int,vs=[I a,I t]/\0<=t/\t<8/\(a = -1/\(∀j:Nat,t<(j:Int)->j<8->OK W j=false)\/t<a/\a<8/\OK W a.toNat/\∀j:Nat,t<(j:Int)->(j:Int)<a->OK W j=false)/\Q0 [y,y1] RI w1,
  λvs _=>(Ye 1 vs+1).toNat,λw1 sJ _=>⟨-1,_,rfl,Qo,Qo,.inl ⟨rfl,λj h1 h2=>by omega⟩,sJ⟩,?_⟩
 rintro av tv S3 dT ⟨a,t,bH,ht0,ht1,tG,CJ9⟩;simp only[I4,I5,true_and,and_true] at bH;obtain⟨rfl,rfl⟩:=bH;have fZ:=hK1.step CJ9;have uH:=fZ.rd;refine⟨λIW=>?_,λaX=>?_⟩
 ·have IW:=Ot IW;have e:((tv.toNat:Nat):Int)=tv:=Qo;have kE:OK W tv.toNat = !(gi W.IE tv).IV:=by unfold OK;rw[e,Ih (by omega:1<=tv.toNat)];rfl
  refine⟨uH.g.ix Qo Qo,_,uH.g.IV Qo Qo,λg3=>⟨⟨Qo,Qo⟩,λRQ Su _=>⟨⟨tv,tv-1,rfl,Qo,Qo,.inr ⟨Qo,ht1,by rw[kE];exact g3,λj h1 h2=>by omega⟩,CJ9.trans Su⟩,?_⟩⟩,λg3=>⟨⟨Qo,Qo⟩,λSj bE _=>⟨⟨av,tv-1,rfl,Qo,Qo,?_,CJ9.trans bE⟩,?_⟩⟩⟩
  ·simp only[Ye,Ie,List.getElem?_cons_succ];omega
  ·have g3:OK W tv.toNat=false:=by rw[kE];exact g3
   have one:∀j:Nat,tv-1<(j:Int)->¬tv<(j:Int)->OK W j=false:=λj h1 h2=>by
    have:j=tv.toNat:=Qo;rw[this];exact g3
   rcases tG with ⟨h1,h2⟩|⟨h1,h2,h3,h4⟩
   ·exact .inl ⟨h1,λj j1 j2=>if h:tv<(j:Int) then h2 j h j2 else one j j1 h⟩
   ·exact .inr ⟨Qo,h2,h3,λj j1 j2=>if h:tv<(j:Int) then h4 j h j2 else one j j1 h⟩
  ·simp only[Ye,Ie,List.getElem?_cons_succ];omega
 have aX:=Ou aX;have ht:tv=0:=Qo;subst ht;have hz:OK W 0=false:=rfl
 have tH:av=TF W:=by
  rcases tG with ⟨h1,h2⟩|⟨h1,h2,h3,h4⟩
  ·rw[h1];exact(zsg λj hj=>if e:j=0 then by rw[e];exact hz else h2 j Qo hj).symm
  ·exact(zsf Qo h2 h3 λj hj=>if e:j=0 then by rw[e];exact hz else h4 j Qo hj).symm
 subst tH;refine⟨λg5 Sw eQ=>?_,λg5=>⟨λg6 SZ sV=>?_,λg6 Wc Bq5 Ca5=>?_⟩⟩
 ·have g5:=Ot g5;have hb:GA W p name=3:=by unfold GA;rw[B' n1,B' n2,B' n3,B' g4,C' g5]
  exact P1.no hW (by rw[hb];decide) (fZ.step eQ) hb
 ·have g5:=Ou g5;have bM:¬QO W:=λhr=>by rw[C' hr] at g6;simp at g6
  have hb:GA W p name=10:=by unfold GA;rw[B' n1,B' n2,B' n3,B' g4,B' g5,C' (by simpa using bM)]
  rw[B' bM];exact P1.no hW (by rw[hb];decide) (fZ.step sV) hb
 have g5:=Ou g5;have bM:QO W:=Iq λhr=>by rw[B' hr] at g6;simp at g6
 have hb:GA W p name=0:=by unfold GA;rw[B' n1,B' n2,B' n3,B' g4,B' g5,B' (by rw[bM];decide)]
 obtain⟨hf,_⟩:=zei hb;have a1:=hf.a1;have a8:=hf.a8;have qR:=fZ.step Bq5;refine(Hb (n:=W.IF.length) wp.a.c2).mono λe1 bG ⟨mg,kB,hMg,T'⟩=>?_
 have eH:=qR.R7 T';have hold:∀x∈QM 8 m',x<Wc.heap.size:=λx hx=>(qR.own.lt x hx).2
 have Aw8:∀x∈Qt mg,Wc.heap.size<=x:=λx hx=>(hMg.lt x hx).1
 have SS:Wk 8 [y,y1] w (Rw bG m'.gO (Int.toNat (TF W)*14) (YA (Pf W.IF.length p name) mg)) (zyu W p name) (GK m' (TF W).toNat mg):=
  ⟨eH.s.call Ag λx hx=>(eH.own.lt x hx).1,⟨eH.own.Bt5 Qo a8 (g:=Pf W.IF.length p name) (p:=mg) (j:=0) (vs:=YA (Pf W.IF.length p name) mg) (hMg.mono qR.base) (λx hx=>.inl λeJ=>by have:=hold x eJ;have:=Aw8 x hx;omega) (by simp[YA,ZI]) (by simp[YA,ZI]),λx hx hm=>by
   rcases OQ x hx with h1|h1
   ·exact eH.nb x h1 hm
   ·have:=Aw8 x h1;have:=Ca5 x hm;omega⟩⟩
 refine⟨_,_,_,_,_,_,_,_,_,_,_,_,_,_,_,_,_,_,_,_,kB,Qi T' Ca5,rfl,uH.g.ix Qo Qo,zrw eH.own eH.nb Qo a8 (j:=0) (k:=14) Qd,λWB BK4=>?_⟩;have A50:=P1.ok (a:=TF W) hW hb (SS.step BK4);have ew:Qc (zyu W p name) (GK m' (TF W).toNat mg)=Qc W m':=by simp[Qc,zyu,O5,R3,GK]
 rw[ew] at A50;exact A50
end
inductive XS (W:Q7):Q7->Prop
 |same:XS W W
 |run (c n:Int) (hb:X9 W c n=0):XS W (J9 W c n)
 |yld (c:Int) (hb:zax W c=0):XS W (Rc W c)
 |fork (g n x:Int) (hb:T2 W g n x=0):XS W (FJ W g n x)
 |block (t:Int) (hb:VD W t=0):XS W (zck W t)
 |Cf6 (t:Int) (hb:MX W t=0):XS W (BB W t)
 |exit (t:Int) (hb:Oh W t=0):XS W (FH W t)
 |nice (t n:Int) (hb:Pg W t n=0):XS W (Lg W t n)
 |pin (t x:Int) (hb:Dx W t x=0):XS W (zvj W t x)
 |mov (t g:Int) (hb:NM W t g=0):XS W (zaa W t g)
 |mak (a p:Int) (name:ByteArray) (hm:AK W a p name):XS W (O5 W a p name)
 |drp (g:Int) (hd:zfz W g):XS W (XT W g)
 |wgh (g x:Int) (hb:zm0 W g x=0):XS W (zv5 W g x)
 |gpn (g x:Int) (hb:zlg W g x=0):XS W (zun W g x)
 |lim (g q p:Int) (hb:zlu W g q p=0):XS W (zym W g q p)
 |time (n:Int) (hb:Lp W n=0):XS W (zfv W n)
 |bal (c:Int) (hb:Ec W c=0):XS W (zci W c)
 |off (c:Int) (hb:V6 W c true (GC W)=0):XS W (zu9 W c)
 |on (c:Int) (hb:V6 W c false 0=0):XS W (z5x W c)
structure Mb (P:Nat->Q7->Prop):Prop where
 mono:∀{n m:Nat} {W:Q7},n<=m->P n W->P m W
 new:∀{n k:Nat},1<=k->k<=4->P n (Jp k)
 fork:∀{n:Nat} {W:Q7} {g q x:Int},Xo W->P n W->T2 W g q x=0->P n (FJ W g q x)
 mak:∀{n:Nat} {W:Q7} {a p:Int} {name:ByteArray},Xo W->P n W->AK W a p name->P n (O5 W a p name)
 Ss:∀{n:Nat} {W V:Q7},n<=10000->Xo W->P n W->XS W V->P (n+10) V
def Q0.kept{bs B:List Nat}{w w':Wo}(h:Q0 bs w w')(hB:∀x∈B,x<w.heap.size/\x∉bs):Q9 B w w':=λx hx=>h.block x (hB x hx).1 (hB x hx).2
def zyj{b x:Nat}{w w':Wo}(h:Q0 [b] w w')(h1:x<w.heap.size)(h2:x≠b):Q9 [x] w w':=h.kept λy hy=>by
 rw[IA.1 hy];exact⟨h1,by simpa using h2⟩
def z5u(v:Int):Prop := -2<=v/\v<=21
def zn3{b:Nat}{c:OA}{L N:Nat}{w:Wo}(h:OS b c L N w)(hN:N<=900000000000) :
  Cz Y3 #[.pointer (some ⟨b,0,none⟩)] w λe w'=>∃v,e=.returned (I v)/\z5u v/\OS b c L (N+2) w'/\Q0 [b] w w':=by
 refine(Dq (some ⟨b,0,none⟩) (R:=λv w'=>∃x,v=I x/\z5u x/\OS b c L (N+2) w'/\Q0 [b] w w') ?_).mono λe w' ⟨v,he,x,hv,h1,h2,h3⟩=>⟨x,by rw[he,hv],h1,h2,h3⟩
 refine λwr hx _=>(zd3 (h.WH hx) Qo).mono λe w1 ⟨v,he,hv,vL,S9⟩=>⟨v,he,Xm,λ_=>?_,λ_ b1 bY RD Rl sI=>?_⟩
 ·refine λR5 hy _=>(zd3 (vL.WH hy) Qo).mono λe w2 ⟨u,he,hu,uH,Rk⟩=>⟨u,he,Xm,?_⟩
  have hu1:=hu.1;have hu2:=hu.2.2 Qd;exact⟨Uc Qo Qo,λR6 hz=>⟨_,rfl,⟨Qo,Qo⟩,uH.WH hz,(hx.of_nil.trans S9).trans (hy.of_nil.trans (Rk.trans hz.of_nil))⟩⟩
 ·refine(zd3 (vL.WH Rl) Qo).mono λe w2 ⟨u,he,hu,uH,Rk⟩=>⟨u,he,zyj Rk (sI b1 Qs) (by have:=vL.lt;omega),?_⟩
  have hu1:=hu.1;have hu2:=hu.2.2 Qd
  have fin:∀(x:Int),z5u x->∀RE,Q0 [b1] w2 RE->∃x',I x=I x'/\z5u x'/\OS b c L (N+2) RE/\Q0 [b] w RE:=λx hxv RE hz=>
   ⟨x,rfl,hxv,vL.Cs8 uH hz (by simpa using bY),(hx.of_nil.trans S9).trans ((Rl.of_nil.trans Rk)) |>.fresh hz (λy hy=>by
    rw[IA.1 hy];have h1:=hx.size;have h2:=S9.size;exact .inl Qo)⟩
  have:u=0\/u=1\/u=2\/u=3\/u=4\/u=5\/u=6\/u=7\/u=8\/u=9:=Qo;refine⟨⟨hu1,hu2⟩,?_⟩;rcases this with rfl|rfl|rfl|rfl|rfl|rfl|rfl|rfl|rfl|rfl <;> exact⟨_,⟨Qd,rfl⟩,fin _ ⟨Qd,Qd⟩⟩
def DB(c:OA)(L:Nat)(w:Wo):Prop:=∀i<L,∃(a:Addr) (x:Int),c=some a/\0<=x/\x<=255/\w.cell? (a.add i)=some (.int .u8 x)
def DB.ext{c:OA}{L:Nat}{w w':Wo}(h:DB c L w)(hx:Q0 [] w w'):DB c L w':=λi hi=>by
 obtain⟨a,x,ha,h1,h2,h3⟩:=h i hi;obtain⟨a',e,_,h''⟩:=(show JH [] w c i (.int .u8 x) from ⟨a,ha,Qs,h3⟩).ext hx;rw[ha] at e;cases e;exact⟨a,x,ha,h1,h2,h''⟩
structure RS (rb:Nat) (c:OA) (L N:Nat) (bs:List Nat) (w:Wo):Prop where
 rd:OS rb c L N w
 nb:rb∉bs
 oc:∀a,c=some a->a.block∉bs\/L=0
section
variable {rb:Nat}{c:OA}{L N:Nat}{bs cs:List Nat}{w w':Wo}{b:Nat}
def RS.step(h:RS rb c L N bs w)(hx:Q0 bs w w'):RS rb c L N bs w':=⟨h.rd.ext hx h.nb h.oc,h.nb,h.oc⟩
def RS.R7(h:RS rb c L N bs w)(hx:Q0 [] w w'):RS rb c L N bs w':=⟨h.rd.WH hx,h.nb,h.oc⟩
def RS.add(h:RS rb c L N bs w)(hb:w.heap.size<=b):RS rb c L N (bs++[b]) w:=⟨h.rd,λhm=>by
 rcases Im.1 hm with hm|hm
 ·exact h.nb hm
 ·have:rb=b:=by simpa using hm
  have:=h.rd.lt;omega,λa ha=>by
 rcases h.oc a ha with h1|h1
 ·rcases h.rd.ltc a ha with h2|h2
  ·refine .inl λhm=>?_
   rcases Im.1 hm with hm|hm
   ·exact h1 hm
   ·have:a.block=b:=by simpa using hm
    omega
  ·exact .inr h2
 ·exact .inr h1⟩
def RS.sub(h:RS rb c L N bs w)(hs:∀x∈cs,x∈bs):RS rb c L N cs w:=⟨h.rd,λhm=>h.nb (hs _ hm),λa ha=>by
 rcases h.oc a ha with h1|h1
 ·exact .inl λhm=>h1 (hs _ hm)
 ·exact .inr h1⟩
def RS.upd{M:Nat}(h:RS rb c L N bs w)(k:OS rb c L M w'):RS rb c L M bs w':=⟨k,h.nb,h.oc⟩
def RS.mono{M:Nat}(h:RS rb c L N bs w)(hm:N<=M):RS rb c L M bs w:=⟨h.rd.mono hm,h.nb,h.oc⟩
def Sc.CC0{w0:Wo}(h:Sc w0 (rb::bs) w)(hx:Q0 bs w w'):Sc w0 (rb::bs) w':=h.step (hx.mono λ_ hm=>I1 _ hm)
def Sc.Cf1{w0:Wo}(h:Sc w0 (rb::bs) w)(hx:Q0 [rb] w w'):Sc w0 (rb::bs) w':=h.step (hx.mono λx hm=>by
 have:x=rb:=by simpa using hm
 subst this;simp)
def zd9(h:RS rb c L N bs w)(hx:Q0 [rb] w w')(hs:∀x∈bs,x<w.heap.size):Q9 bs w w':=Ld hx hs λx hm gZ=>by
 have:x=rb:=by simpa using hm
 subst this;exact h.nb gZ
end
section
variable {α:Type}{enc:α->List Va}{z:Nat}{ty:TypeId}{base rb:Nat}{bs:List Nat}{w w':Wo}{o:OA}{cap:Nat}{l:List α}{b:Nat}
end
def zqk{c:OA}{L C:Nat}{w:Wo}(h:DB c L w)(hC:L<=C) :
  Cz Vr #[.slice c L C] w λe w'=>∃b c' L',e=.returned (.pointer (some ⟨b,0,none⟩))/\w.heap.size<=b/\OS b c' L' 0 w'/\Q0 [] w w'/\∀a',c'=some a'->L'=0\/(0<L/\∃a,c=some a/\a'.block=a.block):=by
 refine(zc6 c L C (R:=λv w'=>∃b c' L',v=.pointer (some ⟨b,0,none⟩)/\w.heap.size<=b/\OS b c' L' 0 w'/\Q0 [] w w'/\∀a',c'=some a'->L'=0\/(0<L/\∃a,c=some a/\a'.block=a.block)) ?_).mono λe w' ⟨v,he,b,c',L',hv,h1,h2,h3⟩=>⟨b,c',L',by rw[he,hv],h1,h2,h3⟩
 refine⟨λIW=>⟨⟨Qo,Qo,by have:=Ot IW;omega⟩,λb wb hx hb hh _ wr hy=>⟨b,if C=Int.toNat 0 then c else c.map (·.add (Int.toNat 0*1)),Int.toNat 2000-Int.toNat 0,rfl,hb,?_,hx.trans hy,λa' ha'=>?_⟩⟩,λIW b wb hx hb hh _ wr hy=>⟨b,c,L,rfl,hb,?_,hx.trans hy,λa' ha'=>?_⟩⟩
 ·refine OS.WH ⟨⟨_,0,hh,Qo,Qo⟩,λi hi=>?_⟩ hy;have IW:=Ot IW;obtain⟨a,x,ha,h1,h2,h3⟩:=h.ext hx i (by have:i<2000-0:=hi;omega);obtain⟨a0,x0,ha0,_,_,h30⟩:=h i (by have:i<2000-0:=hi;omega);have Rh:=World.block_lt_of_cell? w _ h30;rw[ZW] at Rh;rw[ha] at ha0;cases ha0;rw[B' (show ¬C=Int.toNat 0 from λe=>by have:C=0:=e;omega),ha];refine⟨a.add 0,x,rfl,by rw[ZW];omega,h1,h2,?_⟩;rw[JJ,Nat.zero_add];exact h3
 ·have IW:=Ot IW;refine .inr ⟨Qo,?_⟩;rw[B' (show ¬C=Int.toNat 0 from λe=>by have:C=0:=e;omega)] at ha'
  cases c with
  |none=>cases ha'
  |some a=>
   simp only[Option.map_some,I0] at ha';exact⟨a,rfl,by rw[<-ha',ZW]⟩
 ·refine OS.WH ⟨⟨_,0,hh,Qo,Qo⟩,λi hi=>?_⟩ hy;obtain⟨a,x,ha,h1,h2,h3⟩:=h.ext hx i hi;obtain⟨a0,x0,ha0,_,_,h30⟩:=h i hi;have Rh:=World.block_lt_of_cell? w _ h30;rw[ZW] at Rh;rw[ha] at ha0;cases ha0;exact⟨a,x,ha,Qo,h1,h2,h3⟩
 ·rcases Nat.eq_zero_or_pos L with h0|h0
  ·exact .inl h0
  ·exact .inr ⟨h0,a',ha',rfl⟩
structure Dr (rb:Nat) (c:OA) (L N n:Nat) (bs:List Nat) (w0 w:Wo):Prop where
 r:RS rb c L (N+n) bs w
 ext:Q0 [rb] w0 w
 new:∀x∈bs,w0.heap.size<=x
section
variable {rb b b2:Nat}{c:OA}{L N n k:Nat}{bs cs:List Nat}{w0 w w':Wo}
def Dr.start(h:OS rb c L N w):Dr rb c L N 0 [] w w:=⟨⟨h,Qs,λ_ _=>.inl Qs⟩,Q0.refl _ _,Qs⟩
def Dr.step(h:Dr rb c L N n bs w0 w)(hx:Q0 bs w w'):Dr rb c L N n bs w0 w':=⟨h.r.step hx,h.ext.fresh hx λx hm=>.inl (h.new x hm),h.new⟩
def Dr.add(h:Dr rb c L N n bs w0 w)(hb:w.heap.size<=b):Dr rb c L N n (bs++[b]) w0 w:=⟨h.r.add hb,h.ext,λx hm=>by
 rcases Im.1 hm with hm|hm
 ·exact h.new x hm
 ·have:x=b:=by simpa using hm
  have:=h.ext.size;omega⟩
def Dr.put(h:Dr rb c L N n bs w0 w)(hx:Q0 bs w w')(hb:w.heap.size<=b):Dr rb c L N n (bs++[b]) w0 w':=(h.add hb).step (hx.mono λ_ hm=>Ia _ hm)
def Dr.AH4(h:Dr rb c L N n bs w0 w)(hx:Q0 bs w w')(hb:w.heap.size<=b)(cD:w.heap.size<=b2):Dr rb c L N n (bs++[b]++[b2]) w0 w':=((h.add hb).add cD).step (hx.mono λ_ hm=>Ia _ (Ia _ hm))
def Dr.more{m:Nat}(h:Dr rb c L N n bs w0 w)(hm:n<=m):Dr rb c L N m bs w0 w:=⟨h.r.mono Qo,h.ext,h.new⟩
def Dr.sub(h:Dr rb c L N n bs w0 w)(hs:∀x∈cs,x∈bs):Dr rb c L N n cs w0 w:=⟨h.r.sub hs,h.ext,λx hm=>h.new x (hs x hm)⟩
def Dr.fin{m:Nat}(h:Dr rb c L N n bs w0 w)(hm:n<=m):OS rb c L (N+m) w/\Q0 [rb] w0 w:=⟨(h.more hm).r.rd,h.ext⟩
def Dr.call{f:FuncId}{args:Array Va}{Q:Int->Prop}(h:Dr rb c L N n bs w0 w)(hs:∀x∈bs,x<w.heap.size)(hc:Cz f args w λe w'=>∃v,e=.returned (I v)/\Q v/\OS rb c L (N+n+k) w'/\Q0 [rb] w w') :
  Cz f args w λe w'=>∃v,e=.returned (I v)/\Q9 bs w w'/\Q v/\Dr rb c L N (n+k) bs w0 w':=
 hc.mono λe w' ⟨v,he,hq,hr,hx⟩=>⟨v,he,zd9 h.r hx hs,hq,⟨h.r.upd (by rw[<-Nat.add_assoc];exact hr),h.ext.trans hx,h.new⟩⟩
def Dr.pick(h:Dr rb c L N n bs w0 w)(hN:N+n<=1000000000000)(hs:∀x∈bs,x<w.heap.size){q:Int} :
  Cz Q4 #[.pointer (some ⟨rb,0,none⟩),I q] w λe w'=>∃v,e=.returned (I v)/\Q9 bs w w'/\zbn q v/\Dr rb c L N (n+1) bs w0 w':=h.call hs (zd3 h.r.rd hN)
def Dr.R2(h:Dr rb c L N n bs w0 w)(hN:N+n<=900000000000)(hs:∀x∈bs,x<w.heap.size) :
  Cz Y3 #[.pointer (some ⟨rb,0,none⟩)] w λe w'=>∃v,e=.returned (I v)/\Q9 bs w w'/\z5u v/\Dr rb c L N (n+2) bs w0 w':=h.call hs (zn3 h.r.rd hN)
end
def z7v:Va->Bool
 |.int .i64 _=>true
 |_=>false
def z7x:Va->Bool
 |.string _=>true
 |_=>false
def z6d{v:Int}{k:Nat}{ls:List Va}{P:Int->Prop}(ha:ls.all z7v)(hl:ls.length=k)(h0:0<=v)(h1:v<(k:Int))(h:∀x,P x):∃x:Int,(0<=v/\ls[Int.toNat v+0]? = some (I x))/\P x:=by
 have IW:Int.toNat v+0<ls.length:=Qo;have:=List.all_eq_true.1 ha _ (List.getElem_mem IW);have e:=Il IW;generalize ls[Int.toNat v+0]=y at this e;unfold z7v at this
 split at this
 ·exact⟨_,⟨h0,e⟩,h _⟩
 ·cases this
def z7s{v:Int}{k:Nat}{ls:List Va}{P:ByteArray->Prop}(ha:ls.all z7x)(hl:ls.length=k)(h0:0<=v)(h1:v<(k:Int))(h:∀x,P x):∃x:ByteArray,(0<=v/\ls[Int.toNat v+0]? = some (.string x))/\P x:=by
 have IW:Int.toNat v+0<ls.length:=Qo;have:=List.all_eq_true.1 ha _ (List.getElem_mem IW);have e:=Il IW;generalize ls[Int.toNat v+0]=y at this e;unfold z7x at this
 split at this
 ·exact⟨_,⟨h0,e⟩,h _⟩
 ·cases this
def z3k(x:Int):Qp .i64 (10-Zr (zlw x 1) 20):=by
 have:1<=Zr (zlw x 1) 20/\Zr (zlw x 1) 20<=20:=by
  have h:1<=zlw x 1:=by unfold zlw;split <;> omega
  unfold Zr
  split <;> omega
 exact⟨Qo,Qo⟩
section
variable {rb:Nat}{c:OA}{L N n:Nat}{bs:List Nat}{w0 w:Wo}
def z0k(_:Int):Prop:=True
def z4s(h:OS rb c L N w)(hN:N<=900000000000) :
  Cz YV #[.pointer (some ⟨rb,0,none⟩)] w λe w'=>∃v,e=.returned (I v)/\z0k v/\OS rb c L (N+2) w'/\Q0 [rb] w w':=by
 refine(FB (some ⟨rb,0,none⟩) (R:=λv w'=>∃x,v=I x/\OS rb c L (N+2) w'/\Q0 [rb] w w') ?_).mono λe w' ⟨v,he,x,hv,h1⟩=>⟨x,by rw[he,hv],trivial,h1⟩
 have h0:=Dr.start h;intro wr hx hs;refine(Dr.pick (h0.step hx) Qo hs).mono ?_;rintro e w2 ⟨v,he,hk,_,h1⟩;refine⟨_,he,hk,λ_ b hb R5 S9 dE=>?_,λ_ b hb R5 S9 dE=>?_⟩
 all_goals
  refine(Dr.pick (h1.put S9 hb) Qo dE).mono ?_;rintro e w3 ⟨u,gD,hk3,⟨u0,_,u2⟩,h2⟩;have u2:=u2 Qd;refine⟨_,gD,hk3,⟨Qo,Qo⟩,z6d Qd rfl Qo Qo λx R6 Rk=>⟨x,rfl,(h2.step Rk).fin Qo⟩⟩
def z12(h:OS rb c L N w)(hN:N<=900000000000) :
  Cz Yl #[.pointer (some ⟨rb,0,none⟩)] w λe w'=>∃v,e=.returned (I v)/\z0k v/\OS rb c L (N+2) w'/\Q0 [rb] w w':=by
 refine(Ej (some ⟨rb,0,none⟩) (R:=λv w'=>∃x,v=I x/\OS rb c L (N+2) w'/\Q0 [rb] w w') ?_).mono λe w' ⟨v,he,x,hv,h1⟩=>⟨x,by rw[he,hv],trivial,h1⟩
 have h0:=Dr.start h;intro wr hx hs;refine(Dr.pick (h0.step hx) Qo hs).mono ?_;rintro e w2 ⟨v,he,hk,_,h1⟩;refine⟨_,he,hk,λ_ b hb R5 S9 dE=>?_,λ_ b hb R5 S9 dE=>?_⟩
 all_goals
  refine(Dr.pick (h1.put S9 hb) Qo dE).mono ?_;rintro e w3 ⟨u,gD,hk3,⟨u0,_,u2⟩,h2⟩;have u2:=u2 Qd;refine⟨_,gD,hk3,⟨Qo,Qo⟩,z6d Qd rfl Qo Qo λx R6 Rk=>⟨x,rfl,(h2.step Rk).fin Qo⟩⟩
def Dr.mask(h:Dr rb c L N n bs w0 w)(hN:N+n<=900000000000)(hs:∀x∈bs,x<w.heap.size) :
  Cz YV #[.pointer (some ⟨rb,0,none⟩)] w λe w'=>∃v,e=.returned (I v)/\Q9 bs w w'/\z0k v/\Dr rb c L N (n+2) bs w0 w':=h.call hs (z4s h.r.rd hN)
def Dr.Sv(h:Dr rb c L N n bs w0 w)(hN:N+n<=900000000000)(hs:∀x∈bs,x<w.heap.size) :
  Cz Yl #[.pointer (some ⟨rb,0,none⟩)] w λe w'=>∃v,e=.returned (I v)/\Q9 bs w w'/\z0k v/\Dr rb c L N (n+2) bs w0 w':=h.call hs (z12 h.r.rd hN)
end
def Xo.w{W:Q7}(iv:Xo W):Qr W:=Qm.2 iv.wp
def Xo.len{W:Q7}(iv:Xo W):VB W:=z14 iv.wp.a
def zpp(W V:Q7):Prop:=Xo V/\XS W V
def zpp.refl{W:Q7}(iv:Xo W):zpp W W:=⟨iv,.same⟩
def z1o{W W':Q7}{bar:Int}(iv:Xo W)(hb:bar=0->zpp W W'):zpp W (Yz W bar W').1:=by
 unfold Yz;rw[B' (by rw[iv.w];decide)];split
 ·exact zpp.refl iv
 ·rename_i e;exact hb (by simpa using e)
def zx8{W W':Q7}{bar a:Int}(iv:Xo W)(hb:bar=0->zpp W W'):zpp W (Tf W bar W' a).1:=by
 unfold Tf;rw[B' (by rw[iv.w];decide)];split
 ·exact zpp.refl iv
 ·rename_i e;exact hb (by simpa using e)
section
variable {f:FuncId}{args:Array Va}{W W':Q7}{bar a:Int}{m:MW}{w:Wo}
def V2(iv:Xo W)(hc:Cz f args w λe w'=>∃v,e=.returned v/\QX (Yz W bar W') w v w')(hb:bar=0->zpp W W') :
  Cz f args w λe w'=>∃(V:Q7) (m':MW) (d:Int),e=.returned (.tuple #[.agg (Qc V m').toArray,I d])/\zpp W V/\Zp 8 w.heap.size w' V m'/\Q0 [] w w':=
 hc.mono λe w' ⟨v,he,n,m',hv,hM,hx⟩=>by
  have hi:=z1o iv hb;have hn:n=8:=hM.len.symm.trans hi.1.wp.a.gl;subst hn;exact⟨_,m',_,by rw[he,hv],hi,hM,hx⟩
def zr5(iv:Xo W)(hc:Cz f args w λe w'=>∃v,e=.returned v/\P1 (Tf W bar W' a) w v w')(hb:bar=0->zpp W W') :
  Cz f args w λe w'=>∃(V:Q7) (m':MW) (q d:Int),e=.returned (.tuple #[.agg (Qc V m').toArray,I q,I d])/\zpp W V/\Zp 8 w.heap.size w' V m'/\Q0 [] w w':=
 hc.mono λe w' ⟨v,he,n,m',hv,hM,hx⟩=>by
  have hi:=zx8 (a:=a) iv hb;have hn:n=8:=hM.len.symm.trans hi.1.wp.a.gl;subst hn;exact⟨_,m',_,_,by rw[he,hv],hi,hM,hx⟩
def zws{P:Q7->Prop}(iv:Xo W)(h0:P W)(hc:Cz f args w λe w'=>∃v,e=.returned v/\P1 (Tf W bar W' a) w v w')(hb:bar=0->Xo W'/\P W') :
  Cz f args w λe w'=>∃(V:Q7) (m':MW) (q d:Int),e=.returned (.tuple #[.agg (Qc V m').toArray,I q,I d])/\(Xo V/\P V)/\Zp 8 w.heap.size w' V m'/\Q0 [] w w':=
 hc.mono λe w' ⟨v,he,n,m',hv,hM,hx⟩=>by
  have hi:Xo (Tf W bar W' a).1/\P (Tf W bar W' a).1:=by
   unfold Tf;rw[B' (by rw[iv.w];decide)];split
   ·exact⟨iv,h0⟩
   ·rename_i e;exact hb (by simpa using e)
  have hn:n=8:=hM.len.symm.trans hi.1.wp.a.gl;subst hn;exact⟨_,m',_,_,by rw[he,hv],hi,hM,hx⟩
def z7b(W:Q7)(w:Wo)(v:Va)(w':Wo):Prop:=∃(V:Q7) (m':MW) (d:Int),v=.tuple #[.agg (Qc V m').toArray,I d]/\zpp W V/\Zp 8 w.heap.size w' V m'/\Q0 [] w w'
def Jy{bs:List Nat}{w0 w2 w3:Wo}{d:Int}(s:Sc w0 bs w)(hs:∀x∈bs,x<w.heap.size)(hi:zpp W W'){m':MW}(hM:Zp 8 w.heap.size w2 W' m')(hy:Q0 [] w w2)(hx:Q0 bs w2 w3):z7b W w0 (.tuple #[.agg (Qc W' m').toArray,I d]) w3:=
 ⟨W',m',d,rfl,hi,(((OW.of hM hs).step hx).own).mono s.ext.size,((s.R7 hy).step hx).ext⟩
def z4q{c:Int}(iv:Xo W)(h:zax W c=0):Xo (Rc W c):=by
 obtain⟨c0,c1⟩:=UF (zry h).1;exact zus iv c0 c1
def zuv{k a n q:Int}{s:ByteArray}(h:XV [] w W m)(iv:Xo W) :
  Cz Vq #[.agg (Qc W m).toArray,.agg #[I k,I a,I n,I q,.string s]] w λe w'=>∃v,e=.returned v/\z7b W w v w':=by
 refine zc5 _ _ _ _ _ _ _ _ _ _ k a n q s (R:=λv w'=>z7b W w v w') ?_;intro b hb b1 bY b2 cD;have hl:=iv.len;have hW:=iv.w;have s0:Sc w ([b]++[b1]++[b2]) w:=(((Sc.start w).add hb).add bY).add cD;have hS:∀{wr:Wo},Q0 [] w wr->Sc w [b,b1,b2] wr:=λhx=>s0.R7 hx
 refine⟨λ_ wr hx hs=>?_,λ_=>⟨λ_ wr hx hs=>?_,λ_=>⟨λ_ wr hx hs=>?_,λ_=>⟨λ_ wr hx hs=>?_,λ_=>⟨λ_ wr hx hs=>?_,λ_=>⟨λ_ wr hx hs=>?_,λ_=>⟨λ_ wr hx hs=>?_,λ_=>⟨λ_ wr hx hs=>?_,λ_=>⟨λ_ wr hx hs=>?_,λ_=>⟨λ_ wr hx hs=>?_,λ_=>⟨λ_ wr hx hs=>?_,λ_=>⟨λ_ wr hx hs=>?_,λ_=>⟨λ_ wr hx hs=>?_,λ_=>⟨λ_ wr hx hs=>?_,λ_=>⟨λ_ wr hx hs=>?_,λ_=>⟨λ_ wr hx hs=>?_,λ_=>⟨λ_ wr hx hs=>?_,λ_=>⟨λ_ wr hx hs=>?_,λ_=>⟨_,Uy h hl.c hl.t hl.g hl.f,λg=>?_,λ_ wr hx hs=>?_⟩⟩⟩⟩⟩⟩⟩⟩⟩⟩⟩⟩⟩⟩⟩⟩⟩⟩⟩
 case refine_19=>rw[hW] at g;cases g
 case refine_20=>
  refine(M0 (h.ext hx) iv.wp.a).mono ?_;rintro e wv ⟨m',he,hM,hy⟩;exact⟨_,_,_,_,_,_,_,_,_,_,he,Qi hy hs,λR6 Rk=>Jy (hS hx) hs (zpp.refl iv) hM hy Rk⟩
 case refine_3=>
  refine(zr5 iv (Gk (h.ext hx) hl) (λhb=>⟨znz hW hb,.fork _ _ _ hb⟩)).mono ?_;rintro e wv ⟨V,m',q1,d,he,hi,hM,hy⟩;exact⟨_,_,_,_,_,_,_,_,_,_,_,_,he,Qi hy hs,λR6 Rk=>Jy (hS hx) hs hi hM hy Rk⟩
 case refine_10=>
  refine(zr5 iv (L6 (h.ext hx) hl) λhb=>⟨zqg iv (zei hb).1,.mak _ _ _ (zei hb).1⟩).mono ?_;rintro e wv ⟨V,m',q1,d,he,hi,hM,hy⟩;exact⟨_,_,_,_,_,_,_,_,_,_,_,_,he,Qi hy hs,λR6 Rk=>Jy (hS hx) hs hi hM hy Rk⟩
 case refine_1=>exact(V2 iv (Gl (h.ext hx) hl) (λhb=>⟨za9 iv hb,.run _ _ hb⟩)).mono λe wv ⟨V,m',d,he,hi,hM,hy⟩=>⟨_,_,_,_,_,_,_,_,_,_,_,he,Qi hy hs,λR6 Rk=>Jy (hS hx) hs hi hM hy Rk⟩
 case refine_2=>exact(V2 iv (FT (h.ext hx) hl) (λhb=>⟨z4q iv hb,.yld _ hb⟩)).mono λe wv ⟨V,m',d,he,hi,hM,hy⟩=>⟨_,_,_,_,_,_,_,_,_,_,_,he,Qi hy hs,λR6 Rk=>Jy (hS hx) hs hi hM hy Rk⟩
 case refine_4=>exact(V2 iv (ND (h.ext hx) hl) (λhb=>⟨zur hW hb,.block _ hb⟩)).mono λe wv ⟨V,m',d,he,hi,hM,hy⟩=>⟨_,_,_,_,_,_,_,_,_,_,_,he,Qi hy hs,λR6 Rk=>Jy (hS hx) hs hi hM hy Rk⟩
 case refine_5=>exact(V2 iv (y7 (h.ext hx) hl) (λhb=>⟨zyc hW hb,.Cf6 _ hb⟩)).mono λe wv ⟨V,m',d,he,hi,hM,hy⟩=>⟨_,_,_,_,_,_,_,_,_,_,_,he,Qi hy hs,λR6 Rk=>Jy (hS hx) hs hi hM hy Rk⟩
 case refine_6=>exact(V2 iv (q9 (h.ext hx) hl) (λhb=>⟨zx9 hW hb,.exit _ hb⟩)).mono λe wv ⟨V,m',d,he,hi,hM,hy⟩=>⟨_,_,_,_,_,_,_,_,_,_,_,he,Qi hy hs,λR6 Rk=>Jy (hS hx) hs hi hM hy Rk⟩
 case refine_7=>exact(V2 iv (k9 (h.ext hx) hl) (λhb=>⟨zya hW hb,.nice _ _ hb⟩)).mono λe wv ⟨V,m',d,he,hi,hM,hy⟩=>⟨_,_,_,_,_,_,_,_,_,_,_,he,Qi hy hs,λR6 Rk=>Jy (hS hx) hs hi hM hy Rk⟩
 case refine_8=>exact(V2 iv (zd5 (h.ext hx) hl) (λhb=>⟨z1u hW hb,.pin _ _ hb⟩)).mono λe wv ⟨V,m',d,he,hi,hM,hy⟩=>⟨_,_,_,_,_,_,_,_,_,_,_,he,Qi hy hs,λR6 Rk=>Jy (hS hx) hs hi hM hy Rk⟩
 case refine_9=>exact(V2 iv (k7 (h.ext hx) hl) (λhb=>⟨z1s iv hb,.mov _ _ hb⟩)).mono λe wv ⟨V,m',d,he,hi,hM,hy⟩=>⟨_,_,_,_,_,_,_,_,_,_,_,he,Qi hy hs,λR6 Rk=>Jy (hS hx) hs hi hM hy Rk⟩
 case refine_11=>exact(V2 iv (NA (h.ext hx) hl) λhb=>⟨zsm iv (zxm hb).1,.drp _ (zxm hb).1⟩).mono λe wv ⟨V,m',d,he,hi,hM,hy⟩=>⟨_,_,_,_,_,_,_,_,_,_,_,he,Qi hy hs,λR6 Rk=>Jy (hS hx) hs hi hM hy Rk⟩
 case refine_12=>exact(V2 iv (FSx (h.ext hx) hl) (λhb=>⟨z1v hW hb,.wgh _ _ hb⟩)).mono λe wv ⟨V,m',d,he,hi,hM,hy⟩=>⟨_,_,_,_,_,_,_,_,_,_,_,he,Qi hy hs,λR6 Rk=>Jy (hS hx) hs hi hM hy Rk⟩
 case refine_13=>exact(V2 iv (q8 (h.ext hx) hl) (λhb=>⟨z1q hW hb,.gpn _ _ hb⟩)).mono λe wv ⟨V,m',d,he,hi,hM,hy⟩=>⟨_,_,_,_,_,_,_,_,_,_,_,he,Qi hy hs,λR6 Rk=>Jy (hS hx) hs hi hM hy Rk⟩
 case refine_14=>exact(V2 iv (FR (h.ext hx) hl) (λhb=>⟨z1r hW hb,.lim _ _ _ hb⟩)).mono λe wv ⟨V,m',d,he,hi,hM,hy⟩=>⟨_,_,_,_,_,_,_,_,_,_,_,he,Qi hy hs,λR6 Rk=>Jy (hS hx) hs hi hM hy Rk⟩
 case refine_15=>exact(V2 iv (y8 (h.ext hx) hl) (λhb=>⟨zyb hW hb,.time _ hb⟩)).mono λe wv ⟨V,m',d,he,hi,hM,hy⟩=>⟨_,_,_,_,_,_,_,_,_,_,_,he,Qi hy hs,λR6 Rk=>Jy (hS hx) hs hi hM hy Rk⟩
 case refine_16=>exact(V2 iv (FP (h.ext hx) hl) (λhb=>⟨z1p hW hb,.bal _ hb⟩)).mono λe wv ⟨V,m',d,he,hi,hM,hy⟩=>⟨_,_,_,_,_,_,_,_,_,_,_,he,Qi hy hs,λR6 Rk=>Jy (hS hx) hs hi hM hy Rk⟩
 case refine_17=>exact(V2 iv (zhj (h.ext hx) hl) (λhb=>⟨z1t hW hb,.off _ hb⟩)).mono λe wv ⟨V,m',d,he,hi,hM,hy⟩=>⟨_,_,_,_,_,_,_,_,_,_,_,he,Qi hy hs,λR6 Rk=>Jy (hS hx) hs hi hM hy Rk⟩
 case refine_18=>exact(V2 iv (zlp (h.ext hx) hl) (λhb=>⟨z4p hW hb,.on _ hb⟩)).mono λe wv ⟨V,m',d,he,hi,hM,hy⟩=>⟨_,_,_,_,_,_,_,_,_,_,_,he,Qi hy hs,λR6 Rk=>Jy (hS hx) hs hi hM hy Rk⟩
end
def z4r{rb:Nat}{c:OA}{L N:Nat}{w:Wo}{W:Q7}{m:MW}(h:OS rb c L N w)(hN:N<=800000000000) :
  Cz JC #[.pointer (some ⟨rb,0,none⟩),.agg (Qc W m).toArray] w λe w'=>∃(k a n q:Int) (s:ByteArray),e=.returned (.agg #[I k,I a,I n,I q,.string s])/\OS rb c L (N+20) w'/\Q0 [rb] w w':=by
 refine(FA (some ⟨rb,0,none⟩) W.now m.cO W.IF.length m.cC m.tO W.IJ.length m.tC m.gO W.IE.length m.gC (R:=λv w'=>∃(k a n q:Int) (s:ByteArray),v=.agg #[I k,I a,I n,I q,.string s]/\OS rb c L (N+20) w'/\Q0 [rb] w w') ?_).mono λe w' ⟨v,he,k,a,n,q,s,hv,h1⟩=>⟨k,a,n,q,s,by rw[he,hv],h1⟩
 intro b hb b1 bY;refine⟨_,TJ,λwr hx hs=>?_⟩;refine(Dr.pick ((Dr.start h).AH4 hx hb bY) Qo hs).mono ?_;rintro e w1 ⟨v1,he,hk,_,h1⟩;refine⟨_,he,hk,λwr hx hs=>?_⟩;refine(Dr.pick (h1.step hx) Qo hs).mono ?_;rintro e w2 ⟨v2,he,hk,_,h2⟩;refine⟨_,he,hk,λvs bs w2=>bs=[]/\(∃x:Int,vs=[I x])/\Dr rb c L N 4 [b,b1] w w2,λwr hx hs=>?_,?_⟩
 ·refine(Dr.pick (h2.step hx) Qo hs).mono ?_;rintro e w3 ⟨v3,he,hk,_,h3⟩;refine⟨_,he,hk,λ_ wr hx hs=>?_,λ_ wr hx hs=>⟨rfl,⟨_,rfl⟩,(h3.step hx).more Qd⟩⟩;refine(Dr.pick (h3.step hx) Qo hs).mono ?_;rintro e w4 ⟨v4,he,hk,_,h4⟩;exact⟨_,he,hk,λwr hx _=>⟨rfl,⟨_,rfl⟩,(h4.step hx).more Qd⟩⟩
 clear h1 h2;rintro t bG dT ⟨-,-,h4⟩ wr hx hs;refine(Dr.pick (h4.step hx) Qo hs).mono ?_;rintro e w5 ⟨v5,he,hk,⟨p50,_,p52⟩,h5⟩;have p52:=p52 Qd;refine⟨_,he,hk,λwr hx hs=>?_⟩;refine(Dr.pick (h5.step hx) Qo hs).mono ?_;rintro e w6 ⟨v6,he,hk,_,h6⟩;clear h4 h5;refine⟨_,he,hk,λ_=>?_,λ_ wr hx hs=>?_⟩
 rotate_left
 ·refine(Dr.pick (h6.step hx) Qo hs).mono ?_;rintro e w7 ⟨v7,he,hk,_,h7⟩;clear h6;refine⟨_,he,hk,?_⟩;clear he hk hx hs dT
  repeat' first
   |exact rfl
   |exact z3k _
   |(refine⟨_,TJ,?_⟩)
   |(refine⟨_,JE,?_⟩)
   |(refine⟨λ_ bs w2=>bs=[]/\Dr rb c L N 7 [b,b1] w w2,?_,?_⟩)
   |(refine And.intro ?_ ?_)
   |(refine z6d Qd rfl Qo Qo λx=>?_)
   |(refine z7s Qd rfl Qo Qo λx=>?_)
   |(intro (x:Bool) (wv:Wo) hs hm;obtain⟨_,hD⟩:=hm)
   |(intro (b:Nat) hb)
   |(intro (wr:Wo) hx hs;refine(Dr.pick (Dr.step (by assumption) hx) ?_ hs).mono ?_;rotate_left;rintro e w2 ⟨v,he,hk,⟨hp0,_,dD⟩,hC⟩;have dD:=dD Qd;refine⟨_,he,hk,?_⟩)
   |(intro (wr:Wo) hx hs;refine(Dr.pick (Dr.put (by assumption) hx (by assumption)) ?_ hs).mono ?_;rotate_left;rintro e w2 ⟨v,he,hk,⟨hp0,_,dD⟩,hC⟩;have dD:=dD Qd;refine⟨_,he,hk,?_⟩)
   |(intro (wr:Wo) hx hs;refine(Dr.pick (Dr.AH4 (by assumption) hx (by assumption) (by assumption)) ?_ hs).mono ?_;rotate_left;rintro e w2 ⟨v,he,hk,⟨hp0,_,dD⟩,hC⟩;have dD:=dD Qd;refine⟨_,he,hk,?_⟩)
   |(intro (wr:Wo) hx hs;refine(Dr.R2 (Dr.step (by assumption) hx) ?_ hs).mono ?_;rotate_left;rintro e w2 ⟨v,he,hk,⟨hp0,dD⟩,hC⟩;refine⟨_,he,hk,?_⟩)
   |(intro (wr:Wo) hx hs;refine(Dr.mask (Dr.step (by assumption) hx) ?_ hs).mono ?_;rotate_left;rintro e w2 ⟨v,he,hk,_,hC⟩;refine⟨_,he,hk,?_⟩)
   |(intro (wr:Wo) hx hs;refine(Dr.Sv (Dr.step (by assumption) hx) ?_ hs).mono ?_;rotate_left;rintro e w2 ⟨v,he,hk,_,hC⟩;refine⟨_,he,hk,?_⟩)
   |(intro (wr:Wo) hx hs;exact⟨rfl,Dr.step (by assumption) hx⟩)
   |(intro (wr:Wo) hx;exact⟨_,_,_,_,_,rfl,(Dr.step (by assumption) hx).fin Qd⟩)
   |(intro (hh:_=true))
   |(intro (hh:_=false))
   |omega
   |decide
 ·repeat' first
   |exact rfl
   |(refine And.intro ?_ ?_)
   |(refine z6d Qd rfl Qo Qo λx=>?_)
   |(intro (b:Nat) hb)
   |(intro (wr:Wo) hx hs;refine(Dr.pick (Dr.step (by assumption) hx) ?_ hs).mono ?_;rotate_left;rintro e w2 ⟨v,he,hk,⟨hp0,_,dD⟩,hC⟩;have dD:=dD Qd;refine⟨_,he,hk,?_⟩)
   |(intro (wr:Wo) hx hs;refine(Dr.pick (Dr.put (by assumption) hx (by assumption)) ?_ hs).mono ?_;rotate_left;rintro e w2 ⟨v,he,hk,⟨hp0,_,dD⟩,hC⟩;have dD:=dD Qd;refine⟨_,he,hk,?_⟩)
   |(intro (wr:Wo) hx;exact⟨_,_,_,_,_,rfl,(Dr.step (by assumption) hx).fin Qd⟩)
   |omega
def z7w(lo hi:Int):Va->Bool
 |.int .i64 x=>decide (lo<=x)&&decide (x<=hi)
 |_=>false
def z73{lo hi v:Int}{k:Nat}{ls:List Va}{P:Int->Prop}(ha:ls.all (z7w lo hi))(hl:ls.length=k)(h0:0<=v)(h1:v<(k:Int))(h:∀x,lo<=x->x<=hi->P x):∃x:Int,(0<=v/\ls[Int.toNat v+0]? = some (I x))/\P x:=by
 have IW:Int.toNat v+0<ls.length:=Qo;have:=List.all_eq_true.1 ha _ (List.getElem_mem IW);have e:=Il IW;generalize ls[Int.toNat v+0]=y at this e;unfold z7w at this
 split at this
 ·rw[A',Ij,Ij] at this;exact⟨_,⟨h0,e⟩,h _ this.1 this.2⟩
 ·cases this
structure UE (P:Nat->Q7->Prop) (rb:Nat) (c:OA) (L N n:Nat) (bs:List Nat) (w0 w:Wo) (W:Q7) (m:MW):Prop where
 iv:Xo W
 lw:P n W
 d:Dr rb c L N n bs w0 w
 o:OW 8 w0.heap.size (rb::bs) w W m
section
variable {P:Nat->Q7->Prop}{rb b b2:Nat}{c:OA}{L N n k:Nat}{bs cs:List Nat}{w0 w w':Wo}{W W':Q7}{m m':MW}
def UE.step(h:UE P rb c L N n bs w0 w W m)(hx:Q0 bs w w'):UE P rb c L N n bs w0 w' W m:=⟨h.iv,h.lw,h.d.step hx,h.o.step (hx.mono λ_ hm=>I1 _ hm)⟩
def UE.put(h:UE P rb c L N n bs w0 w W m)(hx:Q0 bs w w')(hb:w.heap.size<=b):UE P rb c L N n (bs++[b]) w0 w' W m:=⟨h.iv,h.lw,h.d.put hx hb,h.o.put (hx.mono λ_ hm=>I1 _ hm) hb⟩
def UE.AH4(h:UE P rb c L N n bs w0 w W m)(hx:Q0 bs w w')(hb:w.heap.size<=b)(cD:w.heap.size<=b2):UE P rb c L N n (bs++[b]++[b2]) w0 w' W m:=⟨h.iv,h.lw,h.d.AH4 hx hb cD,h.o.AH4 (hx.mono λ_ hm=>I1 _ hm) hb cD⟩
def UE.sub(h:UE P rb c L N n bs w0 w W m)(hs:∀x∈cs,x∈bs):UE P rb c L N n cs w0 w W m:=⟨h.iv,h.lw,h.d.sub hs,h.o.sub λx hx=>by
 rcases Ii.1 hx with h1|h1
 ·rw[h1];exact I9
 ·exact I1 _ (hs x h1)⟩
def UE.more{q:Nat}(hP:Mb P)(h:UE P rb c L N n bs w0 w W m)(hm:n<=q):UE P rb c L N q bs w0 w W m:=⟨h.iv,hP.mono hm h.lw,h.d.more hm,h.o⟩
def UE.rd(h:UE P rb c L N n bs w0 w W m):XV [] w W m:=h.o.rd0
def UE.drawn(hP:Mb P)(h:UE P rb c L N n bs w0 w W m)(hr:OS rb c L (N+n+k) w')(hx:Q0 [rb] w w'):UE P rb c L N (n+k) bs w0 w' W m:=
 ⟨h.iv,hP.mono Qo h.lw,⟨h.d.r.upd (by rw[<-Nat.add_assoc];exact hr),h.d.ext.trans hx,h.d.new⟩,h.o.step (hx.mono λx hm=>by
  have:x=rb:=by simpa using hm
  subst this;exact I9)⟩
def UE.call{f:FuncId}{args:Array Va}{Q:Int->Prop}(hP:Mb P)(h:UE P rb c L N n bs w0 w W m)(hs:∀x∈bs,x<w.heap.size)(hc:Cz f args w λe w'=>∃v,e=.returned (I v)/\Q v/\OS rb c L (N+n+k) w'/\Q0 [rb] w w') :
  Cz f args w λe w'=>∃v,e=.returned (I v)/\Q9 bs w w'/\Q v/\UE P rb c L N (n+k) bs w0 w' W m:=
 hc.mono λe w' ⟨v,he,hq,hr,hx⟩=>⟨v,he,zd9 h.d.r hx hs,hq,h.drawn hP hr hx⟩
def UE.pick(hP:Mb P)(h:UE P rb c L N n bs w0 w W m)(hN:N+n<=1000000000000)(hs:∀x∈bs,x<w.heap.size){q:Int} :
  Cz Q4 #[.pointer (some ⟨rb,0,none⟩),I q] w λe w'=>∃v,e=.returned (I v)/\Q9 bs w w'/\zbn q v/\UE P rb c L N (n+1) bs w0 w' W m:=h.call hP hs (zd3 h.d.r.rd hN)
def UE.R2(hP:Mb P)(h:UE P rb c L N n bs w0 w W m)(hN:N+n<=900000000000)(hs:∀x∈bs,x<w.heap.size) :
  Cz Y3 #[.pointer (some ⟨rb,0,none⟩)] w λe w'=>∃v,e=.returned (I v)/\Q9 bs w w'/\z5u v/\UE P rb c L N (n+2) bs w0 w' W m:=h.call hP hs (zn3 h.d.r.rd hN)
def UE.item(hP:Mb P)(h:UE P rb c L N n bs w0 w W m)(hN:N+n<=800000000000)(hs:∀x∈bs,x<w.heap.size){V:Q7}{p:MW} :
  Cz JC #[.pointer (some ⟨rb,0,none⟩),.agg (Qc V p).toArray] w λe w'=>∃(k a q r:Int) (s:ByteArray),e=.returned (.agg #[I k,I a,I q,I r,.string s])/\Q9 bs w w'/\UE P rb c L N (n+20) bs w0 w' W m:=
 (z4r h.d.r.rd hN).mono λe w' ⟨k,a,q,r,s,he,hr,hx⟩=>⟨k,a,q,r,s,he,zd9 h.d.r hx hs,h.drawn hP hr hx⟩
def UE.bsl(h:UE P rb c L N n bs w0 w W m)(hs:∀x∈bs,x<w.heap.size):∀x∈rb::bs,x<w.heap.size:=λx hm=>by
 rcases Ii.1 hm with h1|h1
 ·rw[h1];exact h.d.r.rd.lt
 ·exact hs x h1
def UE.Ss{P':Nat->Q7->Prop}{q:Nat}(h:UE P rb c L N n bs w0 w W m)(hq:n<=q)(hs:∀x∈bs,x<w.heap.size)(hi:Xo W')(hl:P' q W')(hM:Zp 8 w.heap.size w' W' m')(hx:Q0 [] w w'):UE P' rb c L N q bs w0 w' W' m':=
 ⟨hi,hl,Dr.more ⟨h.d.r.R7 hx,h.d.ext.trans hx.of_nil,h.d.new⟩ hq,(OW.of hM (h.bsl hs)).mono h.d.ext.size⟩
def UE.mak{p:Int}{name:ByteArray}(hP:Mb P)(h:UE P rb c L N n bs w0 w W m)(hs:∀x∈bs,x<w.heap.size) :
  Cz QJ #[.agg (Qc W m).toArray,I p,.string name] w λe w'=>∃(W':Q7) (m':MW) (a d:Int),e=.returned (.tuple #[.agg (Qc W' m').toArray,I a,I d])/\Q9 bs w w'/\UE P rb c L N n bs w0 w' W' m':=
 (zws (P:=P n) h.iv h.lw (L6 h.rd h.iv.len) λhb=>⟨zqg h.iv (zei hb).1,hP.mak h.iv h.lw (zei hb).1⟩).mono λe w' ⟨V,m',a,d,he,hi,hM,hx⟩=>⟨V,m',a,d,he,Qi hx hs,h.Ss (I7 _) hs hi.1 hi.2 hM hx⟩
def UE.fork{g q x:Int}(hP:Mb P)(h:UE P rb c L N n bs w0 w W m)(hs:∀x∈bs,x<w.heap.size) :
  Cz Xv #[.agg (Qc W m).toArray,I g,I q,I x] w λe w'=>∃(W':Q7) (m':MW) (a d:Int),e=.returned (.tuple #[.agg (Qc W' m').toArray,I a,I d])/\Q9 bs w w'/\UE P rb c L N n bs w0 w' W' m':=
 (zws (P:=P n) h.iv h.lw (Gk h.rd h.iv.len) λhb=>⟨znz h.iv.w hb,hP.fork h.iv h.lw hb⟩).mono λe w' ⟨V,m',a,d,he,hi,hM,hx⟩=>⟨V,m',a,d,he,Qi hx hs,h.Ss (I7 _) hs hi.1 hi.2 hM hx⟩
def UE.do{k a q r:Int}{s:ByteArray}(hP:Mb P)(hn:n<=10000)(h:UE P rb c L N n bs w0 w W m)(hs:∀x∈bs,x<w.heap.size) :
  Cz Vq #[.agg (Qc W m).toArray,.agg #[I k,I a,I q,I r,.string s]] w λe w'=>∃(W':Q7) (m':MW) (d:Int),e=.returned (.tuple #[.agg (Qc W' m').toArray,I d])/\Q9 bs w w'/\UE P rb c L N (n+10) bs w0 w' W' m':=
 (zuv h.rd h.iv).mono λe w' ⟨v,he,V,m',d,hv,hi,hM,hx⟩=>⟨V,m',d,by rw[he,hv],Qi hx hs,h.Ss (Nat.le_add_right _ _) hs hi.1 (hP.Ss hn h.iv h.lw hi.2) hM hx⟩
def UE.fin{q:Nat}(hP:Mb P)(h:UE P rb c L N n bs w0 w W m)(hq:n<=q):(Xo W/\P q W)/\Zp 8 w0.heap.size w W m/\OS rb c L (N+q) w/\Q0 [rb] w0 w/\∀x∈QM 8 m,x≠rb:=⟨⟨h.iv,hP.mono hq h.lw⟩,h.o.own,(h.d.fin hq).1,h.d.ext,λx hx e=>h.o.nb x hx (by rw[e];exact I9)⟩
end
def z4t{P:Nat->Q7->Prop}(hP:Mb P){rb:Nat}{c:OA}{L N:Nat}{w:Wo}{items:Int}(h:OS rb c L N w)(hN:N<=700000000000)(hi:items<=27) :
  Cz VS #[.pointer (some ⟨rb,0,none⟩),I items] w λe w'=>∃(W:Q7) (m:MW),e=.returned (.agg (Qc W m).toArray)/\(Xo W/\P 1000 W)/\Zp 8 w.heap.size w' W m/\OS rb c L (N+1000) w'/\Q0 [rb] w w'/\∀x∈QM 8 m,x≠rb:=by
 refine(FE (some ⟨rb,0,none⟩) items (R:=λv w'=>∃(W:Q7) (m:MW),v=.agg (Qc W m).toArray/\(Xo W/\P 1000 W)/\Zp 8 w.heap.size w' W m/\OS rb c L (N+1000) w'/\Q0 [rb] w w'/\∀x∈QM 8 m,x≠rb) ?_).mono λe w' ⟨v,he,W,m,hv,h3⟩=>⟨W,m,by rw[he,hv],h3⟩
 intro b hb b1 bY wr hx hs;refine(Dr.pick ((Dr.start h).AH4 hx hb bY) Qo hs).mono ?_;rintro e w1 ⟨v,he,hk,⟨p0,_,p2⟩,h1⟩;have p2:=p2 Qd;refine⟨_,he,hk,⟨Qo,Qo⟩,z73 (lo:=1) (hi:=4) Qd rfl Qo Qo λx x1 x4 wr hx hs=>?_⟩;obtain⟨q,rfl⟩:∃q:Nat,x=(q:Int):=⟨x.toNat,Qo⟩;have h2:=h1.step hx;refine(y9 (n:=q) Qo Qo).mono ?_;rintro e2 w2 ⟨m,bH,hM,Su⟩
 have cD:∀x∈rb::[b,b1],x<wr.heap.size:=λx hm=>by
  rcases Ii.1 hm with h1|h1
  ·rw[h1];exact h2.r.rd.lt
  ·exact hs x h1
 have hK:UE P rb c L N 1 [b,b1] w w2 (Jp q) m:=⟨zll Qo Qo,hP.new Qo Qo,⟨h2.r.R7 Su,h2.ext.trans Su.of_nil,h2.new⟩,(OW.of hM cD).mono h2.ext.size⟩;refine⟨_,_,_,_,_,_,_,_,_,_,_,bH,Qi Su hs,λb2 cD wr hx hs=>?_⟩;refine((hK.put hx cD).pick hP Qo hs).mono ?_;rintro e3 w3 ⟨v1,gD,hk3,⟨p10,_,p12⟩,hK1⟩;have p12:=p12 Qd;refine⟨_,gD,hk3,?_⟩;refine⟨λvs w2=>∃(k n:Nat) (W:Q7) (m:MW),vs=I (k:Int)::Qc W m/\(k:Int)<=v1/\n<=2+2*k/\UE P rb c L N n [b,b1,b2] w w2 W m,ZG v1.toNat 0,λwr hx _=>⟨0,2,Jp q,m,rfl,p10,Qo,hK1.step hx⟩,?_⟩;clear hK1 hk3 gD hs hx hM hK bH Su h1 h2 he hk;rintro i1 l S8 Si Sp Se Sk Sn Sf Sg Sh wv hs ⟨k,n,W,m,he,hk,hn,hK⟩;simp only[Qc,I4,I5,Iv,true_and,and_true] at he;obtain⟨rfl,rfl,⟨rfl,rfl,rfl⟩,⟨rfl,rfl,rfl⟩,rfl,rfl,rfl⟩:=he;refine⟨λIW=>?_,λRM wr hx hs=>?_⟩
 ·have IW:=Ot IW
  repeat' first
   |exact rfl
   |(refine And.intro ?_ ?_)
   |(refine z6d Qd rfl Qo Qo λx=>?_)
   |(refine z7s Qd rfl Qo Qo λx=>?_)
   |(intro (b:Nat) hb)
   |(intro (wr:Wo) hx hs;refine(UE.pick hP (UE.step (by assumption) hx) ?_ hs).mono ?_;rotate_left;rintro e w2 ⟨v,he,hk,⟨hp0,_,dD⟩,hC⟩;have dD:=dD Qd;refine⟨_,he,hk,?_⟩)
   |(intro (wr:Wo) hx hs;refine(UE.pick hP (UE.put (by assumption) hx (by assumption)) ?_ hs).mono ?_;rotate_left;rintro e w2 ⟨v,he,hk,⟨hp0,_,dD⟩,hC⟩;have dD:=dD Qd;refine⟨_,he,hk,?_⟩)
   |(intro (wr:Wo) hx hs;refine(UE.pick hP (UE.AH4 (by assumption) hx (by assumption) (by assumption)) ?_ hs).mono ?_;rotate_left;rintro e w2 ⟨v,he,hk,⟨hp0,_,dD⟩,hC⟩;have dD:=dD Qd;refine⟨_,he,hk,?_⟩)
   |(intro (wr:Wo) hx hs;refine(UE.mak hP (UE.step (by assumption) hx) hs).mono ?_;rintro e w2 ⟨W',m',a,d,he,hk,hC⟩;refine⟨_,_,_,_,_,_,_,_,_,_,_,_,he,hk,⟨Qo,Qo⟩,λwr hx _=>⟨⟨k+1,n+2,W',m',by simp[Qc],Qo,Qo,((hC.step hx).more hP Qo).sub Qs⟩,Zo (k:=k) rfl rfl Qo⟩⟩)
   |(intro (wr:Wo) hx hs;refine(UE.mak hP (UE.put (by assumption) hx (by assumption)) hs).mono ?_;rintro e w2 ⟨W',m',a,d,he,hk,hC⟩;refine⟨_,_,_,_,_,_,_,_,_,_,_,_,he,hk,⟨Qo,Qo⟩,λwr hx _=>⟨⟨k+1,n+2,W',m',by simp[Qc],Qo,Qo,((hC.step hx).more hP Qo).sub Qs⟩,Zo (k:=k) rfl rfl Qo⟩⟩)
   |(intro (wr:Wo) hx hs;refine(UE.mak hP (UE.AH4 (by assumption) hx (by assumption) (by assumption)) hs).mono ?_;rintro e w2 ⟨W',m',a,d,he,hk,hC⟩;refine⟨_,_,_,_,_,_,_,_,_,_,_,_,he,hk,⟨Qo,Qo⟩,λwr hx _=>⟨⟨k+1,n+2,W',m',by simp[Qc],Qo,Qo,((hC.step hx).more hP Qo).sub Qs⟩,Zo (k:=k) rfl rfl Qo⟩⟩)
   |omega
 refine((hK.step hx).pick hP Qo hs).mono ?_;rintro e4 w4 ⟨v3,he4,hk4,⟨p30,_,p32⟩,hC6⟩;have p32:=p32 Qd;refine⟨_,he4,hk4,⟨Qo,Qo⟩,?_⟩;refine⟨λvs w2=>∃(k n:Nat) (W:Q7) (m:MW),vs=I (k:Int)::Qc W m/\(k:Int)<=1+v3/\n<=20+3*k/\UE P rb c L N n [b,b1,b2] w w2 W m,ZG (1+v3).toNat 0,λSZ sV _=>⟨0,n+1,W,m,rfl,Qo,Qo,hC6.step sV⟩,?_⟩;clear hK hC6 hk4 he4 hs hx RM hk hn;clear W m n k;rintro i3 l4 nP jG nO nI pU nH kO oX nQ wv hs ⟨k,n,W,m,he,hk,hn,hK⟩;simp only[Qc,I4,I5,Iv,true_and,and_true] at he;obtain⟨rfl,rfl,⟨rfl,rfl,rfl⟩,⟨rfl,rfl,rfl⟩,rfl,rfl,rfl⟩:=he;refine⟨λIW wr hx hs=>?_,λRM=>?_⟩
 ·have IW:=Ot IW;refine((hK.step hx).pick hP Qo hs).mono ?_;rintro e5 w5 ⟨v5,he5,hk5,_,hC5⟩;refine⟨_,he5,hk5,rfl,λwr hx hs=>?_⟩;refine((hC5.step hx).R2 hP Qo hs).mono ?_;rintro e6 w6 ⟨v6,he6,hk6,_,hC6⟩;refine⟨_,he6,hk6,rfl,_,TJ,_,JE,z3k _,λwr hx hs=>?_⟩;refine((hC6.step hx).fork hP hs).mono ?_;rintro e7 w7 ⟨W7,m7,a,d,he7,hk7,hC7⟩;exact⟨_,_,_,_,_,_,_,_,_,_,_,_,he7,hk7,⟨Qo,Qo⟩,λwr hx _=>⟨⟨k+1,n+1+2,W7,m7,by simp[Qc],Qo,Qo,hC7.step hx⟩,Zo (k:=k) rfl rfl Qo⟩⟩
 ·have RM:=Ou RM;refine⟨λvs w2=>∃(k n:Nat) (W:Q7) (m:MW),vs=I (k:Int)::Qc W m/\k<=27/\n<=60+30*k/\UE P rb c L N n [b,b1,b2] w w2 W m,ZG 27 0,λSZ sV _=>⟨0,n,W,m,rfl,Qo,Qo,hK.step sV⟩,?_⟩;clear hK hs;rintro i5 l8 l9O l9L l9C A63 A62 A61 oU oT oR wv hs ⟨k,n,W,m,he,hk,hn,hK⟩;simp only[Qc,I4,I5,Iv,true_and,and_true] at he;obtain⟨rfl,rfl,⟨rfl,rfl,rfl⟩,⟨rfl,rfl,rfl⟩,rfl,rfl,rfl⟩:=he;refine⟨λIW wr hx hs=>?_,λRM wr hx=>⟨W,m,rfl,(hK.step hx).fin hP Qo⟩⟩;have IW:=Ot IW;refine((hK.step hx).item hP Qo hs (V:=W) (p:=m)).mono ?_;rintro e5 w5 ⟨k5,a5,q5,r5,s5,he5,hk5,hC5⟩;refine⟨_,_,_,_,_,he5,hk5,rfl,λwr hx hs=>?_⟩;refine((hC5.step hx).do hP Qo hs).mono ?_;rintro e6 w6 ⟨W6,m6,d,he6,hk6,hC6⟩;exact⟨_,_,_,_,_,_,_,_,_,_,_,he6,hk6,⟨Qo,Qo⟩,λwr hx _=>⟨⟨k+1,n+20+10,W6,m6,by simp[Qc],Qo,Qo,hC6.step hx⟩,Zo (k:=k) rfl rfl Qo⟩⟩
def z60:Tryz.prog.underlying ty_sl_uint8=some (.slice Pj):=Qk
def z6z:Tryz.prog.underlying Pj=some (.int .u8):=Qk
def z61:Tryz.prog.underlying ZZ=some .string:=Qk
def UE.CK6{P:Nat->Q7->Prop}(hP:Mb P){rb:Nat}{c:OA}{L N n k:Nat}{bs:List Nat}{w0 w w':Wo}{W:Q7}{m:MW}(d:Dr rb c L N n bs w0 w)(hs:∀x∈bs,x<w.heap.size)(iv:Xo W/\P k W)(hM:Zp 8 w.heap.size w' W m)(hr:OS rb c L (N+n+k) w')(hx:Q0 [rb] w w')(cU:∀x∈QM 8 m,x≠rb):UE P rb c L N (n+k) bs w0 w' W m:=
 ⟨iv.1,hP.mono Qo iv.2,⟨d.r.upd (by rw[<-Nat.add_assoc];exact hr),d.ext.trans hx,d.new⟩,⟨hM.mono d.ext.size,λx S9 hm=>by
  rcases Ii.1 hm with h1|h1
  ·exact cU x S9 h1
  ·have:=(hM.lt x S9).1;have:=hs x h1;omega⟩⟩
def z13{P:Nat->Q7->Prop}(hP:Mb P){rb:Nat}{c:OA}{L N:Nat}{w:Wo}(h:OS rb c L N w)(hN:N<=600000000000) :
  Cz Vc #[.pointer (some ⟨rb,0,none⟩)] w λe w'=>∃(W:Q7) (m:MW),e=.returned (.agg (Qc W m).toArray)/\(Xo W/\P 1100 W)/\Zp 8 w.heap.size w' W m/\OS rb c L (N+1100) w'/\Q0 [rb] w w'/\∀x∈QM 8 m,x≠rb:=by
 refine(Ek (some ⟨rb,0,none⟩) (R:=λv w'=>∃(W:Q7) (m:MW),v=.agg (Qc W m).toArray/\(Xo W/\P 1100 W)/\Zp 8 w.heap.size w' W m/\OS rb c L (N+1100) w'/\Q0 [rb] w w'/\∀x∈QM 8 m,x≠rb) ?_).mono λe w' ⟨v,he,W,m,hv,h3⟩=>⟨W,m,by rw[he,hv],h3⟩
 intro b hb wr hx hs;refine(Dr.pick ((Dr.start h).put hx hb) Qo hs).mono ?_;rintro e w1 ⟨v,he,hk,⟨p0,_,p2⟩,h1⟩;have p2:=p2 Qd;refine⟨_,he,hk,λwr hx hs=>?_⟩;have h2:=h1.step hx;refine(z4t hP h2.r.rd Qo (items:=v) Qo).mono ?_;rintro e2 w2 ⟨W,m,bH,iv,hM,hr,hxp,cU⟩;have hK:=UE.CK6 hP h2 hs iv hM hr hxp cU;refine⟨_,_,_,_,_,_,_,_,_,_,bH,zd9 h2.r hxp hs,λb1 bY wr hx hs=>?_⟩;refine((hK.put hx bY).pick hP Qo hs).mono ?_;rintro e3 w3 ⟨v3,gD,hk3,_,qR⟩;refine⟨_,gD,hk3,λ_=>?_,λ_ wr hx=>⟨W,m,rfl,(qR.step hx).fin hP Qo⟩⟩;refine⟨λvs w2=>∃(k:Nat) (W:Q7) (m:MW),vs=I (k:Int)::Qc W m/\k<=12/\UE P rb c L N (0+1+1000+1) [b,b1] w w2 W m,ZG 12 0,λwr hx _=>⟨0,W,m,rfl,Qo,qR.step hx⟩,?_⟩;clear qR hK hM iv cU hr hxp bH hk3 gD h2 h1 hs hx;rintro i1 l S8 Si Sp Se Sk Sn Sf Sg Sh wv hs ⟨k,W,m,he,hk,hK⟩;simp only[Qc,I4,I5,Iv,true_and,and_true] at he;obtain⟨rfl,rfl,⟨rfl,rfl,rfl⟩,⟨rfl,rfl,rfl⟩,rfl,rfl,rfl⟩:=he;refine⟨λIW wr hx hs=>?_,λRM=>?_⟩
 ·have IW:=Ot IW;refine((hK.step hx).fork hP hs).mono ?_;rintro e7 w7 ⟨W7,m7,a,d,he7,hk7,hC7⟩;exact⟨_,_,_,_,_,_,_,_,_,_,_,_,he7,hk7,⟨Qo,Qo⟩,λwr hx _=>⟨⟨k+1,W7,m7,by simp[Qc],Qo,hC7.step hx⟩,Zo (k:=k) rfl rfl Qo⟩⟩
 refine⟨λvs w2=>∃(k:Nat) (W:Q7) (m:MW),vs=I (k:Int)::Qc W m/\k<=8/\UE P rb c L N (0+1+1000+1) [b,b1] w w2 W m,ZG 8 0,λwr hx _=>⟨0,W,m,rfl,Qo,hK.step hx⟩,?_⟩;clear hK hs;rintro i3 l4 nP jG nO nI pU nH kO oX nQ wv hs ⟨k,W,m,he,hk,hK⟩;simp only[Qc,I4,I5,Iv,true_and,and_true] at he;obtain⟨rfl,rfl,⟨rfl,rfl,rfl⟩,⟨rfl,rfl,rfl⟩,rfl,rfl,rfl⟩:=he;refine⟨λIW=>⟨⟨Qo,Qo⟩,⟨by have:=Ot IW;show (0:Int)<=_;omega,by have:=Ot IW;show _<=(255:Int);omega⟩,λb3 wb hxb sI hh hn wr hx hs=>?_⟩,λ_ wr hx=>⟨W,m,rfl,(hK.step hx).fin hP Qo⟩⟩;have IW:=Ot IW;have hK1:=(hK.step hxb).step hx
 have hh2:wr.heap[b3]? = some (Obj.cells ([.int .u8 (48+(k:Int))]:List Va).toArray Pj (0,0)):=by
  rw[hx.block b3 (V3 hh) hn];exact hh
 have hc:=run_convert_bytes_arg wr ty_sl_uint8 Pj z60 z6z b3 0 1 1 [48+(k:Int)] rfl (λi hi=>by
  have:i=0:=Qo;subst this;rw[Ti hh2];rfl) ZZ z61
 refine⟨_,wr,hc,λ_ _=>rfl,?_,λR6 Rk V'=>?_⟩
 ·have e1:(strOfNums [48+(k:Int)]).size=1:=rfl;rw[e1];decide
 refine((hK1.step Rk).mak hP V').mono ?_;rintro e7 w7 ⟨W7,m7,a,d,he7,hk7,hC7⟩;exact⟨_,_,_,_,_,_,_,_,_,_,_,_,he7,hk7,⟨Qo,Qo⟩,λwr hx _=>⟨⟨k+1,W7,m7,by simp[Qc],Qo,hC7.step hx⟩,Zo (k:=k) rfl rfl Qo⟩⟩
section
variable {rb b b2:Nat}{c:OA}{L C N:Nat}{bs:List Nat}{w0 w w':Wo}{W W':Q7}{m m':MW}
def z10(h:DB c L w0)(hC:L<=C)(hx:Q0 [] w0 w)(hn:∀x∈bs,w0.heap.size<=x)(hs:∀x∈bs,x<w.heap.size) :
  Cz Vr #[.slice c L C] w λe wv=>∃rb c' L',e=.returned (.pointer (some ⟨rb,0,none⟩))/\Q9 bs w wv/\RS rb c' L' 0 bs wv/\Sc w0 (rb::bs) wv:=by
 refine(zqk (h.ext hx) hC).mono ?_;rintro e wv ⟨rb,c',L',he,hrb,hR,S9,Cv8⟩
 refine⟨rb,c',L',he,Qi S9 hs,⟨hR,λhm=>by
  have:=hs rb hm;omega,λa' ha'=>?_⟩,⟨hx.trans S9,λx hm=>?_⟩⟩
 ·rcases Cv8 a' ha' with h0|⟨h0,a,ha,hab⟩
  ·exact .inr h0
  ·refine .inl λhm=>?_
   obtain⟨a0,x0,ha0,_,_,h30⟩:=h 0 h0;have Rh:=World.block_lt_of_cell? w0 _ h30;rw[ZW] at Rh;rw[ha] at ha0;cases ha0;have:=hn _ hm;omega
 ·rcases Ii.1 hm with h1|h1
  ·have:=hx.size;omega
  ·exact hn x h1
end
section
variable {c:OA}{L C:Nat}{w:Wo}
def Nz{P:Nat->Q7->Prop}(hP:Mb P)(h:DB c L w)(hC:L<=C) :
  Cz Tu #[.slice c L C] w λe w'=>∃(W:Q7) (m:MW),e=.returned (.agg (Qc W m).toArray)/\(Xo W/\P 1100 W)/\Zp 8 w.heap.size w' W m/\Q0 [] w w':=by
 refine(Nc c L C (R:=λv w'=>∃(W:Q7) (m:MW),v=.agg (Qc W m).toArray/\(Xo W/\P 1100 W)/\Zp 8 w.heap.size w' W m/\Q0 [] w w') ?_).mono λe w' ⟨v,he,W,m,hv,h1⟩=>⟨W,m,by rw[he,hv],h1⟩
 intro b hb wr hx hs;refine(z10 (bs:=[b]) h hC hx (by simpa using hb) hs).mono ?_;rintro e wv ⟨rb,c',L',he,hk,hR,hS⟩;refine⟨_,he,hk,λR5 S9 dE=>?_⟩;have hR1:=hR.step S9;have hS1:=hS.CC0 S9;refine(z13 hP hR1.rd Qd).mono ?_;rintro e1 Rb ⟨W,m,kB,iv,hM,hr,hxp,cU⟩;exact⟨_,_,_,_,_,_,_,_,_,_,kB,zd9 hR1 hxp dE,λR6 Rk=>⟨W,m,rfl,iv,((OW.of hM dE).step Rk).own.mono hS1.ext.size,((hS1.Cf1 hxp).CC0 Rk).ext⟩⟩
end
section
variable {bs:List Nat}{w:Wo}{p q:MG}
def zhi{B:Um}(h1:zm3 bs w p.lO B.locals)(h2:zwi bs w p.dO B.Ry)(h3:zm3 bs w q.lO B.locals)(h4:zwi bs w q.dO B.Ry)(hl:B.Ry.length=B.locals.length)(h8:B.locals.length<=1000) :
  PX bs Mo #[.agg (ZI B p).toArray,.agg (ZI B q).toArray] w (.bool true):=
 zh0 B.I' B.RH B.So p.lO B.locals.length p.lC p.dO B.Ry.length p.dC B.I' B.RH B.So q.lO B.locals.length q.lC q.dO B.Ry.length q.dC λwr hx=>by
  have g1:=(h1.ext hx).less (cs:=[]) Qs;have g2:=(h2.ext hx).less (cs:=[]) Qs;have g3:=(h3.ext hx).less (cs:=[]) Qs;have g4:=(h4.ext hx).less (cs:=[]) Qs;intro b hb b5 hb5;refine⟨λg=>by simp at g,λ_=>X7 B.locals.length 0 rfl (λk=>k<=B.locals.length) (Ic _) λk hk=>⟨λIW=>?_,λRM=>rfl⟩⟩;have IW:=Ot IW;refine⟨g1.ix XU Qo IW,_,g1 (k:Int) Qo IW,g3.ix XU Qo IW,_,g3 (k:Int) Qo IW,λ_=>g2.ix LF Qo Qo,_,λ_=>g2 (k:Int) Qo Qo,λ_=>g4.ix LF Qo Qo,_,λ_=>g4 (k:Int) Qo Qo,λg=>by simp at g,λ_=>⟨⟨Qo,Qo⟩,QB Qo Qo⟩⟩
end
def zxw:zbl Tryz.prog Zi:=⟨Qk,Qk,Qk⟩
def z4h(a b:PP):DG Tryz.prog (Tryz.prog.fieldsOf Zi).toList 0 (Gv a) (Gv b)=some ((a.up==b.up)&&((a.cur==b.cur)&&((a.SX==b.SX)&&((a.busy==b.busy)&&((a.idle==b.idle)&&true))))):=Qk
def zqa:zbl Tryz.prog ZO:=⟨Qk,Qk,Qk⟩
def zxu(a b:KM):DG Tryz.prog (Tryz.prog.fieldsOf ZO).toList 0 (T9 a) (T9 b)=some ((a.IM==b.IM)&&((a.on==b.on)&&((a.v==b.v)&&((a.w==b.w)&&((a.sum==b.sum)&&true))))):=Qk
section
variable {bs:List Nat}{w:Wo}{p q:MG}{W:Q7}{m n:MW}
def zd2{G:ZD}(h1:zm3 bs w p.lO G.IL.locals)(h2:zwi bs w p.dO G.IL.Ry)(h5:zm2 bs w p.sO G.IH)(h3:zm3 bs w q.lO G.IL.locals)(h4:zwi bs w q.dO G.IL.Ry)(h6:zm2 bs w q.sO G.IH)(hl:G.IL.Ry.length=G.IL.locals.length)(h8:G.IL.locals.length<=1000)(h9:G.IH.length<=1000) :
  PX bs Pr #[.agg (YA G p).toArray,.agg (YA G q).toArray] w (.bool true):=
 zex G.IV G.IG G.name G.R2 G.IF G.period G.next G.sum G.IL.I' G.IL.RH G.IL.So p.lO G.IL.locals.length p.lC p.dO G.IL.Ry.length p.dC p.sO G.IH.length p.sC G.IV G.IG G.name G.R2 G.IF G.period G.next G.sum G.IL.I' G.IL.RH G.IL.So q.lO G.IL.locals.length q.lC q.dO G.IL.Ry.length q.dC q.sO G.IH.length q.sC λwr hx=>by
  have g1:=(h1.ext hx).less (cs:=[]) Qs;have g2:=(h2.ext hx).less (cs:=[]) Qs;have g3:=(h3.ext hx).less (cs:=[]) Qs;have g4:=(h4.ext hx).less (cs:=[]) Qs;have g5:=(h5.ext hx).less (cs:=[]) Qs;have g6:=(h6.ext hx).less (cs:=[]) Qs;have e:ZC G.name G.name:=JX.2 rfl;intro b hb b5 hb5;refine⟨true,λ_=>zhi g1 g2 g3 g4 hl h8,λg=>?_,λ_=>X7 G.IH.length 0 rfl (λk=>k<=G.IH.length) (Ic _) λk hk=>⟨λIW=>?_,λRM=>rfl⟩⟩
  ·rw[e] at g;simp at g
  ·have IW:=Ot IW;refine⟨g5.ix YT Qo IW,_,_,_,_,_,g5 (k:Int) Qo IW,g6.ix YT Qo IW,_,_,_,_,_,g6 (k:Int) Qo IW,_,λwq=>EI zqa (zxu _ _) _ _ wq,λg=>?_,λ_=>⟨⟨Qo,Qo⟩,QB Qo Qo⟩⟩;simp at g
structure z7n (W:Q7):Prop where
 c:W.IF.length<=1000
 t:W.IJ.length<=1000
 g:W.IE.length<=1000
 e:∀i:Int,0<=i->i<(W.IE.length:Int)->(gi W.IE i).IL.Ry.length=(gi W.IE i).IL.locals.length/\(gi W.IE i).IL.locals.length<=1000/\(gi W.IE i).IH.length<=1000
def zxq(ha:WA W):z7n W:=⟨by have:=ha.c2;omega,by have:=ha.t;omega,by have:=ha.gl;omega,λi a b=>by
 have h:=KR ha a (by have:=ha.gl;omega);exact⟨h.1,Qo,Qo⟩⟩
def DM(h:XV bs w W m)(k:XV bs w W n)(hE:z7n W):PX bs Tr #[.agg (Qc W m).toArray,.agg (Qc W n).toArray] w (.bool true):=
 zh2 _ _ _ _ _ _ _ _ _ _ W.now n.cO W.IF.length n.cC n.tO W.IJ.length n.tC n.gO W.IE.length n.gC λwr hx=>by
  have h:=(h.ext hx).less (cs:=[]) Qs;have k:=(k.ext hx).less (cs:=[]) Qs;have c1:=hE.c;have c2:=hE.t;have c3:=hE.g;intro b hb b5 hb5;refine⟨λg=>by simp at g,λ_=>X7 W.IF.length 0 rfl (λk=>k<=W.IF.length) (Ic _) λj hj=>⟨λIW=>?_,λRM=>X7 W.IJ.length 0 rfl (λk=>k<=W.IJ.length) (Ic _) λj2 hj2=>⟨λIW=>?_,λaX=>X7 W.IE.length 0 rfl (λk=>k<=W.IE.length) (Ic _) λj3 hj3=>⟨λIW=>?_,λBc9=>rfl⟩⟩⟩⟩
  ·have IW:=Ot IW;refine⟨h.c.ix Y1 Qo IW,_,_,_,_,_,h.c (j:Int) Qo IW,k.c.ix Y1 Qo IW,_,_,_,_,_,k.c (j:Int) Qo IW,_,λwq=>EI zxw (z4h _ _) _ _ wq,λg=>?_,λ_=>⟨⟨Qo,Qo⟩,QB Qo Qo⟩⟩;simp at g
  ·have IW:=Ot IW;refine⟨h.t.ix QT Qo IW,_,_,_,_,_,_,_,_,_,h.t (j2:Int) Qo IW,k.t.ix QT Qo IW,_,_,_,_,_,_,_,_,_,k.t (j2:Int) Qo IW,_,λwq=>EI Nl (zlb _ _) _ _ wq,λg=>?_,λ_=>⟨⟨Qo,Qo⟩,QB Qo Qo⟩⟩;simp at g
  ·have IW:=Ot IW;have j0:(0:Int)<=(j3:Int):=Qo;have he:=hE.e (j3:Int) j0 IW;refine⟨h.g.ix j0 IW,_,_,_,_,_,_,_,_,_,_,_,_,_,_,_,_,_,_,_,_,h.g.cells (j3:Int) j0 IW,k.g.ix j0 IW,_,_,_,_,_,_,_,_,_,_,_,_,_,_,_,_,_,_,_,_,k.g.cells (j3:Int) j0 IW,true,zd2 (h.g.locals _ j0 IW) (h.g.Ry _ j0 IW) (h.g.IH _ j0 IW) (k.g.locals _ j0 IW) (k.g.Ry _ j0 IW) (k.g.IH _ j0 IW) he.1 he.2.1 he.2.2,λg=>by simp at g,λ_=>⟨⟨Qo,Qo⟩,QB Qo Qo⟩⟩
end
section
open Go.RowKit Go.ChangeShapes
def z21:Tryz.prog.underlying Pj=some (.int .u8):=Qk
def u_sl_uint8:Tryz.prog.underlying ty_sl_uint8=some (.slice Pj):=Qk
def z0x:Tryz.prog.cellsOf Pj=1:=Qk
def op_bytes{H:Type}{en:TypeId×Va->H}{w:Wo}{base:Nat}{spare:Nat->Bool}{held:Bool}{fuel:Nat}{cs:List Va}{x:DataW H×List MemPlace}(h:DataW.trod en Tryz.prog w base spare held fuel ty_sl_uint8 cs=some x) :
  ∃(o:OA) (cap L:Nat),cs=[.slice o L cap]/\DB o L w/\L<=cap:=by
 obtain⟨o,len,cap,rfl,h1,_,h3⟩:=zz7 u_sl_uint8 h;refine⟨o,cap,len,rfl,λi hi=>?_,h1⟩;obtain⟨a,n,y,ec,ho,hc,ht⟩:=h3 i hi;rw[z0x,Nat.mul_one] at hc;obtain⟨v,rfl,_,hw⟩:=DataW.trod_int z21 ht;have hv:0<=v/\v<=255:=by simpa[Lit.wf,IntKind.min,IntKind.max,IntKind.signed,IntKind.bits] using hw
 obtain⟨_,_,WO⟩:=World.cells?_some hc;have:=WO 0 Qd;rw[JJ,Nat.add_zero] at this;exact⟨a,v,ho,hv.1,hv.2,this⟩
end
def XV.sc{bs:List Nat}{w0 w1:Wo}{W:Q7}{m:MW}(h:XV [] w0 W m)(s:Sc w0 bs w1):XV bs w1 W m:=(h.wide (cs:=bs) λx hm=>.inr (s.new x hm)).ext s.ext.of_nil
def XV.sc0{bs:List Nat}{w0 w1:Wo}{W:Q7}{m:MW}(h:XV [] w0 W m)(s:Sc w0 bs w1):XV [] w1 W m:=(h.sc s).less Qs
def zz5{x n:Int}(h0:0<=x)(h1:0<n):0<=Int.tmod x n/\Int.tmod x n<n:=⟨Int.tmod_nonneg _ h0,Int.tmod_lt_of_pos _ h1⟩
def z0l(bs:List Nat)(w:Wo)(c:OA)(L:Nat)(f:Nat->Int):Prop:=∀i:Nat,i<L->0<=f i/\f i<=255/\JH bs w c i (.int .u8 (f i))
def bD(L:Nat)(f:Nat->Int)(i:Int):Int:=if i<(L:Int) then f i.toNat else Int.tmod (i*37) 251
section
variable {bs cs:List Nat}{w w':Wo}{c:OA}{L C:Nat}{f:Nat->Int}{i:Int}
def z36(h:DB c L w):∃f:Nat->Int,z0l [] w c L f:=by
 have h1:∀i:Nat,∃x:Int,i<L->0<=x/\x<=255/\JH [] w c i (.int .u8 x):=λi=>by
  by_cases hi:i<L
  ·obtain⟨a,x,ha,h1,h2,h3⟩:=h i hi;exact⟨x,λ_=>⟨h1,h2,a,ha,Qs,h3⟩⟩
  ·exact⟨0,λh=>Ir h hi⟩
 exact⟨λi=>(h1 i).choose,λi hi=>(h1 i).choose_spec hi⟩
def z0l.ext(h:z0l bs w c L f)(hx:Q0 bs w w'):z0l bs w' c L f:=λi hi=>⟨(h i hi).1,(h i hi).2.1,(h i hi).2.2.ext hx⟩
def z0l.less(h:z0l bs w c L f)(hs:∀x∈cs,x∈bs):z0l cs w c L f:=λi hi=>by
 obtain⟨h1,h2,a,ha,hb,h3⟩:=h i hi;exact⟨h1,h2,a,ha,λhm=>hb (hs _ hm),h3⟩
def zw0(h:z0l bs w c L f)(i0:0<=i):0<=bD L f i/\bD L f i<=255:=by
 unfold bD;split
 ·exact⟨(h i.toNat Qo).1,(h i.toNat Qo).2.1⟩
 ·exact⟨Int.tmod_nonneg _ Qo,by have:=Int.tmod_lt_of_pos (i*37) (show (0:Int)<251 by decide);omega⟩
def KC(h:z0l bs w c L f)(i0:0<=i)(i1:i<=1000):PX bs Uu #[.slice c L C,I i] w (I (bD L f i)):=
 zh1 c L C i λwr hx=>by
  have h:=(h.ext hx).less (cs:=[]) Qs;refine⟨λIW=>?_,λRM=>⟨⟨Qo,Qo⟩,Qd,?_⟩⟩
  ·have IW:=Ot IW;obtain⟨h1,h2,h3⟩:=h i.toNat Qo;refine⟨⟨i0,IW,?_⟩,f i.toNat,Uo (by rw[Nat.mul_one];exact h3),⟨Qo,Qo⟩,?_⟩
   ·obtain⟨a,ha,_⟩:=h3;rw[ha];rfl
   ·show _=_;unfold bD;rw[C' IW]
  ·have RM:=Ou RM;show _=_;unfold bD;rw[B' RM]
end
def zqn{α:Type}[Inhabited α](l:List α){i:Int}(i0:0<=i):l.set i.toNat (gi l i)=l:=by
 by_cases h:i.toNat<l.length
 ·obtain⟨k,rfl⟩:=Int.eq_ofNat_of_zero_le i0;have h:k<l.length:=h;rw[Ju h];simp
 ·exact List.set_eq_of_length_le Qo
def ztj(W:Q7){k c:Int}(k0:0<=k)(c0:0<=c):RC W k c (Qa W k c)=W:=by
 show { W with IE:=W.IE.set k.toNat { gi W.IE k with IH:=(gi W.IE k).IH.set c.toNat (gi (gi W.IE k).IH c) } }=W;rw[zqn _ c0];show { W with IE:=W.IE.set k.toNat (gi W.IE k) }=W;rw[zqn _ k0]
def zcf{l:List Int}{f g:Int->Bool}:(∀x∈l,f x=g x)->l.all f=l.all g:=by
 induction l with
 |nil=>intro _;rfl
 |cons a l ih=>
  intro h;rw[List.all_cons,List.all_cons,h a I9,ih λx hx=>h x (I1 _ hx)]
structure Sd (W:Q7) (c:Int):Prop where
 on:∀k:Int,Q6 W.IE k->k≠0->aK W c k
 fl:∀k:Int,Q6 W.IE k->Za W k c 20->QZ W k c 20<=(Qa W k c).IM
 cu:0<=(gi W.IF c).cur->(Q8 W (gi W.IF c).cur).R1=c/\Zf W (gi W.IF c).cur=true
def zzp{W:Q7}(iv:Xo W){c:Int}(c0:0<=c)(c1:c<(W.IF.length:Int)):Sd W c:=
 ⟨(zxj iv.wp c0 c1).on,λk hu hb=>iv.fl k c hu c0 c1 hb,(zxj iv.wp c0 c1).cu⟩
section
variable {W:Q7}{c:Int}
def AF(ha:WA W)(h:Sd W c)(c0:0<=c){d:Int}(d1:1<=d):∀k:Nat,k<=8->Z9 W c d k=W
 |0,_=>rfl
 |k+1,hk=>by
  have ih:=AF ha h c0 d1 k Qo;simp only[Z9];rw[ih];split
  ·rename_i hq;have hl:=ha.gl;have hu:Q6 W.IE (k:Int):=Q2.2 ⟨Qo,Qo,hq.1⟩
   have hz:(k:Int)≠0:=λe=>by
    have:=hq.2;rw[e,ZR] at this;omega
   have ho:=h.on _ hu hz;unfold aK at ho
   have:ZH W (k:Int) c=Qa W (k:Int) c:=by
    unfold ZH;rw[<-ho,B' (λq=>by rw[q.1] at q;exact Ir q.2 Qd)]
   rw[this,ztj W Qo c0]
  ·rfl
def Hw(ha:WA W)(h:Sd W c)(c0:0<=c):QF W c=W:=by
 have key:∀j:Nat,j<=3->Yh W c j=W:=λj=>by
  induction j with
  |zero=>intro _;rfl
  |succ j ih=>
   intro hj;simp only[Yh];rw[ih Qo];exact AF ha h c0 Qo 8 (I7 _)
 exact key 3 (I7 _)
def AD(ha:WA W)(h:Sd W c):∀k:Nat,k<=8->QI W c k=W
 |0,_=>rfl
 |k+1,hk=>by
  have ih:=AD ha h k Qo;simp only[QI];rw[ih];split
  ·rename_i hq;have hl:=ha.gl;have hu:Q6 W.IE (k:Int):=Q2.2 ⟨Qo,Qo,hq.1⟩;have:=h.fl _ hu hq.2.1;have:=hq.2.2;omega
  ·rfl
def EM(ha:WA W)(h:Sd W c)(c0:0<=c):Xs W c=W:=by
 unfold Xs
 have e:Z4 (QF W c) c=W:=by
  rw[Hw ha h c0];exact AD ha h 8 (I7 _)
 rw[e,B'];intro hg;unfold P9 at hg;simp only[A',Ij,Iu,It,ID] at hg;obtain⟨h0,h1⟩:=hg;obtain⟨a,b⟩:=h.cu h0;rcases h1 with h1|h1
 ·exact h1 a
 ·rw[b] at h1;cases h1
end
section
variable {W V:Q7}{c d:Int}
def z0q(o:HG c W V)(hl:W.IE.length=8)(hd:d≠c)(d0:0<=d)(k:Int):Qv V k d=Qv W k d:=by
 have e:Xb V k d=Xb W k d:=funext λj=>by
  unfold Xb;rw[o.g.u,o.g.p,o.e (j:Int) d Qo d0 hd]
 have e2:Ug V k d=Ug W k d:=funext λj=>by
  unfold Ug;rw[o.t]
 unfold Qv;rw[o.t,o.g.len,e,e2]
def z2f(o:HG c W V)(hd:d≠c)(d0:0<=d)(k:Int):Z3 V k d=Z3 W k d/\Z1 V d=Z1 W d:=by
 constructor
 ·funext i
  unfold Z3;split
  ·unfold Ug;rw[o.t]
  ·unfold Xb;rw[o.g.u,o.g.p,o.e _ d Qo d0 hd]
 ·funext i
  unfold Z1;split
  ·exact congrArg PS.v (YE o.t _)
  ·rw[o.e _ d Qo d0 hd]
def zyr(o:HG c W V)(ha:WA W)(hd:d≠c)(d0:0<=d){t:Int}(hc:(Q8 W t).R1=d)(hu:(Q8 W t).state=1->Q6 W.IE (Q8 W t).II):Zf V t=Zf W t:=by
 unfold Zf;rw[YE o.t]
 cases hs:((Q8 W t).state==1) with
 |false=>rfl
 |true=>
  rw[Bool.true_and,Bool.true_and,hc];unfold JR;rw[show QR V.IE (Q8 W t).II=QR W.IE (Q8 W t).II from o.g.path 3 _];have hus:=hu (Iz hs)
  have:∀x∈QR W.IE (Q8 W t).II,(Qa V x d).on=(Qa W x d).on:=λx hx=>by
   have:=(Q2.1 (Yv ha.tree _ hus x hx).1).1;rw[o.e x d this d0 hd]
  exact zcf this
def zzq(o:HG c W V)(ha:WA W)(li:∀t:Int,(Q8 W t).state=1->Q6 W.IE (Q8 W t).II)(h:Sd W d)(hd:d≠c)(d0:0<=d):Sd V d:=by
 have hm:=z2f o hd d0;refine⟨λk hu hz=>?_,λk hu hb=>?_,λh0=>?_⟩
 ·rw[o.g.aO] at hu;have:=h.on k hu hz;have k0:=(Q2.1 hu).1;unfold aK at this ⊢;rw[o.e k d k0 d0 hd,z0q o ha.gl hd d0,this];unfold Xu;rw[o.b k k0]
 ·rw[o.g.aO] at hu;have k0:=(Q2.1 hu).1;have eb:Za V k d 20=Za W k d 20:=by unfold Za;rw[(hm k).1,(hm k).2]
  have ev:QZ V k d 20=QZ W k d 20:=by unfold QZ;rw[(hm k).1,(hm k).2]
  rw[eb] at hb;rw[ev,o.e k d k0 d0 hd];exact h.fl k hu hb
 ·rw[o.cp d d0 hd] at h0 ⊢;obtain⟨a,b⟩:=h.cu h0;rw[YE o.t];exact⟨a,by rw[zyr o ha hd d0 a (li _)];exact b⟩
end
def zqp{V:Q7}(hV:WA V)(hu:∀t:Int,0<=t->t<12->(Q8 V t).state≠0->Q6 V.IE (Q8 V t).II):∀t:Int,(Q8 V t).state=1->Q6 V.IE (Q8 V t).II:=λt hs=>by
 have hl:=hV.t;have e:Q8 V t=Q8 V ((t.toNat:Nat):Int):=Nq _ _;rw[e] at hs ⊢
 by_cases ht:t.toNat<12
 ·exact hu _ Qo Qo (by rw[hs];decide)
 ·exfalso
  have:Q8 V ((t.toNat:Nat):Int)=default:=by
   unfold Q8 gi;rw[Ig,List.getD_eq_getElem?_getD,Iw Qo];rfl
  rw[this] at hs;exact Ir hs Qd
def zu1{W V:Q7}{c:Nat}(ha:WA W)(aV:WA V)(oV:HG (c:Int) W V)(hV:QF W (c:Int)=V)(li:∀t:Int,(Q8 W t).state=1->Q6 W.IE (Q8 W t).II){n:Nat}(h:∀d:Nat,d<n->d≠c->Sd W (d:Int)):∀k:Nat,k<=n->Z2 W k=if c<k then V else W
 |0,_=>rfl
 |k+1,hk=>by
  simp only[Z2];rw[zu1 ha aV oV hV li h k Qo]
  by_cases e:k=c
  ·subst e;rw[B' Qo,C' Qo,hV]
  ·by_cases IW:c<k
   ·rw[C' IW,C' Qo];exact Hw aV (zzq oV ha li (h k Qo e) Qo Qo) Qo
   ·rw[B' IW,B' Qo];exact Hw ha (h k Qo e) Qo
def zj1{W V:Q7}{c:Nat}(ha:WA W)(aV:WA V)(oV:HG (c:Int) W V)(hV:Xs W (c:Int)=V)(li:∀t:Int,(Q8 W t).state=1->Q6 W.IE (Q8 W t).II){n:Nat}(h:∀d:Nat,d<n->d≠c->Sd W (d:Int)):∀k:Nat,k<=n->YB W k=if c<k then V else W
 |0,_=>rfl
 |k+1,hk=>by
  simp only[YB];rw[zj1 ha aV oV hV li h k Qo]
  by_cases e:k=c
  ·subst e;rw[B' Qo,C' Qo,hV]
  ·by_cases IW:c<k
   ·rw[C' IW,C' Qo];exact EM aV (zzq oV ha li (h k Qo e) Qo Qo) Qo
   ·rw[B' IW,B' Qo];exact EM ha (h k Qo e) Qo
def zuz(l k:Int):Yg l k<=l\/Yg l k=0:=by
 have:=ZN k;unfold Yg
 by_cases h1:ZT k<l
 ·simp only[h1,if_true];split
  ·exact .inl Qo
  ·exact .inr rfl
 ·simp only[h1,if_false];split
  ·exact .inl Qo
  ·exact .inr rfl
section
variable {K:Int}{W:Q7}
def zyq(h:SF K K W){k c d:Int}(hu:Q6 W.IE k)(hd:dep 3 W.IE k=d)(d1:1<=d)(c0:0<=c)(c1:c<(W.IF.length:Int)):SF K K (RC W k c (ZH W k c)):=by
 have hz:k≠0:=λe=>by subst e;rw[ZR] at hd;omega
 have hp:=h.w.a.up hu hz;have s1:=h.w.s k c hu c0 c1;have s2:=h.w.s _ c hp c0 c1;have lc:=ZF ((Qa W k c).v-(Qa W (gi W.IE k).IG c).IM) (Qa W k c).w;have lu:=zuz ((Qa W k c).v-(Qa W (gi W.IE k).IG c).IM) (Qa W k c).w;refine h.RC hu c0 c1 s1.1 s1.2.1 s1.2.1 ?_ ?_ s1.2.2.2.2.1 s1.2.2.2.2.2
 ·simp only[ZH];split <;> omega
 ·simp only[ZH];split
  ·rcases lu with e|e <;> omega
  ·omega
def zn8(h:SF K K W){c d:Int}(d1:1<=d)(c0:0<=c)(c1:c<(W.IF.length:Int)):∀k:Nat,k<=8->SF K K (Z9 W c d k)/\Xz W (Z9 W c d k)
 |0,_=>⟨h,Xz.refl _⟩
 |k+1,hk8=>by
  obtain⟨ih,io⟩:=zn8 h (d:=d) d1 c0 c1 k Qo;have hl:=ih.w.a.gl;simp only[Z9];split
  ·rename_i hc;have hu:Q6 (Z9 W c d k).IE (k:Int):=Q2.2 ⟨Qo,Qo,hc.1⟩;exact⟨zyq ih hu hc.2 d1 c0 (by rw[io.c];exact c1),io.trans (US Qo Qo)⟩
  ·exact⟨ih,io⟩
def NJ(h:SF K K W){c:Int}(c0:0<=c)(c1:c<(W.IF.length:Int)):∀j:Nat,j<=3->SF K K (Yh W c j)/\Xz W (Yh W c j)
 |0,_=>⟨h,Xz.refl _⟩
 |j+1,hj=>by
  obtain⟨a1,b1⟩:=NJ h c0 c1 j Qo;obtain⟨a2,b2⟩:=zn8 a1 (c:=c) (d:=3-(j:Int)) Qo c0 (by rw[b1.c];exact c1) 8 Qo;exact⟨a2,b1.trans b2⟩
def zi9(h:SF K K W):∀c:Nat,c<=W.IF.length->SF K K (Z2 W c)/\Xz W (Z2 W c)
 |0,_=>⟨h,Xz.refl _⟩
 |c+1,hc=>by
  obtain⟨a,b⟩:=zi9 h c Qo;obtain⟨a2,b2⟩:=NJ a (c:=(c:Int)) Qo (by rw[b.c];omega) 3 (I7 _);exact⟨a2,b.trans b2⟩
def zzv(h:SW K W)(hK:0<=K){c:Int}(c0:0<=c)(c1:c<(W.IF.length:Int)):SW K (Xs W c)/\Fr W (Xs W c):=by
 obtain⟨a1,b1⟩:=NJ h.sf c0 c1 3 (I7 _);obtain⟨a2,b2⟩:=On a1.w hK c0 (c:=c) (by rw[b1.c];exact c1) 8 Qo;have hf:=b1.fr.trans b2.fr;unfold Xs;split
 ·exact⟨SW.Rc a2 c0 (by show c<((QI (Yh W c 3) c 8).IF.length:Int);rw[hf.c];exact c1),hf.trans (Nn _ _)⟩
 ·exact⟨a2,hf⟩
def zo6(h:SW K W)(hK:0<=K):∀c:Nat,c<=W.IF.length->SW K (YB W c)/\Fr W (YB W c)
 |0,_=>⟨h,Fr.refl _⟩
 |c+1,hc=>by
  obtain⟨a,b⟩:=zo6 h hK c Qo;obtain⟨a2,b2⟩:=zzv a hK (c:=(c:Int)) Qo (by rw[b.c];omega);exact⟨a2,b.trans b2⟩
def zvq(h:SW K W)(hK:0<=K):SW K (Qb W)/\Fr W (Qb W):=by
 obtain⟨a1,b1⟩:=zi9 h.sf W.IF.length (I7 _);obtain⟨a2,b2⟩:=JP a1 8 Qo;have hf:=b1.fr.trans b2.fr;obtain⟨a3,b3⟩:=zo6 a2.w hK W.IF.length (by show W.IF.length<=(Zv (Z2 W W.IF.length) 8).IF.length;rw[hf.c];exact I7 _);exact⟨a3,hf.trans b3⟩
end
def KZ{α:Type}[Inhabited α](l:List α){c d:Int}(x:α)(c0:0<=c)(d0:0<=d)(h:d≠c):gi (l.set c.toNat x) d=gi l d:=by
 unfold gi;rw[List.getD_eq_getElem?_getD,List.getD_eq_getElem?_getD,List.getElem?_set_ne Qo]
def Er{α:Type}[Inhabited α](l:List α)(k i:Int)(x:α):(gi (l.set k.toNat x) i=x/\gi l i=gi l k)\/gi (l.set k.toNat x) i=gi l i:=by
 unfold gi;simp only[List.getD_eq_getElem?_getD,List.getElem?_set]
 by_cases e:k.toNat=i.toNat
 ·rw[C' e,e]
  by_cases h:i.toNat<l.length
  ·rw[C' h];exact .inl ⟨rfl,rfl⟩
  ·rw[B' h,Iw Qo];exact .inr rfl
 ·rw[B' e];exact .inr rfl
def K8(G:ZD):ZD:={ G with sum:=0,IH:=[] }
structure Rf (c:Int) (W W':Q7):Prop where
 n:W'.now=W.now
 tl:W'.IJ.length=W.IJ.length
 cl:W'.IF.length=W.IF.length
 gl:W'.IE.length=W.IE.length
 t:∀t:Int,(Q8 W t).R1≠c->Q8 W' t=Q8 W t
 tc:∀t:Int,(Q8 W' t).R1=(Q8 W t).R1
 cp:∀d:Int,0<=d->d≠c->gi W'.IF d=gi W.IF d
 co:∀i:Int,K8 (gi W'.IE i)=K8 (gi W.IE i)
 sl:∀i:Int,(gi W'.IE i).IH.length=(gi W.IE i).IH.length
 e:∀i d:Int,0<=d->d≠c->Qa W' i d=Qa W i d
def Rf.refl(c:Int)(W:Q7):Rf c W W:=⟨rfl,rfl,rfl,rfl,λ_ _=>rfl,λ_=>rfl,λ_ _ _=>rfl,λ_=>rfl,λ_=>rfl,λ_ _ _ _=>rfl⟩
def Rf.trans{c:Int}{A B C:Q7}(h:Rf c A B)(k:Rf c B C):Rf c A C:=
 ⟨k.n.trans h.n,k.tl.trans h.tl,k.cl.trans h.cl,k.gl.trans h.gl,λt ht=>(k.t t (by rw[h.tc];exact ht)).trans (h.t t ht),λt=>(k.tc t).trans (h.tc t),λd d0 hd=>(k.cp d d0 hd).trans (h.cp d d0 hd),λi=>(k.co i).trans (h.co i),λi=>(k.sl i).trans (h.sl i),λi d d0 hd=>(k.e i d d0 hd).trans (h.e i d d0 hd)⟩
section
variable {W V:Q7}{c:Int}
def z6u{g:Int}{x:ZD}(h1:K8 x=K8 (gi W.IE g))(h2:x.IH.length=(gi W.IE g).IH.length)(h3:∀d:Int,0<=d->d≠c->gi x.IH d=gi (gi W.IE g).IH d):Rf c W (R3 W g x):=
 ⟨rfl,rfl,rfl,E',λ_ _=>rfl,λ_=>rfl,λ_ _ _=>rfl,λi=>Z7 (f:=K8) W.IE g h1 i,λi=>Z7 (f:=λG:ZD=>G.IH.length) W.IE g h2 i,λi d d0 hd=>Z7 (f:=λG:ZD=>gi G.IH d) W.IE g (h3 d d0 hd) i⟩
def z3t(W:Q7)(c0:0<=c)(g:Int)(s:KM):Rf c W (RC W g c s):=z6u rfl E' λ_ d0 hd=>KZ _ _ c0 d0 hd
def zou(W:Q7)(c0:0<=c)(d:Int):∀k:Nat,Rf c W (Z9 W c d k)
 |0=>Rf.refl _ _
 |k+1=>by
  simp only[Z9];split
  ·exact(zou W c0 d k).trans (z3t _ c0 _ _)
  ·exact zou W c0 d k
def A8(W:Q7)(c0:0<=c):∀k:Nat,Rf c W (QI W c k)
 |0=>Rf.refl _ _
 |k+1=>by
  simp only[QI];split
  ·exact(A8 W c0 k).trans (z3t _ c0 _ _)
  ·exact A8 W c0 k
end
def zsh{α:Type}[Inhabited α]{l m:List α}(h:l.length=m.length)(e:∀d:Int,0<=d->d<(l.length:Int)->gi l d=gi m d):l=m:=by
 refine List.ext_getElem h λi h1 h2=>?_
 have:=e (i:Int) Qo Qo
 rwa[Ju h1,Ju h2] at this
def zx2{A B:ZD}(h:K8 A=K8 B)(hs:A.sum=B.sum)(hl:A.IH=B.IH):A=B:=by
 cases A;cases B
 simp only[K8,ZD.mk.injEq] at h hs hl ⊢
 simp_all
def zdh{α:Type}[Inhabited α](l:List α)(k i:Int)(x:α):(gi (l.set k.toNat x) i=x/\gi l i=gi l k)\/gi (l.set k.toNat x) i=gi l i:=by
 unfold gi;simp only[List.getD_eq_getElem?_getD,List.getElem?_set]
 by_cases e:k.toNat=i.toNat
 ·rw[C' e,e]
  by_cases h:i.toNat<l.length
  ·rw[C' h];exact .inl ⟨rfl,rfl⟩
  ·rw[B' h,Iw Qo];exact .inr rfl
 ·rw[B' e];exact .inr rfl
structure Dl (W W':Q7):Prop where
 d:∀g c:Int,Xu W' g c->Xu W g c=true
 k:∀c:Int,(gi W'.IF c).cur=(gi W.IF c).cur\/(gi W'.IF c).cur = -1
def Dl.refl(W:Q7):Dl W W:=⟨λ_ _ h=>h,λ_=>.inl rfl⟩
def Dl.trans{A B C:Q7}(h:Dl A B)(k:Dl B C):Dl A C:=⟨λg c q=>h.d g c (k.d g c q),λc=>by
 rcases k.k c with e|e
 ·rw[e];exact h.k c
 ·exact .inr e⟩
def z6a(W:Q7){g:Int}{x:ZD}(h:x.IL=(gi W.IE g).IL):Dl W (R3 W g x):=⟨λi c q=>by
 unfold Xu at q ⊢
 rwa[show (gi (R3 W g x).IE i).IL=(gi W.IE i).IL from Z7 (f:=ZD.IL) W.IE g h i] at q,λ_=>.inl rfl⟩
def z3g(W:Q7)(g c:Int)(s:KM):Dl W (RC W g c s):=z6a W rfl
def z4a(W:Q7)(c:Int):Dl W (Rc W c):=⟨λ_ _ h=>h,λd=>by
 rcases zdh W.IF c d (XA (gi W.IF c)) with ⟨e,_⟩|e
 ·refine .inr ?_;show (gi (W.IF.set c.toNat (XA (gi W.IF c))) d).cur = -1;rw[e];rfl
 ·refine .inl ?_;show (gi (W.IF.set c.toNat (XA (gi W.IF c))) d).cur=_;rw[e]⟩
def z1h(n:Nat)(d:Int):gi (List.replicate n false) d=false:=by
 unfold gi;simp only[List.getD_eq_getElem?_getD,List.getElem?_replicate]
 split <;> rfl
def z05(W:Q7)(k c:Int):Dl W (RF W k (Yi (gi W.IE k).IL c)):=⟨λi d q=>by
 unfold Xu at q ⊢;rcases zdh W.IE k i { gi W.IE k with IL:=Yi (gi W.IE k).IL c } with ⟨e,e2⟩|e
 ·rw[show gi (RF W k (Yi (gi W.IE k).IL c)).IE i=_ from e] at q;rw[e2];simp only[Yi,A'] at q ⊢;refine⟨q.1,?_⟩;have q2:=q.2
  split at q2
  ·rw[z1h] at q2;cases q2
  ·exact q2
 ·rwa[show gi (RF W k (Yi (gi W.IE k).IL c)).IE i=_ from e] at q,λ_=>.inl rfl⟩
def zcv(W:Q7)(c d:Int):∀k:Nat,Dl W (Z9 W c d k)
 |0=>Dl.refl _
 |k+1=>by
  simp only[Z9];split
  ·exact(zcv W c d k).trans (z3g _ _ _ _)
  ·exact zcv W c d k
def N7(W:Q7)(c:Int):∀j:Nat,Dl W (Yh W c j)
 |0=>Dl.refl _
 |j+1=>(N7 W c j).trans (zcv _ _ _ _)
def ziu(W:Q7):∀c:Nat,Dl W (Z2 W c)
 |0=>Dl.refl _
 |c+1=>(ziu W c).trans (N7 (Z2 W c) (c:Int) 3)
def zcu(W:Q7)(k:Int):∀c:Nat,Dl W (Ze W k c)
 |0=>Dl.refl _
 |c+1=>by
  simp only[Ze];split
  ·exact(zcu W k c).trans (z05 _ _ _)
  ·exact zcu W k c
def Fs(W:Q7):∀k:Nat,Dl W (Zv W k)
 |0=>Dl.refl _
 |k+1=>by
  simp only[Zv];split
  ·exact(Fs W k).trans (zcu _ _ _)
  ·exact Fs W k
def N6(W:Q7)(c:Int):∀k:Nat,Dl W (QI W c k)
 |0=>Dl.refl _
 |k+1=>by
  simp only[QI];split
  ·exact(N6 W c k).trans (z3g _ _ _ _)
  ·exact N6 W c k
def zxi(W:Q7)(c:Int):Dl W (Xs W c):=by
 have h:=(N7 W c 3).trans (N6 (QF W c) c 8);unfold Xs;split
 ·exact h.trans (z4a _ _)
 ·exact h
def zcw(W:Q7):∀c:Nat,Dl W (YB W c)
 |0=>Dl.refl _
 |c+1=>(zcw W c).trans (zxi (YB W c) (c:Int))
def zuc(W:Q7):Dl W (Qb W):=((ziu W W.IF.length).trans (Fs (Z2 W W.IF.length) 8)).trans (zcw (PK (Z2 W W.IF.length)) W.IF.length)
def D9(W:Q7):Prop:=∀k c:Int,Q6 W.IE k->(gi W.IE k).IL.I'≠0->0<=c->c<(W.IF.length:Int)->gi (gi W.IE k).IL.locals c>0->Qv W k c=true
def zim{W W':Q7}(o:UY W W')(k c:Int):Qv W' k c=Qv W k c:=
 T0 (W:=W) (W':=W') o.t o.g λj _ _ _ _=>by unfold Qa;rw[o.s (j:Int) Qo]
section
variable {F K:Int}{W:Q7}
def ziz(h:SF F K W){k:Int}(hu:Q6 W.IE k)(hq:(gi W.IE k).IL.I'≠0):∀c:Nat,c<=W.IF.length->∀i:Int,0<=i->i≠k->gi (Ze W k c).IE i=gi W.IE i
 |0,_=>λ_ _ _=>rfl
 |c+1,hc=>λi i0 ik=>by
  obtain⟨a,b,_⟩:=Mz h hu hq c Qo;have ih:=ziz h hu hq c Qo i i0 ik;simp only[Ze];split
  ·have u:=Q2.1 hu;have hl:=a.w.a.gl;have hl0:=h.w.a.gl;rw[show gi (RF (Ze W k c) k (Yi (gi (Ze W k c).IE k).IL (c:Int))).IE i=gi (Ze W k c).IE i from (Ym u.1 Qo i0).trans (B' λe=>ik e.symm)];exact ih
  ·exact ih
def ziy(h:SF F K W){k:Int}(hu:Q6 W.IE k)(hq:(gi W.IE k).IL.I'≠0):∀c:Nat,c<=W.IF.length->∀d:Int,0<=d->d<(c:Int)->gi (gi (Ze W k c).IE k).IL.locals d>0->Qv W k d=true
 |0,_=>λd a b=>by omega
 |c+1,hc=>λd d0 d1=>by
  obtain⟨a,b,q⟩:=Mz h hu hq c Qo;have ih:=ziy h hu hq c Qo d d0;have u:=Q2.1 hu;have hl:=a.w.a.gl;have hl0:=h.w.a.gl;have hu':Q6 (Ze W k c).IE k:=by rw[b.g.aO];exact hu
  have vI:=((a.w.a.u hu').2.2.IL q).2.1;rw[b.c] at vI;simp only[Ze];split
  ·rename_i tG;rw[show gi (RF (Ze W k c) k (Yi (gi (Ze W k c).IE k).IL (c:Int))).IE k={ gi (Ze W k c).IE k with IL:=Yi (gi (Ze W k c).IE k).IL (c:Int) } from (Ym u.1 Qo u.1).trans (C' rfl)];show gi ((gi (Ze W k c).IE k).IL.locals.set (c:Int).toNat 0) d>0->_;rw[Qx _ _ Qo Qo d0];split
   ·intro hh;omega
   ·rename_i hn;exact ih Qo
  ·rename_i tG;intro hp
   by_cases e:d=(c:Int)
   ·subst e;rw[zim b] at tG
    cases hh:Qv W k (c:Int) with
    |true=>rfl
    |false=>exact Ir ⟨hp,hh⟩ tG
   ·exact ih Qo hp
def zi0(h:SF F K W):∀n:Nat,n<=8->∀k c:Int,Q6 W.IE k->k<(n:Int)->(gi (Zv W n).IE k).IL.I'≠0->0<=c->c<(W.IF.length:Int)->gi (gi (Zv W n).IE k).IL.locals c>0->Qv W k c=true
 |0,_=>λk c hu hk=>by have:=(Q2.1 hu).1;omega
 |n+1,hn=>λk c hu hk=>by
  obtain⟨a,b⟩:=JP h n Qo;have ih:=zi0 h n Qo k c hu;have hl:=a.w.a.gl;have u:=Q2.1 hu;have hu':Q6 (Zv W n).IE k:=by rw[b.g.aO];exact hu
  simp only[Zv];split
  ·rename_i hc;have hun:Q6 (Zv W n).IE (n:Int):=Q2.2 ⟨Qo,Qo,hc.1⟩
   by_cases e:k=(n:Int)
   ·subst e;intro _ c0 c1 hp;have:=ziy a hun hc.2 _ (I7 _) c c0 (by rw[b.c];exact c1) hp
    rwa[zim b] at this
   ·rw[ziz a hun hc.2 _ (I7 _) k u.1 e];exact ih Qo
  ·rename_i hc;intro hq
   by_cases e:k=(n:Int)
   ·subst e;exact Ir ⟨(Q2.1 hu').2.2,hq⟩ hc
   ·exact ih Qo hq
def zi8(ha:WA W):∀c:Nat,c<=W.IF.length->WA (Z2 W c)/\Xz W (Z2 W c)/\∀d:Int,0<=d->d<(c:Int)->∀g:Int,Q6 W.IE g->g≠0->aK (Z2 W c) d g
 |0,_=>⟨ha,Xz.refl _,λd a b=>by omega⟩
 |c+1,hc=>by
  obtain⟨a,b,h⟩:=zi8 ha c Qo;obtain⟨a2,b2,h2⟩:=zjb a (c:=(c:Int)) Qo (by rw[b.c];omega);have o:=zes a (c:=(c:Int)) Qo (by rw[b.c];omega);refine⟨a2,b.trans b2,λd d0 d1 g gu gz=>?_⟩
  by_cases e:d=(c:Int)
  ·subst e;exact h2 g (by rw[b.g.aO];exact gu) gz
  ·have:=h d d0 Qo g gu gz;have g0:=(Q2.1 gu).1;show aK (QF (Z2 W c) (c:Int)) d g;unfold aK at this ⊢;rw[o.e g d g0 d0 e,o.SY d0 e,zcy (o.b g g0)];exact this
end
end Go.Proofs.YtjinkcmkgnofjaaGreatDoor
