/- Part 15 of what the law FnEither needs. -/
import Derived.Test.YtjinkcmkgnofjaaGreatDoorFnEitherPn
import Derived.Recover
import Derived.Tactics2
import Derived.Laws.Pointers
set_option linter.all false
set_option maxRecDepth 100000
set_option maxHeartbeats 8000000
namespace Go.Proofs.YtjinkcmkgnofjaaGreatDoor
open Go.RowKit
def z4x(g:Int)(w:Wo):(Instr.typeAssert (.iface 147 (.agg #[I g])) 20 147 true).run Tryz.prog w=.ok (.tuple #[.agg #[I g],.bool true]) w:=Qk
def zt5(p:Addr)(x:Bool)(g:Int)(CK7:List PanicEntry)(w:Wo)(hc:w.cell? p=some (.bool x))(hz:w.frozen? p=false) :
  CallsD Tryz.prog X1 #[.pointer (some p)] (.panicking ({ v:=.iface 147 (.agg #[I g]),recovered:=false }::CK7)) w λe u' w'=>
   e=.returned (.tuple #[])/\u'=.panicking ({ v:=.iface 147 (.agg #[I g]),recovered:=true }::CK7)/\w'=w.setCell p (.bool true):=by
 have ht:=z4x g;refine callsD_of_wpS Tryz.func133 rfl λc₀ cs hu=>?_
 apply wpS_seq
 apply wpS_region
 simp[wpOpsS,go_sem,recoverD,hu,Tryz.ntmps133,Exit.thenS]
 apply wpS_seq
 apply wpS_region
 simp[wpOpsS,go_sem,recoverD,hu,Tryz.ntmps133,Exit.thenS];refine wpS_cond (t:=true) (by simp[Act.eval,Array.replicate]) ?_;simp only[if_true]
 apply wpS_seq
 apply wpS_region
 simp[wpOpsS,go_sem,hc,hz,ht,Exit.thenS,Array.replicate]
 apply wpS_seq
 apply wpS_region
 simp[wpOpsS,go_sem,hc,hz,ht,Exit.thenS,Array.replicate];refine wpS_cond (t:=false) (by simp[Act.eval,Array.replicate]) ?_;simp only[Bool.false_eq_true,if_false];refine wpS_of_wp (wp_skip ?_);cases c₀
 simp_all [bodyPostS,results,Tryz.results133]
def zww(p:Addr)(w:Wo) :
  CallsD Tryz.prog X1 #[.pointer (some p)] .returning w λe u' w'=>e=.returned (.tuple #[])/\u'=.returning/\w'=w:=by
 refine callsD_of_wpS Tryz.func133 rfl λc₀ cs hu=>?_
 apply wpS_seq
 apply wpS_region
 simp[wpOpsS,go_sem,recoverD,hu,Tryz.ntmps133,Exit.thenS]
 apply wpS_seq
 apply wpS_region
 simp[wpOpsS,go_sem,recoverD,hu,Tryz.ntmps133,Exit.thenS];refine wpS_cond (t:=false) (by simp[Act.eval,Array.replicate]) ?_;simp only[Bool.false_eq_true,if_false];refine wpS_of_wp (wp_skip ?_);cases c₀
 simp_all [bodyPostS,results,Tryz.results133]
def zkp{P:Program}{f:FuncId}{fn:Func}{body:Code}{n:Nat}{args:List Va}{w:Wo}{R:Ending->Wo->Prop}(hf:P.funcs[f]? = some fn)(hb:fn.body=some body)(hn:fn.ntmps=n)(hl:args.length<=n)(h:∀a:Act,a.tmps.size=n->(∀(i:Nat) v,args[i]? = some v->a.tmps.getD i undef=v)->a.defers=[]->body.wpIn (PS none) 0 P (bodyPostD P fn R) a w):Calls P f args.toArray w R:=by
 refine calls_of_wp_defers hf hb (wpIn_wide (n:=0).1 (h _ ?_ ?_ rfl))
 ·simp[hn];omega
 ·intro i v hv;rw[Array.getD_eq_getD_getElem?,Array.getElem?_append_left (by simpa using (I8.1 hv).1)];simp[hv]
noncomputable def zmn:Code:=Pi Tryz.f89
noncomputable def zrl:Code:=cL (cR zmn)
noncomputable def zrk:Code:=cR (cR (cB (cL (cR (cO (cB (cR (cL (cR (cR zmn))))))))))
def zo8:zmn=.seq XL (.seq zrl (.seq (.seq XM (.block 0 (.loop (.seq J1 (.seq (.block 1 (zze YK zrk)) YL))))) Yu)):=Qk
def znf(b:Nat):Deferred:={ target:=.fn (.func X1) #[.pointer (some ⟨b,0,none⟩)],args:=#[] }
def zvu{Q:Exit->Act->Wo->Prop}{a:Act}{w:Wo}{b:Nat}(hn:a.tmps.size=52)(h4:a.tmps.getD 4 undef=.pointer (some ⟨b,0,none⟩))(h:∀a':Act,a'.tmps.size=52->a'.defers=znf b::a.defers->(∀i,i≠7->a'.tmps.getD i undef=a.tmps.getD i undef)->Q .normal a' w):zrl.wpIn (PS none) 0 Tryz.prog Q a w:=by
 have hmf:∀(fn:Fn) (first cap:Array Va) (w:Wo),(Instr.makeFunc fn first cap).run Tryz.prog w=.ok (.func fn first cap) w:=λ_ _ _ _=>rfl
 show Code.wpIn Fence.wide 0 Tryz.prog zrl Q a w;refine wpIn_wide.2 (wp_region (id:=1) ?_);simp[wpOps,go_sem,hmf,hn];have h4':a.tmps[4]=.pointer (some ⟨b,0,none⟩):=by simpa[Array.getD,hn] using h4
 refine .inl (.inl ?_);rw[h4'];exact h _ (by simp[hn]) rfl λi hi=>Tx (Ne.symm hi)
def zvt{Q:Exit->Act->Wo->Prop}{a:Act}{w:Wo}{d:Bool}{g:Int}(hn:a.tmps.size=52)(h48:a.tmps.getD 48 undef=.bool d)(h5:a.tmps.getD 5 undef=I g)(h0:d=false->Q .normal a w)(h1:d->∀a':Act,a'.tmps.size=52->a'.defers=a.defers->(∀i,i<49->a'.tmps.getD i undef=a.tmps.getD i undef)->Q (.panic [{ v:=.iface 147 (.agg #[I g]),recovered:=false }]) a' w):zrk.wpIn (PS none) 0 Tryz.prog Q a w:=by
 show Code.wpIn Fence.wide 0 Tryz.prog zrk Q a w;have C27:a.tmps[48]=.bool d:=by simpa[Array.getD,hn] using h48
 have h5':a.tmps[5]=I g:=by simpa[Array.getD,hn] using h5
 refine wpIn_wide.2 (wp_cond (t:=d) (by simp[Act.eval,hn,C27]) ?_)
 cases d with
 |false=>exact wp_skip (h0 rfl)
 |true=>
  simp only[if_true];refine wp_region (id:=7) ?_;have hp:(Instr.panic (.iface 147 (.agg #[I g]))).run Tryz.prog w=.halt (.panic (.iface 147 (.agg #[I g]))) w:=rfl;simp[wpOps,go_sem,hn,h5',hp]
  repeat refine Or.inl ?_
  exact h1 rfl _ (by simp[hn]) rfl λi hi=>by
   show (((a.tmps.setIfInBounds 49 _).setIfInBounds 50 _).setIfInBounds 51 _).getD i undef=_;rw[Tx Qo,Tx Qo,Tx Qo]
def zzx:TL zv4 Zw=some ⟨false,[.bool],.bool⟩:=Qk
def DO{fn:Func}{p:Tmp}(h:fn.results=#[.cell p Zw]){tmps:Array Va}{b:Nat}{n:Bool}{w:Wo}{t:TypeId}(hp:tmps.getD p undef=.pointer (some ⟨b,0,none⟩))(hb:w.heap[b]? = some (.cells ([.bool n]:List Va).toArray t (0,0))) :
  (results fn tmps).run Tryz.prog w=.ok (.bool n) w:=by
 have hl:=VS z7b zzx (vs:=[.bool n]) (v:=.bool n) rfl rfl (a:=⟨b,0,none⟩) (w:=w) (λj x hx=>by rw[Addr.add_lit,Tb hb];simpa using hx);have hp':tmps[p]?.getD undef=.pointer (some ⟨b,0,none⟩):=by simpa using hp
 simp[results,h,hp',asAddr,hl]
def zzz{K c:Int}{V:Q7}(sw:SW K V):Br c [0] V=(V,true):=by
 obtain⟨_,_,hg⟩:=sw.a.u sw.a.root;have:Lm V c 0=(V,true):=by unfold Lm;rw[C' (hg.root rfl).2.2]
 rw[Hz,this,C' rfl];rfl
section
variable {base pb:Nat}{W:Q7}{m:MW}{w:Wo}
def Mp.far{w0 w':Wo}{m0:MW}{b1:Nat}(h:Mp base pb [] w0 m0 w W m)(hx:Q0 [b1] w w')(hb:w0.heap.size<=b1)(hn:b1∉QN 8 m)(hp:b1≠pb):Mp base pb [] w0 m0 w' W m:=
 ⟨⟨h.own.ext hx fun x hx hm => hn (by have:x=b1:=by simpa using hm
                                      exact this ▸ hx), h.v.ext.fresh hx fun x hm => .inl (by have:x=b1:=by simpa using hm
                                                                                              omega),h.v.sub,h.v.hd,Qs,Qs⟩,QR h.pt hx (by simpa using Ne.symm hp),h.pn,Qs⟩
structure z61 (K:Int) (base pb b b1:Nat) (c:Int) (w0:Wo) (m:MW) (W:Q7) (t:Int) (a:Act) (w2:Wo) (g:Int) (V:Q7):Prop where
 sz:a.tmps.size=52
 df:a.defers=[znf b1]
 a2:a.tmps.getD 2 undef=.pointer (some ⟨b,0,none⟩)
 a4:a.tmps.getD 4 undef=.pointer (some ⟨b1,0,none⟩)
 a5:a.tmps.getD 5 undef=I g
 bx:w2.heap[b]? = some (.cells ([.pointer (pA pb),I c]:List Va).toArray TM (0,0))
 dr:w2.heap[b1]? = some (.cells ([.bool false]:List Va).toArray Zw (0,0))
 nb:b∉QN 8 m
 nd:b1∉QN 8 m
 nw:w0.heap.size<=b1
 mp:Mp base pb [] w0 m w2 V m
 sw:SW K V
 o:V6 W V
 u:Q6 V.IE g=true
 e:Br c (Z7 W t) W=Br c (QM V.IE g++[0]) V
 wet:∀x∈QM V.IE g,(gi V.IE x).IM.I'≠0->gi (gi V.IE x).IM.RE c=false
def KR{K c t:Int}(h:PW base pb w W m)(sw:SW K W)(c0:0<=c)(c1:c<(W.IF.length:Int))(t0:0<=t)(t1:t<12)(hu:Q6 W.IE (Q8 W t).II)(hd:∀g∈Z7 W t,(gi W.IE g).IM.I'≠0->gi (gi W.IE g).IM.RE c=false) :
  Cz VI #[.agg #[.pointer (pA pb),.int .i64 c],.int .i64 t] w λe w'=>e=.returned (.bool (!(Br c (Z7 W t) W).2))/\Mp base pb [] w m w' (Br c (Z7 W t) W).1 m:=by
 have hM:=Mp.start h;have qT:=sw.a.t;refine zkp (args:=[.agg #[.pointer (pA pb),.int .i64 c],.int .i64 t]) (n:=52) Tryz.func89 (body:=zmn) rfl Qk Qs λa hn ha hd0=>?_
 rw[zo8];have a0:=ha 0 _ rfl;have a1:=ha 1 _ rfl;refine wpIn_seq (Gp none (pA pb) c (R:=λe vs w1=>e=.normal/\∃b b1:Nat,vs=[.pointer (some ⟨b,0,none⟩),.pointer (some ⟨b1,0,none⟩)]/\w.heap.size<=b/\w.heap.size<=b1/\w1.heap[b]? = some (.cells ([.pointer (pA pb),.int .i64 c]:List Va).toArray TM (0,0))/\w1.heap[b1]? = some (.cells ([.bool false]:List Va).toArray Zw (0,0))/\Q0 [] w w1) hn (λp hp=>?_) ?_ λe vs a1' w1 hR fo=>?_)
 ·simp only[Ii,List.not_mem_nil,or_false] at hp;subst hp;exact⟨Ik rfl,a0⟩
 ·intro b wb hx hb0 WY _ b1 wb1 Sn dG CP0 _ wr Rg;exact⟨rfl,b,b1,rfl,hb0,IB hx.size dG,QR (QR WY Sn Qs) Rg Qs,QR CP0 Rg Qs,(hx.trans Sn).trans Rg⟩
 obtain⟨rfl,b,b1,rfl,hb,dG,hcb,hcd,hX1⟩:=hR;have oo:=fo.out;simp only[List.map_cons,List.map_nil,I4,and_true] at oo;have o1:a1'.tmps.getD 1 undef=.int .i64 t:=(fo.kept 1 (by decide +kernel)).trans a1;refine wpIn_seq (zvu (b:=b1) (by rw[fo.size,hn]) oo.2 λa2 hn2 C64 hk2=>?_);have hdf:a2.defers=[znf b1]:=by rw[C64,fo.defers,hd0]
 have q1:a2.tmps.getD 1 undef=.int .i64 t:=(hk2 1 Qd).trans o1;have q2:a2.tmps.getD 2 undef=.pointer (some ⟨b,0,none⟩):=(hk2 2 Qd).trans oo.1;have q4:a2.tmps.getD 4 undef=.pointer (some ⟨b1,0,none⟩):=(hk2 4 Qd).trans oo.2;have hM1:=hM.nil hX1;have hbn:b∉QN 8 m:=λhm=>by have:=(h.own.lt b hm).2;omega
 have Bq0:b1∉QN 8 m:=λhm=>by have:=(h.own.lt b1 hm).2;omega
 have CB3:∀{w2:Wo},w2.heap[b]? = some (.cells ([.pointer (pA pb),.int .i64 c]:List Va).toArray TM (0,0))->Q1 [] w2 (some ⟨b,0,none⟩) 0 [.pointer (pA pb)]/\Q1 [] w2 (some ⟨b,0,none⟩) 1 [.int .i64 c]:=λhc=>
  ⟨VC hc Qs (k0:=0) λj v hj=>by rcases j with _|j <;> simp at hj ⊢ <;> exact hj,VC hc Qs (k0:=0) λj v hj=>by rcases j with _|j <;> simp at hj ⊢ <;> exact hj⟩
 refine wpIn_seq (wpIn_seq (Gr none t (some ⟨b,0,none⟩) (R:=λe vs w2=>e=.normal/\vs=[.int .i64 (Q8 W t).II]/\Q0 [] w1 w2) hn2 (λp hp=>?_) ?_ λe vs a3 w3 hR fo3=>?_))
 ·simp only[Ii,List.not_mem_nil,or_false] at hp;rcases hp with rfl|rfl
  ·exact⟨Ik rfl,q1⟩
  ·exact⟨Ik rfl,q2⟩
 ·have hp:=hM1.wpt;exact⟨rfl,_,(CB3 hcb).1,hp.some,_,_,_,hp.IJ,hp.rd.t.ix QT t0 Qo,_,hp.rd.t.f t0 Qo (j:=1) rfl,λwr hx=>⟨rfl,rfl,hx⟩⟩
 obtain⟨rfl,rfl,hX3⟩:=hR;have o5:=fo3.out;simp only[List.map_cons,List.map_nil,I4,and_true] at o5;have DO9:QM W.IE (Q8 W t).II++[0]=Z7 W t:=rfl
 refine wpIn_block (G5 (I:=λk a2 w2=>∃g V,k=(dep 3 W.IE g).toNat/\z61 K base pb b b1 c w m W t a2 w2 g V)
  ⟨(Q8 W t).II,W,rfl,⟨by rw[fo3.size,hn2],by rw[fo3.defers,hdf],(fo3.kept 2 (by decide +kernel)).trans q2,(fo3.kept 4 (by decide +kernel)).trans q4,o5,QR hcb hX3 Qs,QR hcd hX3 Qs,hbn,Bq0,dG,hM1.nil hX3,sw,V6.refl _,hu,rfl,λx hx=>hd x (Ia _ hx)⟩⟩ ?_)
 rintro k a4 w4 ⟨g,V,rfl,hS⟩;refine wpIn_seq (H1 none g (R:=λe vs w5=>(g≠0/\e=.normal\/g=0/\e=.exit 0)/\Q0 [] w4 w5) hS.sz (λp hp=>?_) ⟨λg1 wr hx=>⟨.inl ⟨by simpa using g1,rfl⟩,hx⟩,λg1 wr hx=>⟨.inr ⟨by simpa using g1,rfl⟩,hx⟩⟩ λe vs a5 w5 hR fo5=>?_)
 ·simp only[Ii,List.not_mem_nil,or_false] at hp;subst hp;exact⟨Ik rfl,hS.a5⟩
 obtain⟨hE,hX5⟩:=hR;have qR:z61 K base pb b b1 c w m W t a5 w5 g V:=⟨by rw[fo5.size,hS.sz],by rw[fo5.defers,hS.df],(fo5.kept 2 (by decide +kernel)).trans hS.a2,(fo5.kept 4 (by decide +kernel)).trans hS.a4,(fo5.kept 5 (by decide +kernel)).trans hS.a5,QR hS.bx hX5 Qs,QR hS.dr hX5 Qs,hbn,Bq0,dG,hS.mp.nil hX5,hS.sw,hS.o,hS.u,hS.e,hS.wet⟩;clear hS fo5;rcases hE with ⟨hz,rfl⟩|⟨hz,rfl⟩
 ·
  obtain⟨u0,u1,hgg⟩:=qR.sw.a.u qR.u;have cZ:=qR.sw.a.gl;have Re:g<(V.IE.length:Int):=Qo;have hcV:c<(V.IF.length:Int):=by rw[qR.o.c];exact c1
  obtain⟨hup,_,_,d,hd1,hd2,_⟩:=Y3 qR.sw.a.tree qR.u hz;have hps:=Yg qR.sw.a.tree qR.u hz;have CS4:=qR.wet;have hE:=qR.e;rw[hps] at CS4 hE;rw[List.cons_append,Hz] at hE;obtain⟨tk,tk2,_⟩:=zrm qR.sw c0 hcV qR.u (CS4 g I9);have hp:=qR.mp.wpt;refine wpIn_seq (wpIn_block (Gn none (some ⟨b,0,none⟩) g (R:=λe vs w6=>e=.normal/\vs=[.bool (!(Lm V c g).2)]/\Mp base pb [] w m w6 (Lm V c g).1 m/\w6.heap[b]? = some (.cells ([.pointer (pA pb),.int .i64 c]:List Va).toArray TM (0,0))/\w6.heap[b1]? = some (.cells ([.bool false]:List Va).toArray Zw (0,0))) qR.sz (λp hp=>?_) ?_ ?_ (λe vs a6 w6 eO hR _=>Ir hR.1 eO)))
  ·simp only[Ii,List.not_mem_nil,or_false] at hp;rcases hp with rfl|rfl
   ·exact⟨Ik rfl,qR.a2⟩
   ·exact⟨Ik rfl,qR.a5⟩
  ·refine⟨rfl,_,(CB3 qR.bx).1,hp.some,_,_,_,hp.IE,hp.rd.g.ix u0 Re,_,hp.rd.g.quo u0 Re,λ_=>rfl,c,λ_=>(CB3 qR.bx).2,λgq wr hx _=>?_,λgq wr hx=>?_⟩
   ·have gq:(gi V.IE g).IM.I'>0:=Ot gq;have hq0:(gi V.IE g).IM.I'≠0:=Qo;obtain⟨wM,hbl,_⟩:=hgg.IM hq0;have tV:=qR.mp.nil hx;have B17:Zj 8 base wr (RZ V g (gi V.IE g).IM) m:=by rw[G0 u0 Re];exact tV.own
    have hcl:c<((gi V.IE g).IM.locals.length:Int):=Qo;refine I3 (Nk (op:=⟨1,c,0⟩) B17 u0 u1 wM) ?_;rintro e1 eD ⟨qC,hB,hX⟩;rw[zwu c0 hcl] at qC hB;have hT:Lm V c g=(RZ V g (ZQ (gi V.IE g).IM c).1,decide ((ZQ (gi V.IE g).IM c).2≠2)):=by unfold Lm;rw[B' hq0]
    refine⟨_,qC,Xj,λR6 Sn=>⟨rfl,?_,?_,?_,?_⟩⟩
    ·rw[hT,Ih gq]
     by_cases h2:(ZQ (gi V.IE g).IM c).2=2 <;> simp[h2]
    ·rw[hT];exact(tV.Sv hB hX (JZ (HP u0 Re).fr)).nil Sn
    ·exact QR (QR (QR qR.bx hx Qs) hX hbn) Sn Qs
    ·exact QR (QR (QR qR.dr hx Qs) hX Bq0) Sn Qs
   ·have gq:¬(gi V.IE g).IM.I'>0:=λh=>gq (Ih h)
    have hq0:(gi V.IE g).IM.I'=0:=Iq λhn=>by have:=(hgg.IM hn).1.q1;omega
    have hT:Lm V c g=(V,true):=by unfold Lm;rw[C' hq0]
    refine⟨rfl,?_,?_,QR qR.bx hx Qs,QR qR.dr hx Qs⟩
    ·rw[hT];rfl
    ·rw[hT];exact qR.mp.nil hx
  rintro vs a6 w6 ⟨_,rfl,pY,hb6,hd6⟩ fo6;have o48:=fo6.out;simp only[List.map_cons,List.map_nil,I4,and_true] at o48;have s6:a6.tmps.size=52:=by rw[fo6.size,qR.sz]
  have k2:=(fo6.kept 2 (by decide +kernel)).trans qR.a2;have k4:=(fo6.kept 4 (by decide +kernel)).trans qR.a4;have k5:=(fo6.kept 5 (by decide +kernel)).trans qR.a5;have d6:a6.defers=[znf b1]:=by rw[fo6.defers,qR.df]
  refine zvt s6 o48 k5 (λhf=>?_) (λhf a7 s7 hd7 hk7=>?_)
  ·have ht:(Lm V c g).2:=by simpa using hf
   rw[C' ht] at hE;show YL.wpIn (PS none) 0 Tryz.prog _ a6 w6;have hp6:=pY.wpt;have Dg4:(Lm V c g).1.IE.length=8:=tk.sw.a.gl;refine Gq none (some ⟨b,0,none⟩) g (R:=λe vs w7=>e=.normal/\vs=[.int .i64 (gi (Lm V c g).1.IE g).IG]/\Q0 [] w6 w7) s6 (λp hp=>?_) ⟨rfl,_,(CB3 hb6).1,hp6.some,_,_,_,hp6.IE,hp6.rd.g.ix u0 Qo,_,hp6.rd.g.IG u0 Qo,λwr hx=>⟨rfl,rfl,hx⟩⟩ λe vs a7 w7 hR fo7=>?_
   ·simp only[Ii,List.not_mem_nil,or_false] at hp;rcases hp with rfl|rfl
    ·exact⟨Ik rfl,k2⟩
    ·exact⟨Ik rfl,k5⟩
   obtain⟨rfl,rfl,hX7⟩:=hR;have o5:=fo7.out;simp only[List.map_cons,List.map_nil,I4,and_true] at o5;rw[tk.o.g.p] at o5;have hpq:QM (Lm V c g).1.IE (gi V.IE g).IG=QM V.IE (gi V.IE g).IG:=Vy tk.o.g _;refine⟨_,?_,(gi V.IE g).IG,(Lm V c g).1,rfl,⟨by rw[fo7.size,s6],by rw[fo7.defers,d6],(fo7.kept 2 (by decide +kernel)).trans k2,(fo7.kept 4 (by decide +kernel)).trans k4,o5,QR hb6 hX7 Qs,QR hd6 hX7 Qs,hbn,Bq0,dG,pY.nil hX7,tk.sw,qR.o.trans tk.o,by rw[tk.o.g.cD];exact hup,by rw[hpq];exact hE,λx hx hq=>?_⟩⟩
   ·rw[qR.o.g.dep] at hd1 hd2;rw[hd1,hd2];omega
   ·rw[hpq] at hx;have x0:=(Q5.1 (Ys qR.sw.a.tree _ hup x hx).1).1;rw[tk.q x x0] at hq;exact(tk2 ht).2 x x0 (CS4 x (I1 _ hx)) hq
  ·have ht:¬(Lm V c g).2:=by simpa using hf
   rw[B' ht] at hE;show Leaves _ _ a7.tmps _ a7.defers (.panicking [_]) w6;rw[hd7,d6];refine leaves_cons (f:=X1) (args:=#[.pointer (some ⟨b1,0,none⟩)]) Qs (by simp[go_sem];rfl) ((zt5 ⟨b1,0,none⟩ false g [] _ (by rw[Tb hd6];rfl) (by simp[World.frozen?,hd6])).mono ?_);rintro e u' qZ ⟨rfl,rfl,rfl⟩
   have hb9:(w6.setCell ⟨b1,0,none⟩ (.bool true)).heap[b1]? = some (.cells ([.bool true]:List Va).toArray Zw (0,0)):=by
    have:=Ka (k:=0) (n:=0) (vs:=[.bool true]) hd6;exact this
   refine⟨.bool true,DO Qk ((hk7 4 Qd).trans k4) hb9,?_,?_⟩
   ·rw[hE];rfl
   ·rw[hE];exact pY.far ((Q0.refl [] w6).of_nil.setCell (p:=⟨b1,0,none⟩) (.inr Qs) _) dG Bq0 (by have:=UX h.pt;omega)
 ·
  subst hz;have hE:=qR.e;rw[show QM V.IE 0=[] from Zc _ _,List.nil_append,zzz qR.sw] at hE;show Yu.wpIn (PS none) 0 Tryz.prog _ a5 w5;refine LA none (some ⟨b1,0,none⟩) (R:=λe vs w6=>e=.ret/\Q0 [b1] w5 w6/\w6.heap[b1]? = some (.cells ([.bool false]:List Va).toArray Zw (0,0))) qR.sz (λp hp=>?_) ⟨Bn (k0:=0) qR.dr Qs Qs,λwr hx=>⟨rfl,?_,?_⟩⟩ λe vs a6 w6 hR fo6=>?_
  ·simp only[Ii,List.not_mem_nil,or_false] at hp;subst hp;exact⟨Ik rfl,qR.a4⟩
  ·have e1:Q0 [b1] w5 (Rx w5 (some ⟨b1,0,none⟩) 0 [.bool false]):=TK (bs:=[b1]) Qs;exact e1.trans hx.of_nil
  ·exact QR (Ka (vs:=[.bool false]) (n:=0) qR.dr) hx Qs
  obtain⟨rfl,hX6,hd6⟩:=hR;have d6:a6.defers=[znf b1]:=by rw[fo6.defers,qR.df]
  show Leaves _ _ a6.tmps _ a6.defers .returning w6;rw[d6];refine leaves_cons (f:=X1) (args:=#[.pointer (some ⟨b1,0,none⟩)]) Qs (by simp[go_sem];rfl) ((zww ⟨b1,0,none⟩ _).mono ?_);rintro e u' qZ ⟨rfl,rfl,rfl⟩;refine⟨.bool false,DO Qk ((fo6.kept 4 (by decide +kernel)).trans qR.a4) hd6,?_,?_⟩
  ·rw[hE];rfl
  ·rw[hE];exact qR.mp.far hX6 dG Bq0 (by have:=UX h.pt;omega)
end
def zxv(W:Q7)(i:Int):Va:=.iface XH (.agg (I i::X4 (Q8 W i)).toArray)
def zum(W:Q7)(c:Int)(i:Int):Va:=.iface J8 (.agg (I i::T4 (Qb W i c)).toArray)
def zix(W:Q7)(c:Int)(i:Nat):Va:=if i<12 then zxv W (i:Int) else zum W c ((i-12:Nat):Int)
def zk9(W:Q7)(c:Int):Option Nat->List Va
 |none=>[.nilIface]
 |some i=>[zix W c i]
def zxg(W:Q7)(c:Int)(x:Option Nat):(zk9 W c x).length=1:=by cases x <;> rfl
def z3x(W:Q7)(c:Int)(x:Option Nat):∃v r,zk9 W c x=v::r:=by cases x <;> exact⟨_,_,rfl⟩
def zng(W:Q7)(c:Int)(x:Option Nat):Zg (zk9 W c x):=by
 cases x with
 |none=>rfl
 |some i=>
  show Zg [zix W c i]=true
  by_cases h:i<12
  ·rw[show zix W c i=zxv W (i:Int) from C' h];rfl
  ·rw[show zix W c i=zum W c ((i-12:Nat):Int) from B' h];rfl
def Ee(W:Q7)(c:Int):zph Tryz.prog (zk9 W c) 1 Zt 16 none:=GX Qk (zxg W c)
def Aw:Tryz.prog.underlying ZO=some (.slice Zt):=Qk
def zxx{W:Q7}{c:Int}{i:Nat}(h:i<12):zix W c i=zxv W (i:Int):=C' h
def zxw{W:Q7}{c:Int}{i:Nat}:zix W c (12+i)=zum W c (i:Int):=by
 unfold zix;rw[B' Qo,show 12+i-12=i by omega]
def zwx{bs:List Nat}{w:Wo}{o:OA}{n:Nat}{vs:List Va}(h:Q1 bs w o n vs):Q1 bs w (o.map (·.add n)) 0 vs:=Og λj v hj=>by
 obtain⟨a,ha,hb,hc⟩:=h.get j v hj;refine⟨a.add n,by rw[ha];rfl,by rw[Zz];exact hb,?_⟩;rw[JF,Nat.zero_add];exact hc
def Ak(p:Nat->Bool)(k:Nat)(h:p k):(List.range (k+1)).filter p=(List.range k).filter p++[k]:=by
 rw[List.range_succ,List.filter_append];simp[h]
def K5(p:Nat->Bool)(k:Nat)(h:p k=false):(List.range (k+1)).filter p=(List.range k).filter p:=by
 rw[List.range_succ,List.filter_append];simp[h]
def N9(p:Nat->Bool)(k:Nat):((List.range k).filter p).length<=k:=by
 have:=List.length_filter_le p (List.range k)
 simpa using this
def VT(W:Q7)(g c:Int)(k:Nat):List Nat:=(List.range k).filter (Sf W g c)
section
variable {W:Q7}{m:MW}{w:Wo}{bs:List Nat}{p:OA}
def zdn{g c:Int}(h:Ph bs w p W m)(ha:WA W)(c0:0<=c)(c1:c<(W.IF.length:Int))(hb0:bs=[]) :
  Cz Uk #[.agg #[.pointer p,I c],I g] w λe w'=>∃o cap,e=.returned (.slice o (VT W g c 20).length cap)/\Uy (zk9 W c) 1 Zt w.heap.size w' o cap ((VT W g c 20).map some)/\Q0 [] w w':=by
 subst hb0;refine(Di p c g (R:=λv w'=>∃o cap,v=.slice o (VT W g c 20).length cap/\Uy (zk9 W c) 1 Zt w.heap.size w' o cap ((VT W g c 20).map some)/\Q0 [] w w') ?_).mono λe w' ⟨v,he,o,cap,hv,h1⟩=>⟨o,cap,by rw[he,hv],h1⟩
 have qT:=ha.t;have cZ:=ha.gl;intro b hb;refine⟨h.some,_,_,_,h.IJ,?_⟩
 refine⟨λvs w1=>∃(k:Nat) (o:OA) (c':Nat),vs=[.slice o ((VT W g c k).map some).length c',I (k:Int)]/\k<=12/\Sc w [b] w1/\Ob (zk9 W c) 1 Zt w.heap.size [b] w1 o c' ((VT W g c k).map some),Zp 12 1,
  λwr hx _=>⟨0,none,0,rfl,Qo,⟨hx,by simpa using hb⟩,⟨.inl ⟨rfl,rfl,rfl⟩,by simp[QL]⟩⟩,?_⟩
 rintro o1 L1 C1 x w1 eR ⟨k,o',c',he,hk,s1,hO⟩;simp only[I4,I5,Iv,true_and,and_true] at he;obtain⟨⟨rfl,rfl,rfl⟩,rfl⟩:=he;have hp1:=h.sc s1;refine⟨λIV=>?_,λRW=>?_⟩
 ·have IV:=Ot IV;have rD:k<12:=Qo;refine⟨h.rd.t.ix QT Qo IV,_,_,_,_,_,_,_,_,_,hp1.rd.t k Qo IV,λb1 dG=>⟨_,Kv hp1 Qo IV,λq b2 cH R6 Sn We WY=>?_,λq=>⟨⟨Qo,Qo⟩,λRD Rl _=>⟨⟨k+1,o1,C1,?_,Qo,s1.step Rl,?_⟩,Z6 (k:=k) rfl rfl rD⟩⟩⟩⟩
  ·have q':Sf W g c k:=by rw[Ji rD];rwa[Ig] at q
   have s2:=s1.AH9 Sn dG cH;have vB:=hO.AH9 Sn dG cH
   obtain⟨o2,c2,w2,Wn,hk2,hO3,Rg⟩:=vB.AQ6 (Ee W c) Aw (x:=some k) We s2.ext.size (by
    show _=some (Obj.cells [zix W c k].toArray _ _);rw[zxx rD];exact WY) (zng _ _ _) (by have:=N9 (Sf W g c) k;simp[VT];omega) Qd ZO #[false,false]
   have s3:=s2.call Rg λx hm=>(vB.own.lt x hm).1
   have hL:(VT W g c k).map some++[some k]=(VT W g c (k+1)).map some:=by
    unfold VT;rw[Ak _ _ q',List.map_append];rfl
   rw[hL] at Wn hO3;exact⟨_,_,_,w2,Wn,hk2,⟨Qo,Qo⟩,λR7 Rl _=>⟨⟨k+1,o2,c2,Qs,Qo,(s3.step Rl).sub Qs,(hO3.step Rl).sub Qs⟩,Z6 (k:=k) rfl rfl rD⟩⟩
  ·have q':Sf W g c k=false:=by rw[Ji rD];rwa[Ig] at q
   have hL:VT W g c (k+1)=VT W g c k:=K5 _ _ q';rw[hL];simp
  ·have q':Sf W g c k=false:=by rw[Ji rD];rwa[Ig] at q
   have hL:VT W g c (k+1)=VT W g c k:=K5 _ _ q';rw[hL];exact hO.step Rl
 ·have RW:=Ou RW;have:k=12:=Qo;subst this;refine⟨h.some,_,_,_,hp1.IE,?_⟩
  refine⟨λvs w1=>∃(k:Nat) (o:OA) (c':Nat),vs=[.slice o ((VT W g c (12+k)).map some).length c',I (k:Int)]/\k<=8/\Sc w [b] w1/\Ob (zk9 W c) 1 Zt w.heap.size [b] w1 o c' ((VT W g c (12+k)).map some),Zp 8 1,
   λwr hx _=>⟨0,o1,C1,rfl,Qo,s1.step hx,hO.step hx⟩,?_⟩
  rintro o3 L3 C3 x w3 jS ⟨k,o',c',he,hk,s3,hO3⟩;simp only[I4,I5,Iv,true_and,and_true] at he;obtain⟨⟨rfl,rfl,rfl⟩,rfl⟩:=he;have hp3:=h.sc s3;refine⟨λIV=>?_,λbK wr hx=>?_⟩
  ·have IV:=Ot IV;have hk8:k<8:=Qo;have eJ:(0:Int)<=(k:Int):=Qo;refine⟨_,LB hp3 ha Qo IV c0 c1,λq=>?_,λq=>⟨⟨Qo,Qo⟩,λSA gL _=>⟨⟨k+1,o3,C3,?_,Qo,s3.step gL,?_⟩,Z6 (k:=k) rfl rfl hk8⟩⟩⟩
   ·rw[Ig] at q;have q':Sf W g c (12+k):=by rw[J3];exact q
    have hus:(gi W.IE (k:Int)).IW:=by
     unfold WV at q;simp only[A'] at q;exact q.1.2.1
    have hkc:c<((gi W.IE (k:Int)).IH.length:Int):=by rw[ha.sl (zbg IV hus)];exact c1
    refine⟨_,Zn hp3 eJ IV c0 hkc,(hp3.sh eJ IV c0 hkc).1,_,_,_,_,_,zwx (hp3.rd.g.IH _ eJ IV c c0 hkc),λb3 wM S5 Sx gQ WY=>?_⟩;have s5:=s3.put Sx wM;have hO5:=hO3.put Sx wM
    obtain⟨o2,c2,w2,Wn,hk2,hO6,Rg⟩:=hO5.AQ6 (Ee W c) Aw (x:=some (12+k)) gQ s5.ext.size (by
     show _=some (Obj.cells [zix W c (12+k)].toArray _ _);rw[zxw];exact WY) (zng _ _ _) (by have:=N9 (Sf W g c) (12+k);simp[VT];omega) Qd ZO #[false,false]
    have s6:=s5.call Rg λx hm=>(hO5.own.lt x hm).1
    have hL:(VT W g c (12+k)).map some++[some (12+k)]=(VT W g c (12+(k+1))).map some:=by
     unfold VT;rw[show 12+(k+1)=12+k+1 from rfl,Ak _ _ q',List.map_append];rfl
    rw[hL] at Wn hO6;exact⟨_,_,_,w2,Wn,hk2,⟨Qo,Qo⟩,λR7 Rl _=>⟨⟨k+1,o2,c2,Qs,Qo,(s6.step Rl).sub Qs,(hO6.step Rl).sub Qs⟩,Z6 (k:=k) rfl rfl hk8⟩⟩
   ·rw[Ig] at q;have q':Sf W g c (12+k)=false:=by rw[J3];exact q
    have hL:VT W g c (12+(k+1))=VT W g c (12+k):=K5 _ _ q';rw[hL];simp
   ·rw[Ig] at q;have q':Sf W g c (12+k)=false:=by rw[J3];exact q
    have hL:VT W g c (12+(k+1))=VT W g c (12+k):=K5 _ _ q';rw[hL];exact hO3.step gL
  ·have bK:=Ou bK;have:k=8:=Qo;subst this;exact⟨o3,C3,Qs,(hO3.step hx).own,(s3.step hx).ext⟩
def zx9{x:Int}{t:MQ}:PX bs Xa #[.agg (I x::X4 t).toArray] w (I t.v):=LL x t.state t.II t.R2 t.nice t.mask t.v t.sum t.IW t.load λwr hx=>λ_ _=>rfl
def zx8{x:Int}{s:KD}:PX bs YV #[.agg (I x::T4 s).toArray] w (I s.v):=L5 x s.IL s.on s.v s.w s.sum λwr hx=>λ_ _=>rfl
def z0x (W : Q7) (i : Int) (w : World) : (zck "loop.example/stint/impl.time" (zxv W i) []).run Tryz.prog w = .ok (.enter Xa #[.agg (.int .i64 i :: X4 (Q8 W i)).toArray]) w := by kernel_rfl
def zw4 (W : Q7) (c i : Int) (w : World) : (zck "loop.example/stint/impl.time" (zum W c i) []).run Tryz.prog w = .ok (.enter YV #[.agg (.int .i64 i :: T4 (Qb W i c)).toArray]) w := by kernel_rfl
def zyn (c : Int) (i : Nat) : ∃ (F : FuncId) (aa : Array Value), (∀ w : World, (zck "loop.example/stint/impl.time" (zix W c i) []).run Tryz.prog w = .ok (.enter F aa) w) ∧ ∀ (bs : List Nat) (w : World), Q4 bs Tryz.prog F aa w (.int .i64 (S9 W c i)) := by
 by_cases h:i<12
 ·rw[zxx h,Hd h]
  refine⟨Xa,#[.agg (.int .i64 (i:Int)::X4 (Q8 W (i:Int))).toArray],?_,?_⟩
  ·intro w;exact z0x W (i:Int) w
  ·intro bs w;exact zx9 (x:=(i:Int)) (t:=Q8 W (i:Int))
 ·have e:i=12+(i-12):=Qo
  rw[e,zxw,Hc]
  refine⟨YV,#[.agg (.int .i64 ((i-12:Nat):Int)::T4 (Qb W ((i-12:Nat):Int) c)).toArray],?_,?_⟩
  ·intro w;exact zw4 W c ((i-12:Nat):Int) w
  ·intro bs w;exact zx8 (x:=((i-12:Nat):Int)) (s:=Qb W ((i-12:Nat):Int) c)
def Al{x:Int}:PX bs UC #[I x] w (.bool false):=v9 x λwr hx=>by
 show Value.bool (x != x)=_;simp
def zna(x y:Int):Int:=if x<y then -1 else if x>y then 1 else 0
def zg7{x y:Int}:PX bs VD #[I x,I y] w (I (zna x y)):=FV x y λwr hx=>by
 refine⟨_,Al,_,Al,λg=>(by cases g),λ_=>⟨λg=>(by cases g),λ_=>⟨λg=>?_,λg=>⟨λg2=>?_,λg2=>?_⟩⟩⟩⟩
 ·unfold zna;rw[C' (Ot g)]
 ·unfold zna;rw[B' (Ou g),C' (Ot g2)]
 ·unfold zna;rw[B' (Ou g),B' (Ou g2)]
def znb{x y:Int}:zna x y<0↔x<y:=by
 unfold zna;split
 ·rename_i h;exact⟨λ_=>h,λ_=>by decide⟩
 ·rename_i h
  split <;> exact⟨λhc=>by omega,λhc=>Ir hc h⟩
def zx7{c:Int}{i j:Nat}:PX bs Yx #[zix W c i,zix W c j] w (I (zna (S9 W c i) (S9 W c j))):=by
 refine L7 λwr0 hx0=>Ea (zix W c i) (zix W c j) (R:=λv w'=>v=I (zna (S9 W c i) (S9 W c j))/\Q0 [] wr0 w') ?_
 intro wr hx hs;obtain⟨F,aa,h1,h2⟩:=zyn (W:=W) c i;obtain⟨F',aa',h1',h2'⟩:=zyn (W:=W) c j;exact⟨F,aa,h1 wr,(h2 [] wr wr (Q0.refl _ _)).mono λe w1 ⟨he,Sn⟩=>⟨_,he,Xj,λR6 dY _=>⟨F',aa',h1' R6,(h2' [] R6 R6 (Q0.refl _ _)).mono λe w2 ⟨he,Rg⟩=>⟨_,he,Xj,_,zg7,λR7 SX=>⟨rfl,((((hx.trans Sn).trans dY).trans Rg)).trans SX⟩⟩⟩⟩⟩
def zur{c:Int}{L:List Nat}{o:OA}{cap:Nat}(h:Rd (zk9 W c) 1 [] w o (L.map some))(hl:1<=L.length)(hl2:L.length<=100) :
  Cz ZE #[.slice o L.length cap,.func (.func Yx) #[] #[]] w λe w'=>e=.returned (zix W c (Er (S9 W c) L).toNat)/\Q0 [] w w':=by
 refine(JV o L.length cap (.func Yx) #[] #[] (R:=λv w'=>v=zix W c (Er (S9 W c) L).toNat/\Q0 [] w w') ?_).mono λe w' ⟨v,he,hv,h1⟩=>⟨by rw[he,hv],h1⟩
 have hlm:((L.map some).length:Int)=(L.length:Int):=Qs
 have cell:∀{w1:Wo} {k:Nat},Q0 [] w w1->k<L.length->Q1 [] w1 o (Int.toNat (k:Int)*1) [zix W c (gi L (k:Int))]:=λ{w1 k} hx hk=>by
  have:=(h.ext hx) (k:Int) Qo Qo
  rwa[z35 some L Qo Qo] at this
 have ix:∀{k:Nat},k<L.length->Ix o L.length (k:Int):=λ{k} hk=>by
  have:=h.ix (z3x W c) (i:=(k:Int)) Qo Qo
  rwa[List.length_map] at this
 have take:∀{k:Nat},k<L.length->L.take (k+1)=L.take k++[gi L (k:Int)]:=λ{k} hk=>by
  rw[List.take_succ_eq_append_getElem hk,Jq hk]
 refine⟨λg=>by have:=Ot g;omega,λ_=>⟨ix (k:=0) Qo,_,cell (k:=0) (Q0.refl _ _) Qo,?_⟩⟩;refine⟨λvs w1=>∃k:Nat,vs=[zix W c (Er (S9 W c) (L.take k)).toNat,I (k:Int)]/\1<=k/\k<=L.length/\Q0 [] w w1,Zp L.length 1,λwr hx _=>⟨1,?_,Qo,Qo,hx⟩,?_⟩
 ·rw[take (k:=0) Qo,List.take_zero,FR];rw[C' (by rfl)];simp
 rintro mv x w1 eR ⟨k,he,hk1,hk,hX⟩;simp only[I4,I5,and_true] at he;obtain⟨rfl,_,rfl⟩:=he;refine⟨λIV=>?_,λRW wr hx=>⟨?_,hX.trans hx⟩⟩
 ·have IV:=Ot IV;have vE:k<L.length:=Qo
  have eO:L.take k≠[]:=λe=>by
   have h0:(L.take k).length=0:=by rw[e];rfl
   rw[List.length_take] at h0;omega
  have hmn:=zsx (S9 W c) (L.take k) eO;refine⟨ix vE,_,cell hX vE,λR6 Sn We=>.inl ⟨Yx,#[zix W c (gi L (k:Int)),zix W c (Er (S9 W c) (L.take k)).toNat],by rfl,(zx7 (bs:=[]) R6 (Q0.refl _ _)).mono λe w2 ⟨he,Rg⟩=>⟨_,he,Xj,λg=>⟨ix vE,_,cell ((hX.trans Sn).trans Rg) vE,⟨Qo,Qo⟩,λR7 Rl _=>⟨⟨k+1,?_,Qo,Qo,((hX.trans Sn).trans Rg).trans Rl⟩,Z6 (k:=k) rfl rfl vE⟩⟩,λg=>⟨⟨Qo,Qo⟩,λRD Rl _=>⟨⟨k+1,?_,Qo,Qo,((hX.trans Sn).trans Rg).trans Rl⟩,Z6 (k:=k) rfl rfl vE⟩⟩⟩⟩⟩
  ·have g:=znb.1 (Ot g);rw[take vE,FR,C' (by rw[Ih g,Bool.or_true]),Ig];simp
  ·have g:=Ou g;have g:¬S9 W c (gi L (k:Int))<S9 W c (Er (S9 W c) (L.take k)).toNat:=λhc=>g (znb.2 hc)
   rw[take vE,FR,B' (by rw[decide_eq_false g,decide_eq_false (show ¬Er (S9 W c) (L.take k)<0 by omega)];decide)];simp
 ·have RW:=Ou RW;have:k=L.length:=Qo;subst this;rw[List.take_length]
def z2k(W:Q7)(i:Int)(w:Wo):(Instr.typeAssert (zxv W i) Zt XH true).run Tryz.prog w=.ok (.tuple #[.agg (I i::X4 (Q8 W i)).toArray,.bool true]) w:=Qk
def zzu(W:Q7)(c i:Int)(w:Wo):(Instr.typeAssert (zum W c i) Zt XH true).run Tryz.prog w=.ok (.tuple #[.agg (I 0::X4 T3).toArray,.bool false]) w:=Qk
def zzt(W:Q7)(c i:Int)(w:Wo):(Instr.typeAssert (zum W c i) Zt J8 true).run Tryz.prog w=.ok (.tuple #[.agg (I i::T4 (Qb W i c)).toArray,.bool true]) w:=Qk
def znz{c:Int}(h:Ph bs w p W m)(ha:WA W)(tU : -1<=(gi W.IF c).cur)(c0:0<=c)(c1:c<(W.IF.length:Int)):PX bs Td #[.agg #[.pointer p,I c]] w (I (if (gi W.IF c).up=true then Qe W c else -1)):=by
 refine L7 λwr0 hx0=>BY p c (R:=λv w'=>v=I (if (gi W.IF c).up=true then Qe W c else -1)/\Q0 [] wr0 w') ?_
 have h:=(h.ext hx0).less (cs:=[]) Qs;have cZ:=ha.gl;have cc:=h.rd.c c c0 c1;have sm:=MH (n:=Int.toNat c*5) cc;intro b hb;refine⟨m.cO.map (λa=>a.add (Int.toNat c*5)),by exact VR h c0 c1,sm,_,JG cc (j:=0) rfl,λg wr hx=>⟨?_,hx⟩,λg=>⟨sm,_,JG cc (j:=1) rfl,λ_=>sm,_,λ_=>JG cc (j:=2) rfl,λg2=>⟨sm,_,JG cc (j:=1) rfl,λwr hx=>⟨?_,hx⟩⟩,λg2=>?_⟩⟩
 ·rw[B' (by simpa using g)]
 ·have gu:(gi W.IF c).up:=by simpa using g
  simp only[A',It,Ij] at g2;rw[C' gu];unfold Qe;rw[C' ⟨Qo,g2.2⟩]
 have gu:(gi W.IF c).up:=by simpa using g
 have hpk:Qe W c=Pb W 0 c:=by
  unfold Qe;rw[B'];rintro⟨e1,e2⟩;rw[It.2 (show (gi W.IF c).cur≠-1 by omega),Ih e2] at g2;cases g2
 rw[C' gu,hpk];refine⟨λvs w1=>∃x:Int,vs=[I x]/\Q6 W.IE x/\Pb W x c=Pb W 0 c/\Sc wr0 [b] w1,λvs _=>(3-dep 3 W.IE (Y4 0 vs)).toNat,λwr hx _=>⟨0,rfl,ha.root,rfl,⟨hx,by simpa using hb⟩⟩,?_⟩;rintro x w1 eR ⟨x',he,hux,hI,s1⟩ RD Rl jS;simp only[I4,I5,true_and,and_true] at he;subst he;have s3:=s1.step Rl;have hp3:Ph [] RD p W m:=(h.sc s3).less Qs;have vM:=HO ha hux (c:=c);have Bq9:Er (S9 W c) (VT W x c 20)=QG W x c:=He _ _ _;refine(zdn hp3 ha c0 c1 rfl).mono λe w4 ⟨o,cap,he,hO,W8⟩=>⟨_,_,_,he,Qg W8 jS,λq RN Sx=>⟨?_,((s3.R5 W8).step Sx).ext⟩,λq S5 Sx gQ=>?_⟩
 ·have hn : VT W x c 20 = [] := List.eq_nil_of_length_eq_zero (by have:(((VT W x c 20).length:Nat):Int)=0:=by simpa using q
                                                                  omega)
  have:QG W x c = -1:=by rw[<-Bq9,hn];rfl
  rw[<-hI,vM,C' Qo]
 have eO:VT W x c 20≠[]:=λe=>by rw[e] at q;simp at q
 have hlen:1<=(VT W x c 20).length:=by
  rcases Nat.eq_zero_or_pos (VT W x c 20).length with h0|h0
  ·exact Ir (List.eq_nil_of_length_eq_zero h0) eO
  ·exact h0
 have hF:0<=QG W x c:=by rw[<-Bq9];exact zsx _ _ eO
 have s5:=(s3.R5 W8).step Sx;have hO5:=(Ob.of hO jS).step Sx;have DO5:=N9 (Sf W x c) 20;refine(zur (hO5.rd0 (Ee W c).len) hlen (by unfold VT;omega)).mono λe w6 ⟨he,bM⟩=>⟨_,he,Qg bM gQ,?_⟩
 rw[Bq9]
 by_cases h12:QG W x c<12
 ·have hi:(QG W x c).toNat<12:=Qo;rw[zxx hi];refine⟨_,_,_,_,_,_,_,_,_,_,_,λwq=>z2k W _ wq,λ_ b1 dG Su gL=>⟨?_,((s5.R5 bM).step gL).ext⟩,λg=>by cases g⟩;rw[<-hI,vM,B' Qo,C' h12,show (((QG W x c).toNat:Nat):Int)=QG W x c by omega]
 ·have e:(QG W x c).toNat=12+((QG W x c).toNat-12):=Qo;rw[e,zxw];have ei:(((QG W x c).toNat-12:Nat):Int)=QG W x c-12:=Qo;obtain⟨k1,k2,k3,_⟩:=KJ ha hux (c:=c) Qo;have hdk:=Lv ha k1;rw[ei];refine⟨_,_,_,_,_,_,_,_,_,_,_,λwq=>zzu W c _ wq,λg=>(by cases g),λ_=>⟨_,_,_,_,_,_,_,λwq=>zzt W c _ wq,λ_ b2 cH SA gL _=>⟨⟨QG W x c-12,rfl,k1,?_,(s5.R5 bM).step gL⟩,?_⟩,λg=>by cases g⟩⟩
  ·rw[<-hI,vM,B' Qo,B' h12]
  ·show (3-dep 3 W.IE (QG W x c-12)).toNat<(3-dep 3 W.IE x).toNat;omega
end
section
variable {base pb:Nat}{W:Q7}{m:MW}{w:Wo}
def ztu(base pb b:Nat)(w0:Wo)(m:MW)(c n:Int)(W:Q7)(f:Nat)(vs:List Va)(w2:Wo):Prop:=
 ∃(V:Q7) (left:Int),vs=[I left]/\Mp base pb [b] w0 m w2 V m/\D5 f c W V left/\Hq c f V left=YA W c n
def zdm{c n:Int}{tf:Fn}{ta tk0:Array Va}(h:PW base pb w W m)(hI0:D5 400 c W W n)(ht:∀(t u:Int) (w1:Wo),O1 Tryz.prog (.func tf ta tk0) [I t,I u] w1 λe w2=>e=.returned (.tuple #[])/\Q0 [] w1 w2) :
  Cz Ol #[.agg #[.pointer (pA pb),I c],I n,.func tf ta tk0] w λe w'=>e=.returned (.tuple #[])/\Mp base pb [] w m w' (YA W c n) m:=by
 refine(Cu (pA pb) c n tf ta tk0 (R:=λv w'=>v=.tuple #[]/\Mp base pb [] w m w' (YA W c n) m) ?_).mono λe w' ⟨v,he,hv,h3⟩=>⟨by rw[he,hv],h3⟩
 intro b hb;have c0:=hI0.c0;have vM:UQ=173430457200:=rfl;have hlg:Qi=34686091440:=rfl;have hh0:(0:Int)<=Qn:=Qd;have hM0:=Mp.start h;have hp0:=hM0.wpt;refine⟨_,VR hp0 c0 hI0.c1,λvs w2=>∃f,ztu base pb b w m c n W f vs w2,λvs w2=>zhq λf=>ztu base pb b w m c n W f vs w2,λwr hx _=>⟨400,W,n,rfl,(hM0.add hb).R5 hx,hI0,rfl⟩,?_⟩;intro left w2 We hinv;obtain⟨f0,hf0⟩:∃f0,f0=zhq λf=>ztu base pb b w m c n W f [I left] w2:=⟨_,rfl⟩
 have hS:=zi9 hinv;simp only[<-hf0] at hS ⊢;clear hf0 hinv;obtain⟨V,Cn6,hv,WM,hI,hN⟩:=hS;simp only[I4,I5,true_and,and_true] at hv;subst hv;obtain⟨f,rfl⟩:=zot hI;have AM3:∀{vs:List Va} {w9:Wo},ztu base pb b w m c n W f vs w9->(∃f,ztu base pb b w m c n W f vs w9)/\(zhq λf=>ztu base pb b w m c n W f vs w9)<f+1:=λhh=>⟨⟨f,hh⟩,Nat.lt_succ_of_le (zss hh)⟩
 have eQ:=WM.wpt;have hf:=hI.f2;have hKu:=TH hf;have hSu:=zbc hf;have rR:=hI.c1;have hs:=MH (n:=Int.toNat c*5) (eQ.rd.c c c0 rR);refine⟨λIV=>?_,λRW=>?_⟩
 ·have IV:=Ot IV;have hpk:=znz eQ hI.sw.a (hI.sw.cu c c0 rR).1 c0 rR;rw[C' hI.up] at hpk;refine⟨_,hpk,λgp=>?_,λgp=>?_⟩
  ·have gp:=Ot gp;rw[L9 Qo gp] at hN;obtain⟨i1,i2,i3,i4⟩:=zdc hI;have e1:Zj 8 base _ (RM V c (Jf V c left)) m:=WM.own.AP1 c0 rR (j:=4) (vs:=[I ((gi V.IF c).idle+left)]) (x:=Jf V c left) rfl Qs;have jC:=WM.Sv e1 Du (Fu _ _ _ _);refine⟨hs,_,JG (eQ.rd.c c c0 rR) (j:=4) rfl,⟨Qo,Qo⟩,hs,PP.2 (zpg WM.own WM.nb c0 rR Qd),?_⟩;rw[TJ];intro R6 Sn eR;have dW:=jC.step Sn;refine I3 (UM dW.pw c0 (by show c<((V.IF.set c.toNat (Jf V c left)).length:Int);rw[E'];exact rR)) ?_;rintro e3 Si ⟨gZ,fU⟩;refine⟨gZ,dW.kept fU eR,λRN W8 dX=>?_⟩;have tV:=(dW.call fU eR).step W8;refine I3 (JO tV.pw i1 Qo Qo) ?_;rintro e5 eD ⟨he5,hy5⟩;rw[hN] at hy5;exact⟨he5,tV.kept hy5 dX,λSu bM=>⟨by trivial,((tV.call hy5 dX).step bM).close⟩⟩
  ·have gp:=Ou gp;rw[Lc Qo gp] at hN;have hR:=LW hI IV gp;have t0:=hR.line.t0;have t1:=hR.line.t1;obtain⟨q1,q2,q3,q4,q5,q6⟩:=G2 hI.sw hI.rb c0 rR hI.up t0 t1;have eC:(ZC V c).1.IF=(QI V c (Qe V c)).IF:=hR.tk.o.c;have lT:(ZC V c).1.IF.length=V.IF.length:=by rw[eC];exact q6
   have cT:c<((ZC V c).1.IF.length:Int):=by rw[lT];exact rR
   have rT:RB (B9 (f+1)) (ZC V c).1:=hR.r1.sum hR.tk.su hR.tk.o.g (by rw[eC]);have eT:(ZC V c).1.IJ=V.IJ:=hR.tk.o.t;have eG:QZ V.IE (ZC V c).1.IE:=hR.tk.o.g;have pT:Z7 (ZC V c).1 (Qe V c)=Z7 V (Qe V c):=zba eT eG _;have uT:Q6 (ZC V c).1.IE (Q8 (ZC V c).1 (Qe V c)).II:=by rw[eG.cD,Xf eT];exact hR.us
   have upT:(gi (ZC V c).1.IF c).up:=by rw[eC];exact q3
   have AZ0:(gi (ZC V c).1.IF c).Wh<50:=by rw[eC];exact hR.Wh
   have hnx:=hR.nx;have hl1:=hI.l1;have hTk:Br c (Z7 V (Qe V c)) (QI V c (Qe V c))=ZC V c:=rfl;have hmE:MU (ZC V c).1 c (Z7 V (Qe V c)) left=Yz V c left:=rfl;refine⟨hs,_,JG (eQ.rd.c c c0 rR) (j:=1) rfl,λ_=>hs,_,λ_=>JG (eQ.rd.c c c0 rR) (j:=2) rfl,λg5=>?_,λg5 RN W8 dX=>?_⟩
   ·have g5:Qe V c≠(gi V.IF c).cur\/(gi V.IF c).Wh>=50:=by simpa using g5
    have hS:ZX V c (Qe V c)={ gi V.IF c with cur:=Qe V c,Wh:=0 }:=by unfold ZX;rw[C' g5]
    have e1:=WM.own.AP1 c0 rR (j:=1) (vs:=[I (Qe V c)]) (x:={ gi V.IF c with cur:=Qe V c }) rfl Qs;have C92:(V.IF.set c.toNat { gi V.IF c with cur:=Qe V c }).length=V.IF.length:=E';have hg1:gi (V.IF.set c.toNat { gi V.IF c with cur:=Qe V c }) c={ gi V.IF c with cur:=Qe V c }:=(QE _ _ c0 rR c0).trans (C' rfl);have e2:=e1.AP1 c0 (by simpa using rR) (j:=2) (vs:=[I 0]) (x:=ZX V c (Qe V c)) (by rw[hg1,hS];rfl) Qs
    have hW2:({ V with IF:=(V.IF.set c.toNat { gi V.IF c with cur:=Qe V c }).set c.toNat (ZX V c (Qe V c)) }:Q7)=QI V c (Qe V c):=by
     unfold QI RM;rw[List.set_set]
    have jC:Mp base pb [b] w m _ ({ V with IF:=V.IF.set c.toNat { gi V.IF c with cur:=Qe V c } }:Q7) m:=WM.Sv e1 Du (by simp[Qa]);have Cd5:Mp base pb [b] w m _ ({ V with IF:=(V.IF.set c.toNat { gi V.IF c with cur:=Qe V c }).set c.toNat (ZX V c (Qe V c)) }:Q7) m:=jC.Sv e2 Du (by simp[Qa]);rw[hW2] at Cd5;refine⟨hs,PP.2 (zpg WM.own WM.nb c0 rR Qd),hs,?_⟩;rw[TJ];refine⟨PP.2 (zpg e1 WM.nb c0 (by show c<((V.IF.set c.toNat { gi V.IF c with cur:=Qe V c }).length:Int);rw[C92];exact rR) Qd),?_⟩;rw[TJ];intro RN W8 dX;have dW:=Cd5.step W8;refine I3 (KR (t:=Qe V c) dW.pw q1 c0 (by rw[q6];exact rR) t0 t1 hR.us hR.dr) ?_;rintro e3 Si ⟨gZ,fU⟩;have hpS:Z7 (QI V c (Qe V c)) (Qe V c)=Z7 V (Qe V c):=rfl;rw[hpS,hTk] at gZ fU;have tV:=dW.call fU dX;refine⟨_,gZ,dW.kept fU dX,λgt S5 Sx gQ=>?_,λgt S5 Sx gQ=>?_⟩
    ·have gt:¬(ZC V c).2:=by simpa using gt
     have hRW:O0 V c left=(Qf (Rb (ZC V c).1 c),left):=by unfold O0;rw[B' gt]
     rw[hRW] at hnx hN;have pY:=tV.step Sx;refine I3 (UM pY.pw c0 cT) ?_;rintro e6 gB ⟨he6,hy6⟩;refine⟨he6,pY.kept hy6 gQ,λSA gL hs7=>?_⟩;have rU:=(pY.call hy6 gQ).step gL;refine I3 (JO rU.pw (hR.tk.sw.Rb c0 cT) Qo Qo) ?_;rintro e8 jQ ⟨he8,hy8⟩;generalize Qf (Rb (ZC V c).1 c)=V9 at hy8 hnx hN;exact⟨he8,rU.kept hy8 hs7,λWK qU _=>AM3 ⟨V9,left,rfl,(rU.call hy8 hs7).step qU,hnx,hN⟩⟩
    ·have gt:(ZC V c).2:=by simpa using gt
     have hRW:O0 V c left=(Qf (JU (ZC V c).1 c (Qe V c) (Yz V c left)),left-Yz V c left):=by unfold O0;rw[C' gt]
     rw[hRW] at hnx hN;obtain⟨m1,m2'⟩:=hR.m gt;have sC:=(hR.ch gt).1;have pY:=tV.step Sx;have hcG:=FD (t:=Qe V c) (left:=left) pY.pw hR.tk.sw rT ⟨Qo,Qo⟩ ⟨Qo,Qo⟩ c0 cT upT AZ0 t0 t1 uT (by rw[pT,hmE];omega) (by rw[pT,hmE];omega);rw[pT,hmE] at hcG;refine I3 hcG ?_;rintro e6 gB ⟨he6,hy6⟩;refine⟨_,he6,pY.kept hy6 gQ,λSA gL hs7=>?_⟩;have rU:=(pY.call hy6 gQ).step gL;refine O1.mono (ht _ _ SA) ?_;rintro e8 jQ ⟨he8,hy8⟩;refine⟨he8,Qg hy8 hs7,λWK qU hs9=>?_⟩;have hM9:=(rU.R5 hy8).step qU;refine I3 (JO hM9.pw sC Qo Qo) ?_;rintro e10 fN ⟨Bq2,BY4⟩;generalize Qf (JU (ZC V c).1 c (Qe V c) (Yz V c left))=V9 at BY4 hnx hN;exact⟨Bq2,hM9.kept BY4 hs9,⟨by show _<=left-Yz V c left;omega,by show left-Yz V c left<=_;omega⟩,λSm wQ _=>AM3 ⟨V9,left-Yz V c left,rfl,(hM9.call BY4 hs9).step wQ,hnx,hN⟩⟩
   ·have g5:¬(Qe V c≠(gi V.IF c).cur\/(gi V.IF c).Wh>=50):=by simpa using g5
    have hS:QI V c (Qe V c)=V:=by
     unfold QI ZX RM;rw[B' g5,zjt c0 rR]
    have dW:Mp base pb [b] w m RN (QI V c (Qe V c)) m:=by rw[hS];exact WM.step W8
    refine I3 (KR (t:=Qe V c) dW.pw q1 c0 (by rw[q6];exact rR) t0 t1 hR.us hR.dr) ?_;rintro e3 Si ⟨gZ,fU⟩;have hpS:Z7 (QI V c (Qe V c)) (Qe V c)=Z7 V (Qe V c):=rfl;rw[hpS,hTk] at gZ fU;have tV:=dW.call fU dX;refine⟨_,gZ,dW.kept fU dX,λgt S5 Sx gQ=>?_,λgt S5 Sx gQ=>?_⟩
    ·have gt:¬(ZC V c).2:=by simpa using gt
     have hRW:O0 V c left=(Qf (Rb (ZC V c).1 c),left):=by unfold O0;rw[B' gt]
     rw[hRW] at hnx hN;have pY:=tV.step Sx;refine I3 (UM pY.pw c0 cT) ?_;rintro e6 gB ⟨he6,hy6⟩;refine⟨he6,pY.kept hy6 gQ,λSA gL hs7=>?_⟩;have rU:=(pY.call hy6 gQ).step gL;refine I3 (JO rU.pw (hR.tk.sw.Rb c0 cT) Qo Qo) ?_;rintro e8 jQ ⟨he8,hy8⟩;generalize Qf (Rb (ZC V c).1 c)=V9 at hy8 hnx hN;exact⟨he8,rU.kept hy8 hs7,λWK qU _=>AM3 ⟨V9,left,rfl,(rU.call hy8 hs7).step qU,hnx,hN⟩⟩
    ·have gt:(ZC V c).2:=by simpa using gt
     have hRW:O0 V c left=(Qf (JU (ZC V c).1 c (Qe V c) (Yz V c left)),left-Yz V c left):=by unfold O0;rw[C' gt]
     rw[hRW] at hnx hN;obtain⟨m1,m2'⟩:=hR.m gt;have sC:=(hR.ch gt).1;have pY:=tV.step Sx;have hcG:=FD (t:=Qe V c) (left:=left) pY.pw hR.tk.sw rT ⟨Qo,Qo⟩ ⟨Qo,Qo⟩ c0 cT upT AZ0 t0 t1 uT (by rw[pT,hmE];omega) (by rw[pT,hmE];omega);rw[pT,hmE] at hcG;refine I3 hcG ?_;rintro e6 gB ⟨he6,hy6⟩;refine⟨_,he6,pY.kept hy6 gQ,λSA gL hs7=>?_⟩;have rU:=(pY.call hy6 gQ).step gL;refine O1.mono (ht _ _ SA) ?_;rintro e8 jQ ⟨he8,hy8⟩;refine⟨he8,Qg hy8 hs7,λWK qU hs9=>?_⟩;have hM9:=(rU.R5 hy8).step qU;refine I3 (JO hM9.pw sC Qo Qo) ?_;rintro e10 fN ⟨Bq2,BY4⟩;generalize Qf (JU (ZC V c).1 c (Qe V c) (Yz V c left))=V9 at BY4 hnx hN;exact⟨Bq2,hM9.kept BY4 hs9,⟨by show _<=left-Yz V c left;omega,by show left-Yz V c left<=_;omega⟩,λSm wQ _=>AM3 ⟨V9,left-Yz V c left,rfl,(hM9.call BY4 hs9).step wQ,hnx,hN⟩⟩
 ·have RW:=Ou RW;rw[Hr Qo] at hN;intro RN W8 dX;have dW:=WM.step W8;refine I3 (JO dW.pw hI.sw Qo Qo) ?_;rintro e5 eD ⟨he5,hy5⟩;rw[hN] at hy5;exact⟨he5,dW.kept hy5 dX,λSu bM=>⟨by trivial,((dW.call hy5 dX).step bM).close⟩⟩
def zlo{cap cap1 By3:OA}{c n:Int}{tf:Fn}{ta tk0:Array Va}(h:PW base pb w W m)(hW:Qp W)(h0:Q1 [] w cap 0 [I n])(h1:Q1 [] w cap1 0 [I c])(h2:Q1 [] w By3 0 [.func tf ta tk0])(ht:∀(t u:Int) (w1:Wo),O1 Tryz.prog (.func tf ta tk0) [I t,I u] w1 λe w2=>e=.returned (.tuple #[])/\Q0 [] w1 w2) :
  Cz Jy #[.pointer (pA pb),.pointer cap,.pointer cap1,.pointer By3] w λe w2=>(Yl W c n≠0/\e=.returned (.iface Y2 (.agg #[I (Yl W c n)]))/\Q0 [] w w2)\/(Yl W c n=0/\e=.returned .nilIface/\∃m2,zbh base pb [] w m w2 (YA W c n) m2):=by
 have wp:=Qm.1 hW;have hM:=Mp.start h;have hp:=hM.wpt;have hm0:=ZW;have hc2:=wp.a.c2
 refine(Fj (pA pb) cap cap1 By3 (R:=λv w2=>(Yl W c n≠0/\v=.iface Y2 (.agg #[I (Yl W c n)])/\Q0 [] w w2)\/(Yl W c n=0/\v=.nilIface/\∃m2,zbh base pb [] w m w2 (YA W c n) m2)) ?_).mono λe w' ⟨v,he,h3⟩=>by
  rw[he];rcases h3 with ⟨a,b,c⟩|⟨a,b,c⟩
  ·exact .inl ⟨a,by rw[b],c⟩
  ·exact .inr ⟨a,by rw[b],c⟩
 refine⟨n,h0,_,QK,c,λ_=>h1,X5 W c,λ_=>by exact CR hp Qo,λg wr hx=>.inl ?_,λg=>?_⟩
 ·have hb:Yl W c n=1:=by
   unfold Yl;rw[C']
   simpa using g
  rw[hb];exact⟨Qd,rfl,hx⟩
 have g:YT n 1 100/\X5 W c:=by simpa using g
 have hn1:¬(YT n 1 100=false\/X5 W c=false):=by rw[g.1,g.2];simp
 obtain⟨c0,c1⟩:=UA g.2;refine⟨hp.some,_,_,_,hp.IF,c,h1,hp.rd.c.ix Y9 c0 c1,_,hp.rd.c.f c0 c1 (j:=0) rfl,λg2 wr hx=>.inl ?_,λg2=>⟨_,zll hp wp.a,λg3 wr hx=>.inl ?_,λg3=>?_⟩⟩
 ·have hb:Yl W c n=6:=by unfold Yl;rw[B' hn1,C' (by simpa using g2)]
  rw[hb];exact⟨Qd,rfl,hx⟩
 ·have g2:(gi W.IF c).up:=by simpa using g2
  have hb:Yl W c n=10:=by unfold Yl;rw[B' hn1,B' (by rw[g2];decide),C' (by simpa using g3)]
  rw[hb];exact⟨Qd,rfl,hx⟩
 have g2:(gi W.IF c).up:=by simpa using g2
 have g3:QO W:=by simpa using g3
 have hb:Yl W c n=0:=by unfold Yl;rw[B' hn1,B' (by rw[g2];decide),B' (by rw[g3];decide)]
 refine⟨c,h1,_,_,Uq,n,h0,_,_,_,h2,λRD Rl _=>?_⟩;have jC:=hM.nil Rl;refine I3 (zdm jC.pw (MC hW hb).2.2.2.2 ht) ?_;rintro e wv ⟨he,hy⟩;exact⟨he,Xj,λRN W8=>.inr ⟨hb,rfl,m,((jC.call hy Qs).nil W8).done⟩⟩
def z1o{t u:Int}{bs:List Nat}:PX bs Xw #[I t,I u] w (.tuple #[]):=FW t u λ_ _=>rfl
def z4d(t u:Int)(w1:Wo):O1 Tryz.prog (.func (.func Xw) #[] #[]) [I t,I u] w1 λe w2=>e=.returned (.tuple #[])/\Q0 [] w1 w2:=
 .inl ⟨Xw,_,rfl,(z1o (bs:=[]) w1 (Q0.refl _ _)).mono λe w2 ⟨he,hx⟩=>⟨he,hx⟩⟩
def zqj{c n:Int}{tf:Fn}{ta tk0:Array Va}(h:J6 [] w W m)(hl:UV W)(hg:MX w)(ht:∀(t u:Int) (w1:Wo),O1 Tryz.prog (.func tf ta tk0) [I t,I u] w1 λe w2=>e=.returned (.tuple #[])/\Q0 [] w1 w2) :
  Cz Om #[.agg (Qa W m).toArray,I c,I n,.func tf ta tk0] w λe w'=>∃v,e=.returned v/\QV (Y7 W (Yl W c n) (YA W c n)) w v w':=by
 refine Cv _ _ _ _ _ _ _ _ _ _ c n tf ta tk0 (R:=λv w'=>QV (Y7 W (Yl W c n) (YA W c n)) w v w') ?_;intro x hx b1 wb Sn dG hc1 hn1 b2 wb1 Rg cH hc2 hn2 b3 wb2 Rl wM hc3 hn3 b4 hb4 wr W8 hs;have hX1:Q0 [] w wb1:=Sn.fresh Rg λy hy=>.inl (zlr hy hx)
 have hX2:Q0 [] w wb2:=hX1.fresh Rl λy hy=>.inl (zlr hy hx)
 have hX:Q0 [] w wr:=hX2.fresh W8 λy hy=>.inl (zlr hy hx)
 have k1:=QR (QR (QR hc1 Rg hn1) Rl hn1) W8 hn1;have k2:=QR (QR hc2 Rl hn2) W8 hn2;have k3:=QR hc3 W8 hn3;have cell:∀{b:Nat} {v:Va} {t:TypeId} {w1:Wo},wr.heap[b]? = some (Obj.cells ([v]:List Va).toArray t (0,0))->Q0 [] wr w1->Q1 [] w1 (some ⟨b,0,none⟩) 0 [v]:=λhb hx=>VX (QR hb hx Qs) Qs (k0:=0) rfl
 refine I3 (zut (bar:=Yl W c n) (W':=YA W c n) (h.ext hX) hl (hg.ext hX) λw1 pb m1 hW fU hpb hP=>.inl ⟨Jy,_,rfl,zlo hP hW (cell k2 fU) (cell k1 fU) (cell k3 fU) ht⟩) ?_;rintro e wv ⟨v,he,n',m',hv,hM,hy⟩;subst hv;refine⟨_,_,_,_,_,_,_,_,_,_,_,he,Qg hy hs,λR6 Sx=>⟨n',m',rfl,(hM.ext Sx λy hy hm=>?_).mono hX.size,(hX.trans hy).fresh Sx λy hm=>?_⟩⟩
 ·have:=(hM.lt y hy).1;have:=hs y hm;omega
 ·simp only[Ii,List.not_mem_nil,or_false] at hm;rcases hm with rfl|rfl
  ·exact .inl hx
  ·exact .inl (IB hX2.size hb4)
def Vs{c n:Int}(h:J6 [] w W m)(hl:UV W)(hg:MX w) :
  Cz Xq #[.agg (Qa W m).toArray,I c,I n] w λe w'=>∃v,e=.returned v/\QV (Y7 W (Yl W c n) (YA W c n)) w v w':=by
 refine Cs _ _ _ _ _ _ _ _ _ _ c n (R:=λv w'=>QV (Y7 W (Yl W c n) (YA W c n)) w v w') ?_;intro x hx b1 dG wr Sn hs;refine I3 (zqj (c:=c) (n:=n) (h.ext Sn) hl (hg.ext Sn) z4d) ?_;rintro e wv ⟨v,he,n',m',hv,hM,hy⟩;subst hv;refine⟨_,_,_,_,_,_,_,_,_,_,_,he,Qg hy hs,λR6 W8=>⟨n',m',rfl,(hM.ext W8 λy hy hm=>?_).mono Sn.size,(Sn.trans hy).fresh W8 λy hm=>.inl (YF hx dG y hm)⟩⟩;have:=(hM.lt y hy).1;have:=hs y hm;omega
end
def zp7{W:Q7}{g c:Int}(h:¬QG W g c<0):Sw W g c 20/\S3 W g c 20=S9 W c (QG W g c).toNat:=by
 unfold Sw S3;unfold QG at h ⊢;rw[B' h];exact⟨Ih Qo,rfl⟩
def zyu{W:Q7}(ha:WA W)(fl:z6n W){c:Int}(c0:0<=c)(c1:c<(W.IF.length:Int))(f:Nat):∀g:Int,Q6 W.IE g->(4-dep 3 W.IE g).toNat=f->(∀x∈QM W.IE g,(Qb W x c).v<=(Qb W (gi W.IE x).IG c).IL)->0<=Pb W g c->
  (Q8 W (Pb W g c)).v<=(Qb W (Q8 W (Pb W g c)).II c).IL/\∀x∈QM W.IE (Q8 W (Pb W g c)).II,(Qb W x c).v<=(Qb W (gi W.IE x).IG c).IL:=by
 induction f with
 |zero=>
  intro g hu hf;have:=Lv ha hu;omega
 |succ f ih=>
  intro g hu hf hp h;rw[HO ha hu] at h ⊢
  by_cases h1:QG W g c<0
  ·rw[C' h1] at h;omega
  ·rw[B' h1] at h ⊢;obtain⟨b1,b2⟩:=zp7 h1;have zE:=fl g c hu c0 c1 b1;rw[b2] at zE
   by_cases h2:QG W g c<12
   ·rw[C' h2] at h ⊢
    have hm:Sf W g c (QG W g c).toNat:=by
     rcases Zl (Sf W g c) (S9 W c) 20 with ⟨a,_⟩|⟨_,_,a,_⟩
     ·unfold QG at h1;omega
     ·exact a
    rw[Ji Qo] at hm;unfold dU at hm;rw[show (((QG W g c).toNat:Nat):Int)=QG W g c by omega] at hm;simp only[A',Is] at hm;unfold S9 at zE;rw[C' Qo,show (((QG W g c).toNat:Nat):Int)=QG W g c by omega] at zE;rw[show (Q8 W (QG W g c)).II=g from hm.1.2];exact⟨zE,hp⟩
   ·rw[B' h2] at h ⊢;obtain⟨k1,k2,k3,k4⟩:=KJ ha hu (g:=g) (c:=c) Qo
    have hm:Sf W g c (QG W g c).toNat:=by
     rcases Zl (Sf W g c) (S9 W c) 20 with ⟨a,_⟩|⟨_,_,a,_⟩
     ·unfold QG at h1;omega
     ·exact a
    rw[show (QG W g c).toNat=12+(QG W g c-12).toNat by omega,J3] at hm;unfold WV at hm;rw[show (((QG W g c-12).toNat:Nat):Int)=QG W g c-12 by omega] at hm;simp only[A',Is] at hm;unfold S9 at zE;rw[B' Qo,show (((QG W g c).toNat-12:Nat):Int)=QG W g c-12 by omega] at zE;refine ih _ k1 Qo (λx hx=>?_) h;rw[Yg ha.tree k1 k2] at hx;rcases Ii.1 hx with e|e
    ·rw[e,hm.1.2.2];exact zE
    ·rw[hm.1.2.2] at e;exact hp x e
structure z5h (W:Q7) (c t Wh:Int):Prop where
 r0:0<=Wh
 r1:Wh<50
 t1:(Q8 W t).v-(Qb W (Q8 W t).II c).IL<=Z2 Wh (Qh (Q8 W t).nice)
 t2:(Qb W (Q8 W t).II c).IL<=(Q8 W t).v
 p1:∀x∈QM W.IE (Q8 W t).II,(Qb W x c).v-(Qb W (gi W.IE x).IG c).IL<=Z2 Wh (Qb W x c).w
 p2:∀x∈QM W.IE (Q8 W t).II,(Qb W (gi W.IE x).IG c).IL<=(Qb W x c).v
def z0q{W:Q7}(iv:Xk W){c:Int}(c0:0<=c)(c1:c<(W.IF.length:Int))(hl:zm1 W (Qe W c) c)(hp:¬Qe W c<0):z5h W c (Qe W c) (gi (QI W c (Qe W c)).IF c).Wh:=by
 have wp:=iv.wp;have p:=XF wp;have h:=OT p hl.t0 hl.t1 (by rw[hl.st];decide);have e:gi (QI W c (Qe W c)).IF c=ZX W c (Qe W c):=(QE _ _ c0 c1 c0).trans (C' rfl)
 have t2:(Qb W (Q8 W (Qe W c)).II c).IL<=(Q8 W (Qe W c)).v:=by
  have:=(h.f hl.st).1
  rwa[hl.R2] at this
 have p2:∀x∈QM W.IE (Q8 W (Qe W c)).II,(Qb W (gi W.IE x).IG c).IL<=(Qb W x c).v:=λx hx=>by
  obtain⟨xu,xz⟩:=Ys wp.a.tree _ h.g x hx;exact((p.s x c xu c0 c1).st xz (hl.on x hx)).1
 rw[e]
 by_cases hc:(gi W.IF c).cur>=0/\(gi W.IF c).Wh<50
 ·have hpk:Qe W c=(gi W.IF c).cur:=by unfold Qe;rw[C' hc]
  have hs:ZX W c (Qe W c)=gi W.IF c:=by
   unfold ZX;rw[B'];rintro (h|h)
   ·exact h hpk
   ·omega
  rw[hs];have hy:=(p.c c c0 c1).yes hc.1;have hq:=(p.c c c0 c1).q hc.1 (by rw[<-hpk];exact hl.st) (by rw[<-hpk];exact hl.R2);rw[<-hpk] at hq;exact⟨Qo,hc.2,hq.1,t2,λx hx=>(hq.2 x hx).2,p2⟩
 ·have hpk:Qe W c=Pb W 0 c:=by unfold Qe;rw[B' hc]
  have hs:(ZX W c (Qe W c)).Wh=0:=by
   unfold ZX;rw[C']
   by_cases h0:(gi W.IF c).cur>=0
   ·exact .inr Qo
   ·exact .inl Qo
  rw[hs];have hn:=zyu wp.a iv.fl c0 c1 _ 0 wp.a.root rfl (λx hx=>by rw[show QM W.IE 0=[] from Zc _ _] at hx;cases hx) (by rw[<-hpk];omega);rw[<-hpk] at hn;have v0:∀w:Int,0<=Z2 0 w:=λw=>(HD 0 w).1
  refine⟨I2 _,Qd,?_,t2,λx hx=>?_,p2⟩
  ·have:=v0 (Qh (Q8 W (Qe W c)).nice);have:=hn.1;omega
  ·have:=v0 (Qb W x c).w;have:=hn.2 x hx;omega
def zy0{gs:List Zb}(ht:Yh gs):∀g:Int,Q6 gs g->∀x∈QM gs g,dep 3 gs x<=dep 3 gs g:=
 My ht (λx hx=>by rw[show QM gs 0=[] from Zc _ _] at hx;cases hx) λh hu hz ih x hx=>by
  rw[Yg ht hu hz] at hx;rcases Ii.1 hx with e|e
  ·subst e;exact I2 _
  ·obtain⟨_,_,_,d,e1,e2,_⟩:=Y3 ht hu hz;have:=ih x e;omega
def z15{gs:List Zb}(ht:Yh gs):∀g:Int,Q6 gs g->(QM gs g++[0]).Nodup:=
 My ht (by rw[show QM gs 0=[] from Zc _ _];simp) λh hu hz ih=>by
  rw[Yg ht hu hz,List.cons_append,List.nodup_cons];refine⟨λhm=>?_,ih⟩;rcases Im.1 hm with hm|hm
  ·obtain⟨hp,_,_,d,e1,e2,_⟩:=Y3 ht hu hz;have:=zy0 ht _ hp h hm;omega
  ·exact hz (IA.1 hm)
def z0v{W:Q7}{c n g:Int}(cZ:W.IE.length=8)(u0:0<=g)(u1:g<8)(c0:0<=c)(cs:c<((gi W.IE g).IH.length:Int))(i d:Int)(hi:0<=i)(hd:0<=d):Qb (MR W c n g) i d=if g=i/\c=d then GG W c n g else Qb W i d:=by
 rw[<-XS (W:=W) (s:=GG W c n g) u0 Qo c0 cs hi hd];have hl2:g<((TP W c n g).IE.length:Int):=by rw[Lt];omega
 have hl1:g<((R1 (TP W c n g) g (Kk W c n g)).IE.length:Int):=by simp only[R1,E'];rw[Lt];omega
 unfold Qb;show gi (gi (MR W c n g).IE i).IH d=gi (gi (TP W c n g).IE i).IH d;unfold MR RZ;rw[Yt u0 hl1 hi,Yt u0 hl2 hi,Yt u0 hl2 u0,C' rfl];split
 ·rename_i e;subst e;rfl
 ·rfl
def z0w{K S c n:Int}(c0:0<=c)(n0:0<=n)(n1:n<=100):∀(l:List Int) {W:Q7},l.Nodup->SW K W->RB S W->S+100*(l.length:Int)<=100000000000000000->c<(W.IF.length:Int)->(∀g∈l,Q6 W.IE g)->
  ∀i d:Int,0<=i->0<=d->Qb (Gl c n l W) i d=if i∈l/\c=d then GG W c n i else Qb W i d:=by
 intro l
 induction l generalizing K S with
 |nil=>
  intro W _ _ _ _ _ _ i d _ _;rw[B' Qs];rfl
 |cons g l ih=>
  intro W nd sw rb hS c1 hu i d hi hd;rw[List.length_cons] at hS;have hug:=hu g I9;obtain⟨u0,u1,_⟩:=sw.a.u hug;have hsl:=sw.a.sl hug;have h1:=zkq sw rb Qo c0 c1 hug n0 n1;obtain⟨hng,ndl⟩:=List.nodup_cons.1 nd;have e:=z0v (n:=n) sw.a.gl u0 u1 c0 Qo;rw[zcn,ih ndl h1.sw (h1.rb.mono (show S+n<=S+100 by omega)) Qo (by rw[h1.cp];exact c1) (λx hx=>by rw[h1.g.cD];exact hu x (I1 _ hx)) i d hi hd]
  by_cases hil:i∈l
  ·have hgi:g≠i:=λh=>hng (h▸hil)
   by_cases hcd:c=d
   ·rw[C' ⟨hil,hcd⟩,C' ⟨I1 _ hil,hcd⟩];unfold GG;rw[e i c hi c0,B' λh=>hgi h.1]
   ·rw[B' λh=>hcd h.2,B' λh=>hcd h.2,e i d hi hd,B' λh=>hcd h.2]
  ·rw[B' λh=>hil h.1,e i d hi hd]
   by_cases hgi:g=i
   ·subst hgi
    by_cases hcd:c=d
    ·rw[C' ⟨rfl,hcd⟩,C' ⟨I9,hcd⟩]
    ·rw[B' λh=>hcd h.2,B' λh=>hcd h.2]
   ·rw[B' λh=>hgi h.1,B'];rintro⟨hm,_⟩;rcases Ii.1 hm with h|h
    ·exact hgi h.symm
    ·exact hil h
def ztr{a b w:Int}(ha:0<=a)(hb:0<=b)(h:a+b<=149)(w1:1<=w)(w2:w<=20):Z2 (a+b) w=Z2 a w+Z2 b w/\Z2 a w+Z2 b w<=ZN w:=by
 have e1:=zj6 ha hb Qo w1 w2;have e2:=zj6 (a:=a+b) (b:=149-(a+b)) (w:=w) Qo Qo Qo w1 w2;rw[show a+b+(149-(a+b))=149 by omega] at e2;have:=(HD (149-(a+b)) w).1;unfold ZN;omega
structure z6r (V T:Q7) (c t:Int):Prop where
 tk:T.IJ=V.IJ
 g:QZ V.IE T.IE
 s:∀i:Int,0<=i->(gi T.IE i).IH=(gi V.IE i).IH
 cp:∀d:Int,0<=d->gi T.IF d=if c=d then ZX V c t else gi V.IF d
 l:T.IF.length=V.IF.length
def z3o{K S:Int}{V T:Q7}{c t m:Int}(iv:Xk V)(hM:z6r V T c t)(sw:SW K T)(rb:RB S T)(hS:0<=S/\S+500<=100000000000000000)(c0:0<=c)(c1:c<(V.IF.length:Int))(up:(gi V.IF c).up)(t0:0<=t)(t1:t<12)(vM:(Q8 V t).state=1)(rM:(Q8 V t).R2=c)(zD:(ZX V c t).cur=t)(hb:z5h V c t (ZX V c t).Wh)(m0:1<=m)(m1:m<=100):TO (JU T c t m):=by
 have wp:=iv.wp;have p:=XF wp;have hht:=OT p t0 t1 (by rw[vM];decide);have cZ:=wp.a.gl;have qT:=wp.a.t;have c1T:c<(T.IF.length:Int):=by rw[hM.l];exact c1
 have eTc:gi T.IF c=ZX V c t:=(hM.cp c c0).trans (C' rfl);have upT:(gi T.IF c).up:=by rw[eTc];unfold ZX;split <;> exact up
 have AZ0:(gi T.IF c).Wh<50:=by rw[eTc];exact hb.r1
 have hg:Q6 V.IE (Q8 V t).II:=hht.g;have huT:Q6 T.IE (Q8 T t).II:=by rw[hM.g.cD,Xf hM.tk];exact hg
 have pT:Z7 T t=Z7 V t:=zba hM.tk hM.g t;obtain⟨sE,rE,_,_,hlE,_,s1,r1,cp1⟩:=BV sw rb hS.2 c0 c1T upT AZ0 t0 t1 huT Qo m1;obtain⟨pin,B49⟩:=B7 sw.a huT;have hTG:QZ V.IE (JU T c t m).IE:=hM.g.trans cp1.g;have shT:∀i d:Int,0<=i->Qb T i d=Qb V i d:=λi d hi=>by unfold Qb;rw[hM.s i hi]
 have hnd:(Z7 T t).Nodup:=by rw[pT];exact z15 wp.a.tree _ hg
 have eS:∀i d:Int,0<=i->0<=d->Qb (JU T c t m) i d=if i∈Z7 V t/\c=d then GG V c m i else Qb V i d:=λi d hi hd=>by
  have e:=z0w c0 Qo m1 (Z7 T t) hnd s1 r1 Qo c1T pin i d hi hd;have e':Qb (JU T c t m) i d=if i∈Z7 T t/\c=d then GG T c m i else Qb T i d:=e;rw[e',pT,shT i d hi];have:GG T c m i=GG V c m i:=by unfold GG;rw[shT i c hi]
  rw[this]
 have fF:∀i d:Int,0<=i->0<=d->(Qb (JU T c t m) i d).IL=(Qb V i d).IL:=λi d hi hd=>by
  rw[eS i d hi hd];split
  ·rename_i h;rw[<-h.2];rfl
  ·rfl
 have fO:∀i d:Int,0<=i->0<=d->(Qb (JU T c t m) i d).on=(Qb V i d).on:=λi d hi hd=>by
  rw[eS i d hi hd];split
  ·rename_i h;rw[<-h.2];rfl
  ·rfl
 have fW:∀i d:Int,0<=i->0<=d->(Qb (JU T c t m) i d).w=(Qb V i d).w:=λi d hi hd=>by
  rw[eS i d hi hd];split
  ·rename_i h;rw[<-h.2];rfl
  ·rfl
 have fV:∀i d:Int,0<=i->0<=d->¬(i∈QM V.IE (Q8 V t).II/\c=d)->(Qb (JU T c t m) i d).v=(Qb V i d).v:=λi d hi hd hn=>by
  rw[eS i d hi hd];split
  ·rename_i h
   have hz:¬i≠0:=λhz=>by
    rcases Im.1 h.1 with h'|h'
    ·exact hn ⟨h',h.2⟩
    ·exact hz (IA.1 h')
   rw[<-h.2];show (if i≠0 then _ else _)=_;rw[B' hz]
  ·rfl
 have fP:∀i:Int,i∈QM V.IE (Q8 V t).II->(Qb (JU T c t m) i c).v=(Qb V i c).v+Z2 m (Qb V i c).w:=λi hi=>by
  obtain⟨iu,iz⟩:=Ys wp.a.tree _ hg i hi;rw[eS i c (Q5.1 iu).1 c0,C' ⟨Ia _ hi,rfl⟩];show (if i≠0 then _ else _)=_;rw[C' iz]
 have eK:∀i:Int,0<=i->Q8 (JU T c t m) i=if t=i then P4 V t m else Q8 V i:=λi hi=>by
  have h1:Q8 (JU T c t m) i=gi (T.IJ.set t.toNat (P4 T t m)) i:=by
   show gi (Gl c m (Z7 T t) (J' T t (P4 T t m))).IJ i=_;rw[cp1.t];rfl
  have h2:P4 T t m=P4 V t m:=by unfold P4;rw[Xf hM.tk]
  rw[h1,QE _ _ t0 (by rw[hM.tk];omega) hi,h2];split
  ·rfl
  ·exact Xf hM.tk i
 have eC:∀d:Int,0<=d->gi (JU T c t m).IF d=if c=d then zgy T c m else gi V.IF d:=λd hd=>by
  have h1:gi (JU T c t m).IF d=gi (T.IF.set c.toNat (zgy T c m)) d:=by
   show gi ((Gl c m (Z7 T t) (J' T t (P4 T t m))).IF.set c.toNat (zgy T c m)) d=_;rw[cp1.cp];rfl
  rw[h1,QE _ _ c0 c1T hd];split
  ·rfl
  ·rename_i h;rw[hM.cp d hd,B' h]
 have wn:1<=Qh (Q8 V t).nice/\Qh (Q8 V t).nice<=20:=by
  have:=Jl (Q8 V t).nice;have:=hht.n;omega
 have hv0:∀w:Int,0<=Z2 m w:=λw=>(HD m w).1
 have DD5:∀i d:Int,Q6 V.IE i->0<=d->d<(V.IF.length:Int)->1<=(Qb V i d).w/\(Qb V i d).w<=20:=λi d hu d0 d1=>by
  have:=ED wp hu d0 d1;exact⟨this.w1,this.w2⟩
 have vt:=ztr hb.r0 (show 0<=m by omega) (by have:=hb.r1;omega) wn.1 wn.2
 have vp:∀i:Int,i∈QM V.IE (Q8 V t).II->Z2 ((ZX V c t).Wh+m) (Qb V i c).w=Z2 (ZX V c t).Wh (Qb V i c).w+Z2 m (Qb V i c).w/\Z2 (ZX V c t).Wh (Qb V i c).w+Z2 m (Qb V i c).w<=ZN (Qb V i c).w:=λi hi=>by
  have h:=DD5 i c (Ys wp.a.tree _ hg i hi).1 c0 c1;exact ztr hb.r0 (show 0<=m by omega) (by have:=hb.r1;omega) h.1 h.2
 have CE1:∀i:Int,Q6 V.IE i->i≠0->0<=(gi V.IE i).IG:=λi hu hz=>(Q5.1 (Y3 wp.a.tree hu hz).1).1
 have Cl5:∀i:Int,i∈QM V.IE (Q8 V t).II->VV (JU T c t m) i c:=λi hi=>by
  obtain⟨iu,iz⟩:=Ys wp.a.tree _ hg i hi;have i0:=(Q5.1 iu).1;unfold VV;rw[hTG.p,fF _ c (CE1 i iu iz) c0,fP i hi,fW i c i0 c0];have h1:=hb.p1 i hi;have h2:=hb.p2 i hi;have h3:=vp i hi;have:=hv0 (Qb V i c).w;omega
 refine⟨⟨sE.a,λi a b=>?_,λi a b n=>?_,λk d hk d0 d1=>?_⟩,λd d0 d1=>?_⟩
 ·have hrt:=rE.t i a b;rw[eK i a] at hrt ⊢;split
  ·rename_i he;rw[C' he] at hrt;refine .inr ⟨by show (Q8 V t).state≠0;rw[vM];decide,hht.st,by rw[hTG.cD];exact hg,hht.n,hht.m,hht.m0,Xg.2 ⟨hrt.1,Qo⟩,Xg.2 ⟨hrt.2.2.1,Qo⟩,hht.l1,hht.l2,λ_=>?_⟩;show (Qb (JU T c t m) (Q8 V t).II (Q8 V t).R2).IL<=(Q8 V t).v+Z2 m (Qh (Q8 V t).nice)/\(Q8 V t).v+Z2 m (Qh (Q8 V t).nice)-(Qb (JU T c t m) (Q8 V t).II (Q8 V t).R2).IL<=ZN (Qh (Q8 V t).nice);rw[rM,fF _ c (Q5.1 hg).1 c0];have:=hb.t1;have:=hb.t2;have:=hv0 (Qh (Q8 V t).nice);omega
  ·rcases p.t i a b with h|⟨h1,h2⟩
   ·exact .inl h
   ·refine .inr ⟨h1,h2.st,by rw[hTG.cD];exact h2.g,h2.n,h2.m,h2.m0,h2.s,h2.u,h2.l1,h2.l2,λhs=>?_⟩;rw[fF _ _ (Q5.1 h2.g).1 (p.l i a b h1).1];exact h2.f hs
 ·rw[hlE,hM.l];rw[eK i a] at n ⊢;split
  ·show 0<=(Q8 V t).R2/\(Q8 V t).R2<_;rw[rM];exact⟨c0,c1⟩
  ·rename_i he;rw[B' he] at n;exact p.l i a b n
 ·have hrs:=rE.s k d hk d0 d1;rw[hTG.cD] at hk;rw[hlE,hM.l] at d1;have k0:=(Q5.1 hk).1;have hp:=p.s k d hk d0 d1;refine⟨Xg.2 ⟨hrs.1,Qo⟩,λhz=>?_,λhz ho=>?_⟩
  ·have h:=hp.root hz;rw[fO k d k0 d0,fW k d k0 d0,fV k d k0 d0 λh=>(Ys wp.a.tree _ hg k h.1).2 hz];exact h
  ·rw[fO k d k0 d0] at ho
   by_cases hin:k∈QM V.IE (Q8 V t).II/\c=d
   ·obtain⟨h1,rfl⟩:=hin;exact Cl5 k h1
   ·have h:=hp.st hz ho;unfold VV at h ⊢;rw[hTG.p,fF _ d (CE1 k hk hz) d0,fV k d k0 d0 hin,fW k d k0 d0];exact h
 ·have hrc:=rE.c d d0 d1;rw[hlE,hM.l] at d1
  by_cases hd:c=d
  ·subst hd;have e:=(eC c c0).trans (C' rfl);have C16:(gi (JU T c t m).IF c).cur=t:=by rw[e];show (gi T.IF c).cur=t;rw[eTc];exact zD
   have C20:(gi (JU T c t m).IF c).Wh=(ZX V c t).Wh+m:=by rw[e];show (gi T.IF c).Wh+m=_;rw[eTc]
   have cA:=hb.r0;have hr1:=hb.r1;refine⟨Xg.2 ⟨hrc.1,Qo⟩,Xg.2 ⟨hrc.2.2.1,by have:=hrc.2.2.2.1;omega⟩,Qo,Qo,λh0=>by omega,λ_=>⟨by rw[e];exact upT,Qo,Qo⟩,λ_ _ _=>?_⟩;rw[C16,C20,eK t t0,C' rfl];refine⟨?_,λx hx=>?_⟩
   ·show (Q8 V t).v+Z2 m (Qh (Q8 V t).nice)-(Qb (JU T c t m) (Q8 V t).II c).IL<=Z2 ((ZX V c t).Wh+m) (Qh (Q8 V t).nice);rw[fF _ c (Q5.1 hg).1 c0,vt.1];have:=hb.t1;omega
   ·have hx:x∈QM (JU T c t m).IE (Q8 V t).II:=hx;rw[Vy hTG] at hx;obtain⟨xu,xz⟩:=Ys wp.a.tree _ hg x hx;refine⟨Cl5 x hx,?_⟩;rw[hTG.p,fF _ c (CE1 x xu xz) c0,fP x hx,fW x c (Q5.1 xu).1 c0,(vp x hx).1];have:=hb.p1 x hx;omega
  ·have e:=(eC d d0).trans (B' hd);have h:=p.c d d0 d1;refine⟨by rw[e];exact h.b,by rw[e];exact h.i,by rw[e];exact h.c1,by rw[e];exact h.c2,by rw[e];exact h.no,by rw[e];exact h.yes,?_⟩;rw[e];intro h0 h1 h2;rw[eK _ h0] at h1 h2 ⊢
   by_cases ht:t=(gi V.IF d).cur
   ·rw[C' ht] at h2;have h2:(Q8 V t).R2=d:=h2;exact Ir (rM.symm.trans h2) hd
   ·rw[B' ht] at h1 h2 ⊢;obtain⟨q1,q2⟩:=h.q h0 h1 h2;have rO:=(OT p h0 h.c2 (by rw[h1];decide)).g;refine⟨by rw[fF _ d (Q5.1 rO).1 d0];exact q1,λx hx=>?_⟩;rw[Vy hTG] at hx;obtain⟨xu,xz⟩:=Ys wp.a.tree _ rO x hx;have x0:=(Q5.1 xu).1;have:=q2 x hx;unfold VV at this ⊢;rw[hTG.p,fF _ d (CE1 x xu xz) d0,fV x d x0 d0 λh=>hd h.2,fW x d x0 d0];exact this
def z2g(W:Q7)(c n g:Int):TT W (MR W c n g):=
 ((zfk W g c (GG W c n g)).trans (zrg (W:=TP W c n g) (g:=g) (x:=Kk W c n g) rfl rfl rfl rfl rfl)).trans (zrf _ _ _)
def zth(c n:Int):∀(l:List Int) (W:Q7),TT W (Gl c n l W)
 |[],W=>TT.refl _
 |g::l,W=>(z2g W c n g).trans (zth c n l _)
def zti(W:Q7)(c g:Int):TT W (Lm W c g).1:=by
 unfold Lm;split
 ·exact TT.refl _
 ·exact zrf _ _ _
def ztj(c:Int):∀(l:List Int) (W:Q7),TT W (Br c l W).1
 |[],W=>TT.refl _
 |g::l,W=>by
  simp only[Br];split
  ·exact(zti W c g).trans (ztj c l _)
  ·exact zti W c g
def zzm(W:Q7)(c t:Int):TT W (QI W c t):=zmh (by unfold ZX;split <;> rfl)
def zud(W:Q7)(c t:Int):Xv (ZX W c t)=Xv (gi W.IF c):=by unfold ZX;split <;> rfl
def z1b{f:Nat}{c left:Int}{W0 V:Q7}(h:D5 f c W0 V left)(iv:Xk V):Xk (Qf (Rb (RM V c (Jf V c left)) c)):=by
 have p:=XF iv.wp;have c0:=h.c0;have c1:=h.c1;have hK:=TH h.f2;have hh0:(0:Int)<=Qn:=Qd;have vM:UQ=173430457200:=rfl;obtain⟨sE,s1,i3,i4⟩:=zdc h;have hl:(RM V c (Jf V c left)).IF.length=V.IF.length:=E'
 have hP:TO (RM V c (Jf V c left)):=by
  refine⟨⟨s1.a,λt t0 t1=>(p.t t t0 t1).imp id λh=>⟨h.1,h.2.gr rfl⟩,λt t0 t1 n=>?_,λk d hk d0 d1=>?_⟩,λd d0 d1=>?_⟩
  ·rw[hl];exact p.l t t0 t1 n
  ·rw[hl] at d1;exact(p.s k d hk d0 d1).By4 rfl λ_=>rfl
  ·rw[hl] at d1;have hd:=p.c d d0 d1;have e:gi (RM V c (Jf V c left)).IF d=if c=d then Jf V c left else gi V.IF d:=QE _ _ c0 c1 d0
   by_cases he:c=d
   ·subst he;have e:=e.trans (C' rfl);exact⟨by rw[e];exact hd.b,by rw[e];exact Xg.2 ⟨i3,by show (gi V.IF c).idle+left<=_;omega⟩,by rw[e];exact hd.c1,by rw[e];exact hd.c2,by rw[e];exact hd.no,by rw[e];exact hd.yes,by rw[e];exact hd.q⟩
   ·have e:=e.trans (B' he);exact⟨by rw[e];exact hd.b,by rw[e];exact hd.i,by rw[e];exact hd.c1,by rw[e];exact hd.c2,by rw[e];exact hd.no,by rw[e];exact hd.yes,by rw[e];exact hd.q⟩
 exact ZJ sE Qo Qo (hP.Rb c0 (by rw[hl];exact c1)) (((zmh (W:=V) (c:=c) (x:=Jf V c left) rfl).loc rfl (V4 iv.wp)).Rb _)
def z2a{f:Nat}{c left:Int}{W0 V:Q7}(h:D5 (f+1) c W0 V left)(iv:Xk V)(hl:0<left)(hp:¬Qe V c<0):Xk (O0 V c left).1:=by
 have hR:=LW h hl hp;have c0:=h.c0;have c1:=h.c1;have hK:=TH h.f2;have hSu:=zbc h.f2;have hh0:(0:Int)<=Qn:=Qd;have vM:UQ=173430457200:=rfl;have hlg:Qi=34686091440:=rfl;have t0:=hR.line.t0;have t1:=hR.line.t1;obtain⟨q1,q2,q3,q4,q5,q6⟩:=G2 h.sw h.rb c0 c1 h.up t0 t1;have eC:(ZC V c).1.IF=(QI V c (Qe V c)).IF:=hR.tk.o.c;have lT:(ZC V c).1.IF.length=V.IF.length:=by rw[eC];exact q6
 have cT:c<((ZC V c).1.IF.length:Int):=by rw[lT];exact c1
 have rT:RB (B9 (f+1)) (ZC V c).1:=hR.r1.sum hR.tk.su hR.tk.o.g (by rw[eC]);have eT:(ZC V c).1.IJ=V.IJ:=hR.tk.o.t;have eG:QZ V.IE (ZC V c).1.IE:=hR.tk.o.g;have eN:(ZC V c).1.now=V.now:=hR.tk.o.n;have eSh:∀i:Int,0<=i->(gi (ZC V c).1.IE i).IH=(gi V.IE i).IH:=hR.tk.o.s;have sT:TT V (ZC V c).1:=(zzm V c (Qe V c)).trans (ztj c _ _);have lcT:zbj (ZC V c).1:=sT.loc eT (V4 iv.wp)
 have eCp:∀d:Int,0<=d->gi (ZC V c).1.IF d=if c=d then ZX V c (Qe V c) else gi V.IF d:=λd hd=>by
  rw[eC];exact QE _ _ c0 c1 hd
 have hRW:O0 V c left=if (ZC V c).2=true then (Qf (JU (ZC V c).1 c (Qe V c) (Yz V c left)),left-Yz V c left) else (Qf (Rb (ZC V c).1 c),left):=rfl;rw[hRW]
 by_cases gt:(ZC V c).2=true
 ·rw[C' gt];obtain⟨m1,m2⟩:=hR.m gt;obtain⟨sC,rC⟩:=hR.ch gt;have hl1:=h.l1;have hb:=z0q iv c0 c1 hR.line hp;have es:gi (QI V c (Qe V c)).IF c=ZX V c (Qe V c):=(QE _ _ c0 c1 c0).trans (C' rfl);rw[es] at hb q5;have hP:TO (JU (ZC V c).1 c (Qe V c) (Yz V c left)):=z3o iv ⟨eT,eG,eSh,eCp,lT⟩ hR.tk.sw rT ⟨Qo,Qo⟩ c0 c1 h.up t0 t1 hR.line.st hR.line.R2 q5 hb m1 Qo;refine ZJ sC Qo Qo hP ?_;have uT:Q6 (ZC V c).1.IE (Q8 (ZC V c).1 (Qe V c)).II:=by rw[eG.cD,Xf eT];exact hR.us
  have upT:(gi (ZC V c).1.IF c).up:=by rw[eC];exact q3
  have AZ0:(gi (ZC V c).1.IF c).Wh<50:=by rw[eC];exact hR.Wh
  have cp1:=(BV (t:=Qe V c) (n:=Yz V c left) hR.tk.sw rT Qo c0 cT upT AZ0 t0 t1 uT Qo Qo).2.2.2.2.2.2.2.2;have l1:zbj (J' (ZC V c).1 (Qe V c) (P4 (ZC V c).1 (Qe V c) (Yz V c left))):=lcT.J' hR.tk.sw.a t0 t1 λn=>lcT _ t0 t1 n
  have l2:=(zth c (Yz V c left) (Z7 (ZC V c).1 (Qe V c)) (J' (ZC V c).1 (Qe V c) (P4 (ZC V c).1 (Qe V c) (Yz V c left)))).loc cp1.t l1;refine TT.loc (zmh ?_) rfl l2;show (gi (ZC V c).1.IF c).up=(gi (Gl c (Yz V c left) (Z7 (ZC V c).1 (Qe V c)) (J' (ZC V c).1 (Qe V c) (P4 (ZC V c).1 (Qe V c) (Yz V c left)))).IF c).up;rw[cp1.cp];rfl
 ·rw[B' gt]
  have hE:Rb (ZC V c).1 c=Rb { (ZC V c).1 with IF:=V.IF } c:=by
   have e1:=(eCp c c0).trans (C' rfl);show ({ (ZC V c).1 with IF:=(ZC V c).1.IF.set c.toNat (Xv (gi (ZC V c).1.IF c)) }:Q7)={ (ZC V c).1 with IF:=V.IF.set c.toNat (Xv (gi V.IF c)) };rw[e1,zud,eC];show ({ (ZC V c).1 with IF:=(V.IF.set c.toNat (ZX V c (Qe V c))).set c.toNat (Xv (gi V.IF c)) }:Q7)=_;rw[List.set_set]
  have ha:WA ({ (ZC V c).1 with IF:=V.IF }:Q7):=hR.tk.sw.a.cp lT.symm iv.wp.a.ups;have p2:TO ({ (ZC V c).1 with IF:=V.IF }:Q7):=(XF iv.wp).BM3 ⟨eN,rfl,eT,eG,eSh⟩ ha;have zG:=lcT.Rb c;have sE:=hR.tk.sw.Rb c0 cT;rw[hE] at zG sE ⊢;exact ZJ sE Qo Qo (p2.Rb c0 c1) zG
def zou{c:Int}{W0:Q7}:∀(f:Nat) {V:Q7} {left:Int},D5 f c W0 V left->Xk V->Xk (Hq c f V left)
 |0,V,left,h,_=>by
  have:=h.f1;have:=h.l0;omega
 |f+1,V,left,h,iv=>by
  have hK:=TH h.f2;have hh0:(0:Int)<=Qn:=Qd;have vM:UQ=173430457200:=rfl
  by_cases hl:left<=0
  ·rw[Hr hl];exact ZJ h.sw Qo Qo (XF iv.wp) (V4 iv.wp)
  ·by_cases hp:Qe V c<0
   ·rw[L9 hl hp];exact z1b h iv
   ·rw[Lc hl hp];have hR:=LW h Qo hp;exact zou f hR.nx (z2a h iv Qo hp)
def HL{W:Q7}{c n:Int}(iv:Xk W)(hb:Yl W c n=0):Xk (YA W c n):=zou 400 (MC (Qm.2 iv.wp) hb).2.2.2.2 iv
def zvz{W:Q7}(wp:XV W){c:Int}(c0:0<=c)(c1:c<(W.IF.length:Int)):XV (Rb W c):=by
 have hl:(Rb W c).IF.length=W.IF.length:=E';have e:∀d:Int,0<=d->gi (Rb W c).IF d=if c=d then Xv (gi W.IF c) else gi W.IF d:=λd d0=>QE _ _ c0 c1 d0
 have sta:=HW W c
 have ha:WA (Rb W c):=wp.a.cp (cs:=W.IF.set c.toNat (Xv (gi W.IF c))) E' (by
  rw[show JC (W.IF.set c.toNat (Xv (gi W.IF c)))=JC W.IF from sta.ups];exact wp.a.ups)
 refine⟨ha,λt t0 t1=>?_,λk d k0 k1 d0 d1=>?_,λd d0 d1=>?_⟩
 ·rcases wp.t t t0 t1 with hz|⟨n,hx⟩
  ·exact .inl hz
  ·refine .inr ⟨n,hx.st,hx.g,hx.n,hx.m,hx.m0,hx.v,hx.s,hx.u,hx.l1,hx.l2,?_,hx.f⟩;rw[sta.wh];exact hx.c
 ·have hs:=wp.s k d k0 k1 d0 d1;exact⟨hs.f,hs.v,hs.s,hs.w1,hs.w2,hs.root,hs.on,hs.st⟩
 ·rw[hl] at d1;have h:=wp.c d d0 d1
  by_cases hd:c=d
  ·subst hd;have e1:=(e c c0).trans (C' rfl);refine⟨by rw[e1];exact h.b,by rw[e1];exact h.i,by rw[e1];show (-1:Int)<=-1;decide,by rw[e1];show (-1:Int)<_;have:=wp.a.t;show (-1:Int)<(W.IJ.length:Int);omega,λ_=>by rw[e1];rfl,λh0=>?_⟩;rw[e1] at h0;have h0:(0:Int)<=-1:=h0;omega
  ·have e1:=(e d d0).trans (B' hd);refine⟨by rw[e1];exact h.b,by rw[e1];exact h.i,by rw[e1];exact h.c1,by rw[e1];exact h.c2,by rw[e1];exact h.no,λh0=>?_⟩;rw[e1] at h0 ⊢;obtain⟨y1,y2,y3,y4,y5,y6⟩:=h.yes h0;refine⟨y1,y2,y3,y4,y5,?_⟩;unfold MJ at y6 ⊢;rw[e1];exact y6
def zup{W:Q7}(iv:Xk W){c:Int}(c0:0<=c)(c1:c<(W.IF.length:Int)):Xk (Rb W c):=
 ⟨zvz iv.wp c0 c1,λk d hu d0 d1 hb=>by
  have hl:(Rb W c).IF.length=W.IF.length:=E';rw[hl] at d1;exact iv.fl k d hu d0 d1 hb⟩
def FSx(W:Q7)(t g:Int):Int:=if Zk (QF W g (Q8 W t).mask) (Q8 W t).R2=true then (Q8 W t).R2 else Dl (QF W g (Q8 W t).mask)
noncomputable def NF(W:Q7)(t g:Int):Int:=if Yd W t=false\/Q6 W.IE g=false then 2 else if QO W=false then 10 else 0
def y8(W:Q7)(t g:Int):Q7:=if (Q8 W t).II=g then W else Qf (Ud (Z1 W t) t g (FSx W t g))
def zly{W:Q7}(wp:XV W){t g:Int}(t0:0<=t)(t1:t<12)(n:(Q8 W t).state≠0):0<=FSx W t g/\FSx W t g<(W.IF.length:Int)/\Zk (QF W g (Q8 W t).mask) (FSx W t g):=by
 unfold FSx;split
 ·rename_i h;have:=(XF wp).l t t0 t1 n;exact⟨this.1,this.2,h⟩
 ·have hw:=HE wp.a g (Q8 W t).mask;have hf:=D1 wp.a g (Q8 W t).mask;exact⟨hf.1,hf.2,FQ hw.1 hw.2⟩
def z1g{W:Q7}{t g:Int}(iv:Xk W)(hb:NF W t g=0):Xk (y8 W t g):=by
 have wp:=iv.wp;unfold NF at hb
 split at hb
 ·cases hb
 ·rename_i h1
  split at hb
  ·cases hb
  ·rename_i h3;have hth:Yd W t:=by cases h:Yd W t with|true=>rfl|false=>exact Ir (.inl h) h1
   have hu:Q6 W.IE g:=by cases h:Q6 W.IE g with|true=>rfl|false=>exact Ir (.inr h) h1
   have hr:QO W:=by simpa using h3
   obtain⟨t0,t1,n⟩:=ZY hth;have qT:=wp.a.t;unfold y8;split
   ·exact iv
   ·obtain⟨m0,m1,m2⟩:=zly wp (g:=g) t0 Qo n;have sw:=MK wp (Qm.1 hr);obtain⟨c0,c1⟩:=(XF wp).l t t0 Qo n
    have key:TO (Z1 W t)/\TT W (Z1 W t)/\SW Qn (Z1 W t)/\Q8 (Z1 W t) t=Q8 W t/\(Z1 W t).IJ=W.IJ/\(Z1 W t).IE=W.IE:=by
     unfold Z1;split
     ·exact⟨(XF wp).Rb c0 c1,HW _ _,sw.Rb c0 c1,rfl,rfl,rfl⟩
     ·exact⟨XF wp,TT.refl _,sw,rfl,rfl,rfl⟩
    obtain⟨k1,k2,k3,k4,k5,k6⟩:=key;have hlo:=k2.loc k5 (V4 wp);have hu2:Q6 (Z1 W t).IE g:=by rw[k6];exact hu
    have hm1:FSx W t g<((Z1 W t).IF.length:Int):=by rw[k2.len];exact m1
    have sf:=(B8 (Lg k3) (I2 _) (t:=t) t0 Qo hu2 m0 hm1).2;refine ZJ sf.w (by simp only[Qi];decide) (by simp only[Qi,UQ];decide) (ze7 k1 t0 Qo (by rw[k4];exact n) hu2 m0 hm1) λi i0 i1 hn=>?_
    rw[(zbe (Z1 W t) t g (FSx W t g)).wh];rw[zq3 k1.a.t t0 Qo i0] at hn ⊢
    split at hn
    ·rename_i he;rw[C' he];show Zk (QF (Z1 W t) g (Q8 (Z1 W t) t).mask) (FSx W t g)=true;rw[k4,k2.wh];exact m2
    ·rename_i he;rw[B' he];exact hlo i i0 i1 hn
structure zfw (W:Q7) (g:Int):Prop where
 g1:1<=g
 us:Q6 W.IE g=true
 nk:∀h:Int,1<=h->h<8->(gi W.IE h).IW->(gi W.IE h).IG≠g
 nt:∀t:Int,0<=t->t<12->(Q8 W t).state≠0->(Q8 W t).II≠g
def XW(W:Q7)(g:Int):Q7:=R1 W g zfu
section
variable {W:Q7}{g:Int}
def zfw.g8(h:zfw W g)(ha:WA W):g<8:=by
 have:=ha.gl;have:=(Q5.1 h.us).2.1;omega
def Dx(ha:WA W)(h:zfw W g){i:Int}(hi:0<=i):gi (XW W g).IE i=if g=i then zfu else gi W.IE i:=Yt (by have:=h.g1;omega) (Q5.1 h.us).2.1 hi
def GU(ha:WA W)(h:zfw W g){k:Int}(hu:Q6 W.IE k)(hk:k≠g):gi (XW W g).IE k=gi W.IE k:=by
 rw[Dx ha h (Q5.1 hu).1,B' λe=>hk e.symm]
def zkz(ha:WA W):(XW W g).IE.length=8:=by
 have:=ha.gl;simp[XW,R1];omega
def zcp(ha:WA W)(h:zfw W g){k:Int}(hu:Q6 W.IE k)(hz:k≠0):(gi W.IE k).IG≠g:=by
 obtain⟨a,b,c⟩:=Q5.1 hu;have:=ha.gl;exact h.nk k Qo Qo c
def MZ(ha:WA W)(h:zfw W g){k:Int}:Q6 (XW W g).IE k=true↔Q6 W.IE k/\k≠g:=by
 have cZ:=ha.gl;rw[Q5,Q5,zkz ha,cZ];constructor
 ·rintro⟨x,y,z⟩;rw[Dx ha h x] at z
  by_cases e:g=k
  ·rw[C' e] at z;cases z
  ·rw[B' e] at z;exact⟨⟨x,y,z⟩,λe2=>e e2.symm⟩
 ·rintro⟨⟨x,y,z⟩,e⟩;refine⟨x,y,?_⟩;rw[Dx ha h x,B' λe2=>e e2.symm];exact z
def zxc(ha:WA W)(h:zfw W g):∀(f:Nat) (k:Int),Q6 W.IE k->k≠g->dep f (XW W g).IE k=dep f W.IE k
 |0,_,_,_=>rfl
 |f+1,k,hu,hk=>by
  by_cases hz:k=0
  ·subst hz;rw[ZS,ZS]
  ·have ih:=zxc ha h f _ (Y3 ha.tree hu hz).1 (zcp ha h hu hz);simp only[dep];rw[GU ha h hu hk,ih]
def zk0(ha:WA W)(h:zfw W g):∀(f:Nat) (k:Int),Q6 W.IE k->k≠g->US f (XW W g).IE k=US f W.IE k
 |0,_,_,_=>rfl
 |f+1,k,hu,hk=>by
  by_cases hz:k=0
  ·subst hz;rw[Zc,Zc]
  ·have ih:=zk0 ha h f _ (Y3 ha.tree hu hz).1 (zcp ha h hu hz);simp only[US];rw[GU ha h hu hk,ih]
def zpx(ha:WA W)(h:zfw W g):∀k:Int,Q6 W.IE k->k≠g->∀x∈QM W.IE k,x≠g:=
 My ha.tree (λ_ x hx=>by rw[show QM W.IE 0=[] from Zc _ _] at hx;cases hx) λk hu hz ih hk x hx=>by
  rw[Yg ha.tree hu hz] at hx;rcases Ii.1 hx with e|e
  ·rw[e];exact hk
  ·exact ih (zcp ha h hu hz) x e
def z02(ha:WA W)(h:zfw W g):Yh (XW W g).IE:=by
 have ht:=ha.tree;have r:=GU ha h ha.root (by have:=h.g1;omega)
 have sp:∀{k:Int},1<=k->k<8->(gi (XW W g).IE k).IW->Q6 W.IE k/\k≠g/\gi (XW W g).IE k=gi W.IE k:=λ{k} b d hh=>by
  have:=(MZ ha h).1 (Q5.2 ⟨Qo,by rw[zkz ha];omega,hh⟩);exact⟨this.1,this.2,GU ha h this.1 this.2⟩
 refine⟨zkz ha,by rw[r];exact ht.ru,by rw[r];exact ht.rp,by rw[r];exact ht.rn,λk b d hh=>?_,λk b d hh=>?_,λk b d hh=>?_,λx k b d e hx hk=>?_⟩
 ·obtain⟨_,_,e⟩:=sp b d hh;rw[e] at hh ⊢;exact ht.nm k b d hh
 ·obtain⟨_,_,e⟩:=sp b d hh;rw[e] at hh ⊢;exact(MZ ha h).2 ⟨ht.par k b d hh,h.nk k b d hh⟩
 ·obtain⟨u,n,_⟩:=sp b d hh;rw[zxc ha h 3 k u n];exact ht.dp k b d (Q5.1 u).2.2
 ·rintro⟨q1,q2⟩;obtain⟨u1,_,e1⟩:=sp Qo e hx;obtain⟨u2,_,e2⟩:=sp b Qo hk;rw[e1,e2] at q1 q2;exact ht.uniq x k b d e (Q5.1 u1).2.2 (Q5.1 u2).2.2 ⟨q1,q2⟩
def M3(ha:WA W)(h:zfw W g){k c:Int}(hu:Q6 W.IE k)(hk:k≠g):Qb (XW W g) k c=Qb W k c:=by
 unfold Qb;rw[GU ha h hu hk]
def z01(wp:XV W)(h:zfw W g){c:Int}:QJ W g c=false:=by
 have hl:=wp.a.gl;have ht:=wp.a.t
 have e1:∀j,j<W.IJ.length->dU W g c j=false:=λj hj=>by
  unfold dU
  cases hs:((gi W.IJ (j:Int)).state==1) with
  |false=>rfl
  |true=>
   have hs:(gi W.IJ (j:Int)).state=1:=by simpa using hs
   have:(gi W.IJ (j:Int)).II≠g:=h.nt (j:Int) Qo Qo (by rw[show (Q8 W (j:Int)).state=1 from hs];decide);rw[show ((gi W.IJ (j:Int)).II==g)=false by simpa using this];rfl
 have e2:∀j,j<W.IE.length->WV W g c j=false:=λj hj=>by
  unfold WV
  by_cases hj1:1<=j
  ·cases hs:(gi W.IE (j:Int)).IW with
   |false=>simp
   |true=>
    have:=h.nk (j:Int) Qo Qo hs;rw[show ((gi W.IE (j:Int)).IG==g)=false by simpa using this];simp
  ·rw[decide_eq_false hj1];rfl
 unfold QJ;rw[KG e1,KG e2];rfl
def z3v(wp:XV W)(h:zfw W g){c:Int}(c0:0<=c)(c1:c<(W.IF.length:Int)):(Qb W g c).on=false:=by
 have g1:=h.g1;have:=(wp.s g c Qo (h.g8 wp.a) c0 (by rw[wp.a.sl h.us];exact c1)).on Qo;rw[this,z01 wp h];rfl
def zsa(wp:XV W)(h:zfw W g){k c:Int}(c0:0<=c)(c1:c<(W.IF.length:Int))(j:Nat):WV (XW W g) k c j=WV W k c j:=by
 have ha:=wp.a;unfold WV
 by_cases e:g=(j:Int)
 ·rw[Dx ha h Qo,C' e,<-e,z3v wp h c0 c1];simp[zfu]
 ·rw[Dx ha h Qo,B' e]
  have:Qb (XW W g) (j:Int) c=Qb W (j:Int) c:=by
   unfold Qb;rw[Dx ha h Qo,B' e]
  rw[this]
def z3u(wp:XV W)(h:zfw W g){k c:Int}(c0:0<=c)(c1:c<(W.IF.length:Int)):QJ (XW W g) k c=QJ W k c:=by
 unfold QJ;rw[show TV (dU (XW W g) k c) (XW W g).IJ.length=TV (dU W k c) W.IJ.length from rfl,zkz wp.a,wp.a.gl];rw[KF λj _=>zsa wp h c0 c1 j]
def z3w(ha:WA W)(h:zfw W g){k:Int}(hu:Q6 W.IE k)(hk:k≠g)(u:Int):T5 (XW W g).IE k u=T5 W.IE k u:=by
 have e:QM (XW W g).IE k=QM W.IE k:=zk0 ha h 3 k hu hk;have g1:=h.g1;unfold T5;rw[e];refine Nd _ _ λs x hx=>?_
 have hxu:Q6 W.IE x/\x≠g:=by
  rcases Im.1 hx with hx|hx
  ·exact⟨(Ys ha.tree k hu x hx).1,zpx ha h k hu hk x hx⟩
  ·rw[IA.1 hx];exact⟨ha.root,Qo⟩
 rw[GU ha h hxu.1 hxu.2]
def z5t(ha:WA W)(h:zfw W g){k:Int}(hu:Q6 W.IE k)(hk:k≠g)(m:Int):QF (XW W g) k m=QF W k m:=zz6 (W:=W) (W':=XW W g) rfl (z3w ha h hu hk) m
def zsj(iv:Xk W)(h:zfw W g):Xk (XW W g):=by
 have wp:=iv.wp;have ha:=wp.a;have g1:=h.g1;have g8:=h.g8 ha;have cZ:=ha.gl;have hpu:∀{k:Int},Q6 W.IE k->k≠0->Q6 W.IE (gi W.IE k).IG:=λhu hz=>(Y3 ha.tree hu hz).1
 have hA:WA (XW W g):=by
  refine⟨ha.n1,ha.n2,ha.c1,ha.c2,ha.t,z02 ha h,ha.ups,λk k0 k1=>?_⟩;unfold Kg;rw[Dx ha h k0];split
  ·exact⟨λ_=>⟨rfl,rfl,rfl,rfl,rfl,rfl,rfl,rfl,show TF ⟨0,0,0,[],[]⟩=true by decide⟩,λhh=>by cases hh⟩
  ·have:=ha.grp k k0 k1;exact⟨this.1,λhu=>by have:=this.2 hu;exact⟨this.w1,this.w2,this.m,this.m0,this.s,this.len,this.root,this.none,this.IM⟩⟩
 refine⟨⟨hA,λt t0 t1=>?_,λk c k0 k1 c0 c1=>?_,λc c0 c1=>?_⟩,λk c hu c0 c1 hb=>?_⟩
 ·rcases wp.t t t0 t1 with hz|⟨n,hx⟩
  ·exact .inl hz
  ·have hn:=h.nt t t0 t1 n;refine .inr ⟨n,hx.st,(MZ ha h).2 ⟨hx.g,hn⟩,hx.n,hx.m,hx.m0,hx.v,hx.s,hx.u,hx.l1,hx.l2,?_,λhs=>?_⟩
   ·rw[show (Q8 (XW W g) t)=Q8 W t from rfl,z5t ha h hx.g hn];exact hx.c
   ·rw[show (Q8 (XW W g) t)=Q8 W t from rfl,M3 ha h hx.g hn];exact hx.f hs
 ·by_cases e:g=k
  ·subst e;rw[Dx ha h k0,C' rfl] at c1;have c1:c<(0:Int):=c1;omega
  ·have hg:gi (XW W g).IE k=gi W.IE k:=by rw[Dx ha h k0,B' e]
   have e2:k≠g:=λh=>e h.symm
   rw[hg] at c1
   have hu:Q6 W.IE k:=by
    cases hh:(gi W.IE k).IW with
    |true=>exact Q5.2 ⟨k0,Qo,hh⟩
    |false=>
     have:=((ha.grp k k0 k1).1 hh).l;omega
   have cl:c<(W.IF.length:Int):=by rw[<-ha.sl hu];exact c1
   have hs:=wp.s k c k0 k1 c0 c1;have es:=M3 ha h (c:=c) hu e2;refine⟨by rw[es];exact hs.f,by rw[es];exact hs.v,by rw[es];exact hs.s,by rw[es];exact hs.w1,by rw[es];exact hs.w2,λhz=>by rw[es];exact hs.root hz,λhz=>?_,λhz ho=>?_⟩
   ·rw[es,z3u wp h c0 cl,show Jm (XW W g) k c=Jm W k c by unfold Jm;rw[hg]];exact hs.on hz
   ·rw[es] at ho;rw[es,hg,M3 ha h (hpu hu hz) (zcp ha h hu hz)];exact hs.st hz ho
 ·have hc:=wp.c c c0 c1;refine⟨hc.b,hc.i,hc.c1,hc.c2,hc.no,λh0=>?_⟩;have h0:0<=(gi W.IF c).cur:=h0;obtain⟨y1,y2,y3,y4,y5,y6⟩:=hc.yes h0;have hl:=ha.t;have hc2:=hc.c2
  have rO:Q6 W.IE (Q8 W (gi W.IF c).cur).II/\(Q8 W (gi W.IF c).cur).II≠g:=by
   rcases wp.t _ h0 Qo with hz|⟨n,hx⟩
   ·unfold Zq at y5;rw[hz.1] at y5;simp at y5
   ·exact⟨hx.g,h.nt _ h0 Qo n⟩
  obtain⟨rO,hgn⟩:=rO;have hpt:QM (XW W g).IE (Q8 W (gi W.IF c).cur).II=QM W.IE (Q8 W (gi W.IF c).cur).II:=zk0 ha h 3 _ rO hgn;refine⟨y1,y2,y3,y4,?_,?_⟩
  ·unfold Zq Ut at y5 ⊢;rw[show (gi (XW W g).IF c).cur=(gi W.IF c).cur from rfl,show Q8 (XW W g) (gi W.IF c).cur=Q8 W (gi W.IF c).cur from rfl,hpt];rw[A',List.all_eq_true] at y5 ⊢;exact⟨y5.1,λx hx=>by rw[M3 ha h (Ys ha.tree _ rO x hx).1 (zpx ha h _ rO hgn x hx)];exact y5.2 x hx⟩
  ·unfold MJ Od at y6 ⊢;rw[show (gi (XW W g).IF c).cur=(gi W.IF c).cur from rfl,show (gi (XW W g).IF c).Wh=(gi W.IF c).Wh from rfl,show Q8 (XW W g) (gi W.IF c).cur=Q8 W (gi W.IF c).cur from rfl,hpt,M3 ha h rO hgn];rw[A',List.all_eq_true] at y6 ⊢;refine⟨y6.1,λx hx=>?_⟩;obtain⟨xu,xz⟩:=Ys ha.tree _ rO x hx;have xg:=zpx ha h _ rO hgn x hx;rw[M3 ha h xu xg,GU ha h xu xg,M3 ha h (hpu xu xz) (zcp ha h xu xz)];exact y6.2 x hx
 ·have cl:c<(W.IF.length:Int):=c1;obtain⟨hk,hkg⟩:=(MZ ha h).1 hu
  have Ao5:∀j,j<20->Sf (XW W g) k c j=Sf W k c j:=λj hj=>by
   by_cases AH4:j<12
   ·rw[Ji AH4,Ji AH4];rfl
   ·rw[show j=12+(j-12) by omega,J3,J3,zsa wp h c0 cl (j-12)]
  have hv:∀j,j<20->Sf (XW W g) k c j->S9 (XW W g) c j=S9 W c j:=λj hj hm=>by
   unfold S9;split
   ·rfl
   ·rename_i AH4;have hm2:=hm;rw[show j=12+(j-12) by omega,J3] at hm2;unfold WV at hm2;simp only[A'] at hm2
    have eO:((j-12:Nat):Int)≠g:=λe=>by
     have hu2:=hm2.1.2.1;rw[Dx ha h Qo,C' e.symm] at hu2;cases hu2
    rw[Ao5 j hj,show j=12+(j-12) by omega,J3] at hm;unfold WV at hm;simp only[A'] at hm;rw[M3 ha h (Q5.2 ⟨Qo,Qo,hm.1.2.1⟩) eO]
  have e:QY (Sf (XW W g) k c) (S9 (XW W g) c) 20=QY (Sf W k c) (S9 W c) 20:=P8 Ao5 hv;have zE:=iv.fl k c hk c0 cl (by unfold Sw at hb ⊢;rwa[e] at hb);rw[M3 ha h hk hkg];refine IC (Int.le_of_eq ?_) zE;unfold Sw at hb;have hb:=Ot hb;rw[e] at hb;unfold S3;rw[e,B' Qo,B' Qo];rcases Zl (Sf W k c) (S9 W c) 20 with ⟨q,_⟩|⟨_,q2,q3,_⟩
  ·omega
  ·have IV:(QY (Sf W k c) (S9 W c) 20).toNat<20:=Qo;exact hv _ IV (by rw[Ao5 _ IV];exact q3)
def zv8(W:Q7)(g:Int):Prop:=(∃h:Int,1<=h/\h<8/\(gi W.IE h).IW/\(gi W.IE h).IG=g)\/∃t:Int,0<=t/\t<12/\(Q8 W t).state≠0/\(Q8 W t).II=g
noncomputable def BX(W:Q7)(g:Int):Int:=if g=0 then 1 else if Q6 W.IE g=false then 2 else if Ju (zv8 W g) then 4 else if QO W=false then 10 else 0
def zxd{W:Q7}{g:Int}(hb:BX W g=0):zfw W g/\QO W:=by
 unfold BX at hb
 split at hb
 ·cases hb
 rename_i h1
 split at hb
 ·cases hb
 rename_i h2
 split at hb
 ·cases hb
 rename_i h3
 split at hb
 ·cases hb
 rename_i h4;have h3:¬zv8 W g:=λh=>h3 (Qm.2 h)
 have hu:Q6 W.IE g:=by simpa using h2
 have:=(Q5.1 hu).1;exact⟨⟨Qo,hu,λh a b c d=>h3 (.inl ⟨h,a,b,c,d⟩),λt a b c d=>h3 (.inr ⟨t,a,b,c,d⟩)⟩,by simpa using h4⟩
end
def zar(W:Q7)(c:Int):Int:=if X5 W c=false then 1 else if (gi W.IF c).cur<0 then 6 else 0
def zrw{W:Q7}{c:Int}(h:zar W c=0):X5 W c/\0<=(gi W.IF c).cur:=by
 unfold zar at h
 split at h
 ·cases h
 ·rename_i h1
  split at h
  ·cases h
  ·exact⟨by simpa using h1,Qo⟩
section
variable {W:Q7}{m:MW}{w:Wo}{bs:List Nat}
def FH{c:Int}(h:J6 [] w W m)(hl:UV W) :
  Cz VN #[.agg (Qa W m).toArray,I c] w λe w'=>∃v,e=.returned v/\QV (Y7 W (zar W c) (Rb W c)) w v w':=by
 refine Fo _ _ _ _ _ _ _ _ _ _ c (R:=λv w'=>QV (Y7 W (zar W c) (Rb W c)) w v w') ?_;intro y hy y1 dY;have hm0:=Xu;have hlc:=hl.c;refine⟨_,Ur h hl.c hl.t hl.g hl.f,λg wr hx=>QV.bad (by simpa using g) hx,λg wr Rg We=>?_⟩;have hW:Qp W:=by simpa using g
 have wp:=Qm.1 hW;refine I3 (PJ (h.ext Rg) wp.a) ?_;rintro e wv ⟨m',he,hM,SX⟩;have hK:=Wk.begin hy dY Rg We hM SX;have hr:=hK.rd;refine⟨_,_,_,_,_,_,_,_,_,_,he,Qg SX We,⟨Qo,Qo⟩,X5 W c,Qt,λg R6 Rl=>?_,λg=>?_⟩
 ·have hb:zar W c=1:=by unfold zar;rw[C' (by simpa using g)]
  exact QV.no hW (by rw[hb];decide) (hK.step Rl) hb
 have g:X5 W c:=by simpa using g
 obtain⟨c0,c1⟩:=UA g;refine⟨hr.c.ix Y9 c0 c1,_,hr.c.f c0 c1 (j:=1) rfl,λg2 R7 Rl=>?_,λg2 RN W8 dX=>?_⟩
 ·have g2:=Ot g2;have hb:zar W c=6:=by unfold zar;rw[B' (by rw[g];decide),C' g2]
  exact QV.no hW (by rw[hb];decide) (hK.step Rl) hb
 have g2:=Ou g2;have hb:zar W c=0:=by unfold zar;rw[B' (by rw[g];decide),B' g2]
 have gI:=hK.step W8;refine I3 (ZM gI.own c0 c1) ?_;rintro e1 Rc ⟨qC,fU⟩;exact⟨_,_,_,_,_,_,_,_,_,_,qC,gI.kept fU dX,λS5 Sx=>QV.ok hW hb ((gI.Sv fU dX).step Sx)⟩
def zuc(V:Q7)(t g c:Int)(m:MW):Qa (Ud V t g c) m=Qa V m:=by
 unfold Ud
 split <;> simp[Qa,Rb,RM,J']
def z4f{K:Int}{W:Q7}(sw:SW K W){t:Int}(t0:0<=t)(t1:t<12)(n:(Q8 W t).state≠0):SW K (Z1 W t):=by
 unfold Z1;split
 ·have:=sw.t t t0 t1 n;exact sw.Rb this.2.1 this.2.2
 ·exact sw
def CY{t g:Int}(h:J6 [] w W m)(hl:UV W) :
  Cz Ov #[.agg (Qa W m).toArray,I t,I g] w λe w'=>∃v,e=.returned v/\QV (Y7 W (NF W t g) (y8 W t g)) w v w':=by
 refine CB _ _ _ _ _ _ _ _ _ _ t g (R:=λv w'=>QV (Y7 W (NF W t g) (y8 W t g)) w v w') ?_;intro y hy y1 dY wr Rg We;refine I3 (Zi (h.ext Rg) hl) ?_;rintro e wv (⟨hW,he,SX⟩|⟨hW,m',he,hM,SX⟩)
 ·exact⟨_,_,_,_,_,_,_,_,_,_,_,he,Qg SX We,λ_ R6 Rl=>QV.bad hW ((Rg.trans SX).fresh Rl λz hm=>.inl (YF hy dY z hm)),λg=>by simp at g⟩
 have hK:=Wk.begin hy dY Rg We hM SX;have hr:=hK.rd;have wp:=Qm.1 hW;have qT:=wp.a.t;refine⟨_,_,_,_,_,_,_,_,_,_,_,he,Qg SX We,λg=>by split at g <;> simp at g,λ_=>⟨_,JP hr hl.t,_,λ_=>Xo hr.g,λq R7 Rl=>?_,λq=>?_⟩⟩
 ·have hb:NF W t g=2:=by
   unfold NF;rw[C']
   simpa using q
  exact QV.no hW (by rw[hb];decide) (hK.step Rl) hb
 simp only[H',I6] at q;obtain⟨q1,q2⟩:=q;have n1:¬(Yd W t=false\/Q6 W.IE g=false):=by rw[q1,q2];simp
 obtain⟨t0,t1,tn⟩:=ZY q1;have Wx:=hr.t.ix QT t0 t1;refine⟨λg3 RN Rl=>?_,λg3=>?_⟩
 ·have cA:¬QO W:=λhr=>by rw[C' hr] at g3;simp at g3
  have hb:NF W t g=10:=by unfold NF;rw[B' n1,C' (by simpa using cA)]
  rw[B' cA];exact QV.no hW (by rw[hb];decide) (hK.step Rl) hb
 have cA:QO W:=Iq λhr=>by rw[B' hr] at g3;simp at g3
 have hb:NF W t g=0:=by unfold NF;rw[B' n1,B' (by rw[cA];decide)]
 have sw:=MK wp (Qm.1 cA);obtain⟨hu,c0,c1⟩:=sw.t t t0 Qo tn;refine⟨Wx,_,_,_,_,_,_,_,_,_,hr.t t t0 t1,λb2 cH=>⟨λg4 RN W8=>?_,λg4=>?_⟩⟩
 ·have g4:(Q8 W t).II=g:=by simpa[Q8] using g4
  have hE:y8 W t g=W:=by unfold y8;rw[C' g4]
  have:=QV.ok (W':=y8 W t g) hW hb (m':=m') (hE.symm▸hK.step W8)
  rwa[hE] at this ⊢
 have g4:¬(Q8 W t).II=g:=by simpa[Q8] using g4
 have hE:y8 W t g=Qf (Ud (Z1 W t) t g (FSx W t g)):=by unfold y8;rw[B' g4]
 obtain⟨m0,m1,_⟩:=zly wp (g:=g) t0 Qo tn;have hK0:=hK.add cH;refine⟨_,Jg hr wp.a.c2 wp.a.tree q2,λvs bs w1=>bs=[]/\vs=[I (FSx W t g)]/\Q0 [y,y1] wv w1,⟨_,Yk,λg5=>⟨_,KS,λS5 Sx _=>⟨rfl,?_,Sx⟩⟩,λg5 Su bM _=>⟨rfl,?_,bM⟩⟩,?_⟩
 ·have g5:¬Zk (QF W g (Q8 W t).mask) (Q8 W t).R2:=by simpa[Q8] using g5
  unfold FSx;rw[B' g5];rfl
 ·have g5:Zk (QF W g (Q8 W t).mask) (Q8 W t).R2:=by simpa[Q8] using g5
  unfold FSx;rw[C' g5];rfl
 rintro cv Rc eR ⟨-,hv,hxv⟩;simp only[I4,I5,true_and,and_true] at hv;subst hv;have DF1:Q0 ([y,y1]++[b2]) wv Rc:=hxv.mono λx hm=>Ia _ hm
 have hK1:=hK0.step DF1;have e5:Qa (Rb W (Q8 W t).R2) m'=Qa W m':=by simp[Qa,Rb,RM]
 refine⟨λvs bs w1=>bs=[]/\vs=Qa W m'/\Wk 8 ([y,y1]++[b2]) w w1 (Z1 W t) m',⟨hK1.rd.c.ix Y9 c0 c1,_,hK1.rd.c.f c0 c1 (j:=1) rfl,λg6 SA gL hs7=>?_,λg6 WK qU _=>⟨rfl,rfl,?_⟩⟩,?_⟩
 ·have g6:(gi W.IF (Q8 W t).R2).cur=t:=by simpa using g6
  have gP:=hK1.step gL;refine I3 (ZM gP.own c0 c1) ?_;rintro e1 RO ⟨qC,fU⟩;rw[show Qa (Rb W (gi W.IJ t).R2) m'=Qa W m' from e5] at qC;refine⟨_,_,_,_,_,_,_,_,_,_,qC,gP.kept fU hs7,λSY vF _=>⟨rfl,rfl,?_⟩⟩;have hlv:Z1 W t=Rb W (Q8 W t).R2:=by unfold Z1;rw[C' g6]
  rw[hlv];exact(gP.Sv fU hs7).step vF
 ·have g6:¬(gi W.IF (Q8 W t).R2).cur=t:=by simpa using g6
  have hlv:Z1 W t=W:=by unfold Z1;rw[B' g6]
  rw[hlv];exact hK1.step qU
 rintro l RA Rz RQ RF RL RP RG RH RJ Si jS ⟨-,hv,wD⟩;simp only[Qa,I4,I5,Iv,true_and,and_true] at hv;obtain⟨rfl,⟨rfl,rfl,rfl⟩,⟨rfl,rfl,rfl⟩,rfl,rfl,rfl⟩:=hv;have swl:=z4f sw t0 Qo tn;have ht:(Z1 W t).IJ=W.IJ:=by unfold Z1;split <;> rfl
 have hg:(Z1 W t).IE=W.IE:=by unfold Z1;split <;> rfl
 have hcl:(Z1 W t).IF.length=W.IF.length:=by
  unfold Z1;split
  ·exact E'
  ·rfl
 have hn:(Z1 W t).now=W.now:=by unfold Z1;split <;> rfl
 have eL:∀mm,Qa (Z1 W t) mm=Qa W mm:=λmm=>by simp[Qa,ht,hg,hcl,hn]
 have tn2:(Q8 (Z1 W t) t).state≠0:=by rw[Xf ht];exact tn
 have hu2:Q6 (Z1 W t).IE g:=by rw[hg];exact q2
 have hm1:FSx W t g<((Z1 W t).IF.length:Int):=by rw[hcl];exact m1
 rw[hE];generalize Z1 W t=V at wD swl eL tn2 hu2 hm1;generalize FSx W t g=c at m0 hm1;intro Sl zH sA;have gI:=wD.step zH;have RI:=Vf gI.own (Lg swl) (I2 _) (by simp only[Qi];decide) (t:=t) (g:=g) (c:=c) t0 Qo tn2 hu2 m0 hm1;rw[eL] at RI;refine I3 RI ?_;rintro e2 bZ ⟨bS,jX⟩;have eI:=gI.Sv jX sA;have sf2:=(B8 (Lg swl) (I2 _) (t:=t) t0 Qo hu2 m0 hm1).2;have eP:Qa (Ud V t g c) m'=Qa W m':=by rw[<-eL];exact zuc V t g c m'
 refine⟨_,_,_,_,_,_,_,_,_,_,bS,gI.kept jX sA,λSm wQ AD3=>?_⟩;have hK6:=eI.step wQ;have AD0:=QB hK6.own sf2.w (by simp only[Qi];decide) (by simp only[Qi];decide) hK6.base;rw[eP] at AD0;refine I3 AD0 ?_;rintro e3 eD ⟨m2,gZ,hy5⟩;exact⟨_,_,_,_,_,_,_,_,_,_,gZ,hK6.kept hy5 AD3,λSy AD5=>QV.ok hW hb ((hK6.Sv hy5 AD3).step AD5)⟩
def q7{g:Int}(h:J6 bs w W m)(hg8:W.IE.length=8)(CS3:W.IJ.length=12) :
  PX bs Oz #[.agg (Qa W m).toArray,I g] w (.bool (Ju (zv8 W g))):=
 zah _ _ _ _ _ _ _ _ _ _ g λwr hx=>by
  have h:=(h.ext hx).less (cs:=[]) Qs;intro b hb;refine YU 8 1 rfl (λk=>1<=k/\k<=8/\∀j:Int,1<=j->j<(k:Int)->¬((gi W.IE j).IW/\(gi W.IE j).IG=g)) ⟨Qo,Qo,λj a b=>by omega⟩ λk ⟨hk1,hk8,rF⟩=>⟨λIV=>?_,λRW=>?_⟩
  ·have IV:=Ot IV;have k0:(0:Int)<=(k:Int):=Qo;refine⟨h.g.ix k0 IV,_,h.g.IW k0 IV,λ_=>h.g.ix k0 IV,_,λ_=>h.g.IG k0 IV,λq=>?_,λq=>⟨⟨Qo,Qo⟩,Qy Qo ⟨Qo,Qo,λj a b=>?_⟩⟩⟩
   ·rw[A',Is] at q;exact zmy (.inl ⟨(k:Int),Qo,Qo,q.1,q.2⟩)
   ·by_cases e:j<(k:Int)
    ·exact rF j a e
    ·have:j=(k:Int):=Qo;subst this;rintro⟨q1,q2⟩;rw[q1,Is.2 q2] at q;cases q
  ·have RW:=Ou RW;refine YU 12 0 rfl (λk=>k<=12/\∀j:Int,0<=j->j<(k:Int)->¬((Q8 W j).state≠0/\(Q8 W j).II=g)) ⟨Qo,λj a b=>by omega⟩ λk2 ⟨rD,hnt⟩=>⟨λRe=>?_,λbK=>?_⟩
   ·have Re:=Ot Re;have k0:(0:Int)<=(k2:Int):=Qo;refine⟨h.t.ix QT k0 Re,_,h.t.f k0 Re (j:=0) rfl,λ_=>h.t.ix QT k0 Re,_,λ_=>h.t.f k0 Re (j:=1) rfl,λq=>?_,λq=>⟨⟨Qo,Qo⟩,Qy Qo ⟨Qo,λj a b=>?_⟩⟩⟩
    ·rw[A',Is,It] at q;exact zmy (.inr ⟨(k2:Int),Qo,Qo,q.1,q.2⟩)
    ·by_cases e:j<(k2:Int)
     ·exact hnt j a e
     ·have:j=(k2:Int):=Qo;subst this;rintro⟨q1,q2⟩;have q1:(gi W.IJ (k2:Int)).state≠0:=q1;have q2:(gi W.IJ (k2:Int)).II=g:=q2;rw[It.2 q1,Is.2 q2] at q;cases q
   ·have bK:=Ou bK;refine Gg ?_;rintro (⟨j,a,b,c,d⟩|⟨j,a,b,c,d⟩)
    ·exact rF j a Qo ⟨c,d⟩
    ·exact hnt j a Qo ⟨c,d⟩
def Nt{g:Int}(h:J6 [] w W m)(hl:UV W) :
  Cz Tl #[.agg (Qa W m).toArray,I g] w λe w'=>∃v,e=.returned v/\QV (Y7 W (BX W g) (XW W g)) w v w':=by
 refine N2 _ _ _ _ _ _ _ _ _ _ g (R:=λv w'=>QV (Y7 W (BX W g) (XW W g)) w v w') ?_;intro x hx x1 Sn wr Rg We;refine I3 (Vv (g:=g) (ok:=true) (h.ext Rg) hl) ?_;rintro e wv (⟨hW,he,hy⟩|⟨hW,m',he,hM,hy⟩)
 ·exact⟨_,_,_,_,_,_,_,_,_,_,_,he,Qg hy We,λ_ R6 Rl=>QV.bad hW ((Rg.trans hy).fresh Rl λy hm=>.inl (YF hx Sn y hm)),λg=>by simp at g⟩
 have hK:=Wk.begin hx Sn Rg We hM hy;have hr:=hK.rd;have wp:=Qm.1 hW;refine⟨_,_,_,_,_,_,_,_,_,_,_,he,Qg hy We,λg1 R6 Rl=>?_,λg1=>⟨_,q7 hr wp.a.gl wp.a.t,λg2 R7 Rl=>?_,λg2=>⟨λg3 RD Rl=>?_,λg3=>?_⟩⟩⟩
 ·have hb:BX W g=Kq W g true:=by
   by_cases h0:g=0
   ·unfold BX Kq;rw[C' h0,C' (.inr h0)]
   ·have e0:¬(true=false\/g=0):=by simp[h0]
    by_cases h1:Q6 W.IE g=false
    ·unfold BX Kq;rw[B' h0,B' e0,C' h1,C' h1]
    ·exfalso
     unfold Kq at g1;rw[B' e0,B' h1] at g1
     split at g1 <;> simp at g1
  exact QV.no hW (λh0=>by rw[<-hb,h0] at g1;simp at g1) (hK.step Rl) hb
 all_goals
  have g1':¬g=0/\¬Q6 W.IE g=false:=by
   unfold Kq at g1
   by_cases h0:g=0
   ·rw[C' (.inr h0)] at g1;simp at g1
   ·refine⟨h0,λh1=>?_⟩;rw[B' (show ¬(true=false\/g=0) by simp[h0]),C' h1] at g1;simp at g1
  have hgB:Kq W g true=if QO W=false then 10 else 0:=by
   unfold Kq;rw[B' (show ¬(true=false\/g=0) by simp[g1'.1]),B' g1'.2]
 ·have hb:BX W g=4:=by unfold BX;rw[B' g1'.1,B' g1'.2,C' g2]
  exact QV.no hW (by rw[hb];decide) (hK.step Rl) hb
 ·have cA:QO W=false:=by
   cases hq:QO W with
   |false=>rfl
   |true=>rw[hgB,hq] at g3;simp at g3
  have hb:BX W g=10:=by unfold BX;rw[B' g1'.1,B' g1'.2,B' (by rw[g2];decide),C' cA]
  rw[hgB,C' cA];exact QV.no hW (by rw[hb];decide) (hK.step Rl) hb
 ·have cA:QO W:=by
   cases hq:QO W with
   |true=>rfl
   |false=>rw[hgB,hq] at g3;simp at g3
  have hb:BX W g=0:=by unfold BX;rw[B' g1'.1,B' g1'.2,B' (by rw[g2];decide),B' (by rw[cA];decide)]
  have hu:Q6 W.IE g:=by simpa using g1'.2
  obtain⟨u0,u1,_⟩:=Q5.1 hu;have cZ:=wp.a.gl
  have T':Wk 8 [x,x1] w (Rx wv m'.gO (Int.toNat g*14) (Yq zfu y9)) (XW W g) (GB m' g.toNat y9):=
   ⟨hK.s.call A3 λy hy=>(hK.own.lt y hy).1,⟨hK.own.B53 u0 Qo (g:=zfu) (p:=y9) (j:=0) (vs:=Yq zfu y9) ⟨.inl ⟨rfl,rfl,rfl⟩,.inl ⟨rfl,rfl,rfl⟩,.inl ⟨rfl,rfl,rfl⟩⟩ (λy hy=>by simp[Qu,y9,QL] at hy) (by simp[Yq]) (by simp[Yq]),λy hy hm=>by
    rcases OM y hy with h1|h1
    ·exact hK.nb y h1 hm
    ·simp[Qu,y9,QL] at h1⟩⟩
  refine⟨hr.g.ix u0 u1,zru hK.own hK.nb u0 Qo (j:=0) Qd,λRN W8=>?_⟩;have BH9:=QV.ok hW hb (T'.step W8);have ew:Qa (XW W g) (GB m' g.toNat y9)=Qa W m':=by simp[Qa,XW,R1,GB]
  rw[ew] at BH9;have hgz:Kq W g true=0:=by rw[hgB,B' (by rw[cA];decide)]
  exact BH9
end
def zso{V:Q7}(ha:WA V):UV V:=by
 have h1:=ha.c2;have h2:=ha.t;have h3:=ha.gl;have hm:=ZW;have hn1:=ha.n1;have hn2:=ha.n2;refine⟨Qo,Qo,Qo,λi a b=>?_⟩;have hb:=KH ha a Qo;have hg:=ha.grp i a Qo;have hz:(⟨[].toArray⟩:ByteArray).size=0:=rfl;refine⟨?_,?_,Qo,Qo,Qo⟩
 ·cases hu:(gi V.IE i).IW with
  |false=>rw[(hg.1 hu).n,hz];omega
  |true=>
   by_cases e:i=0
   ·rw[e,ha.tree.rn,hz];omega
   ·have:=(LH.1 (ha.tree.nm i Qo Qo hu)).1;omega
 cases hu:(gi V.IE i).IW with
 |false=>rw[(hg.1 hu).ne];exact⟨Qd,Qd⟩
 |true=>
  have hg:=hg.2 hu
  by_cases hq:(gi V.IE i).IM.I'=0
  ·rw[(hg.none hq).2.2];exact⟨Qd,Qd⟩
  ·have:=hg.IM hq;exact⟨Qo,Qo⟩
def H7{n:Nat}{p:Int}{name:ByteArray}{w:Wo}(hn:n<=4) :
  Cz Vo #[I (n:Int),I p,.string name] w λe w'=>∃mg,e=.returned (.agg (Yq (OJ n p name) mg).toArray)/\PF w.heap.size w' (OJ n p name,mg)/\Q0 [] w w':=by
 refine(zcy (n:Int) p name (R:=λv w'=>∃mg,v=.agg (Yq (OJ n p name) mg).toArray/\PF w.heap.size w' (OJ n p name,mg)/\Q0 [] w w') ?_).mono λe w' ⟨v,he,mg,hv,h3⟩=>⟨mg,by rw[he,hv],h3⟩
 intro b hb b1 dG
 refine⟨λvs w2=>∃(k:Nat) (o:OA) (cap:Nat),vs=[I (k:Int),.bool true,I p,.string name,I 10,I 15,I 0,I 0,I 0,I 0,I 0,I 0,.slice none 0 0,.slice none 0 0,.slice o k cap]/\k<=n/\Sc w [b,b1] w2/\Ob T4 5 ZI w.heap.size [b,b1] w2 o cap (List.replicate k FT),
  Zp n 0,λwr hx _=>⟨0,none,0,rfl,Ic _,(((Sc.start w).add hb).add dG).R5 hx,⟨.inl ⟨rfl,rfl,rfl⟩,by simp[QL]⟩⟩,?_⟩
 rintro c1 l l1 l2 l3 l4 l5 l6 l7 l8 l9 l10 iD iC hZ AY9 AY8 AY7 vH kB vG wv We ⟨k,o,cap,he,hk,s1,hO⟩;simp only[I4,I5,Value.bool.injEq,Value.string.injEq,Iv,true_and,and_true] at he;obtain⟨rfl,rfl,rfl,rfl,rfl,rfl,rfl,rfl,rfl,rfl,rfl,rfl,⟨rfl,rfl,rfl⟩,⟨rfl,rfl,rfl⟩,rfl,rfl,rfl⟩:=he;refine⟨λIV=>?_,λRW=>?_⟩
 ·have IV:=Ot IV;intro b3 wM RD Rl jS WY;have s2:=s1.put Rl wM;have vB:=hO.put Rl wM;obtain⟨o2,c2,w2,Wn,hk2,hO3,Rg⟩:=vB.AQ6 PR Pz (x:=FT) jS s2.ext.size WY (z4p _) (by simp;omega) Qd Za #[false,false];have s3:=s2.call Rg λx hm=>(vB.own.lt x hm).1
  have hL:List.replicate kB FT++[FT]=List.replicate (kB+1) FT:=by rw[List.replicate_succ']
  rw[hL] at Wn hO3;rw[List.length_replicate,List.length_replicate] at Wn;exact⟨_,_,_,w2,Wn,hk2,⟨Qo,Qo⟩,λRN W8 _=>⟨⟨kB+1,o2,c2,Qs,Qo,(s3.step W8).sub Qs,(hO3.step W8).sub Qs⟩,Z6 (k:=kB) rfl rfl Qo⟩⟩
 ·have RW:=Ou RW;have:kB=n:=Qo;subst this;intro S5 Sx;refine⟨⟨none,0,none,0,vH,vG⟩,?_,⟨.inl ⟨rfl,rfl,rfl⟩,.inl ⟨rfl,rfl,rfl⟩,(hO.step Sx).own⟩,(s1.step Sx).ext⟩;simp[Yq,OJ,ZD]
def z56:QS≠Zd:=Qd
def z23:QX≠Zd:=Qd
def z55:QX≠QS:=Qd
def Fy{i:Int}(h0:0<=i)(h1:i<8):gi (List.replicate 8 Pg) i=Pg:=by
 obtain⟨k,rfl⟩:=Int.eq_ofNat_of_zero_le h0;rw[Jq (by rw[List.length_replicate];omega)];exact List.getElem_replicate _
def zu8{base:Nat}{w:Wo}{o:OA}{cap:Nat}(h:Uy Oi 14 QX base w o cap (List.replicate 8 Pg)):Lo base w o cap (List.replicate 8 Pg):=by
 refine⟨h,λi h0 h1=>?_,λi j h0 h1 _ _ _ x hm=>?_⟩
 ·rw[Fy h0 (by simpa using h1)];exact⟨.inl ⟨rfl,rfl,rfl⟩,.inl ⟨rfl,rfl,rfl⟩,.inl ⟨rfl,rfl,rfl⟩⟩
 ·rw[Fy h0 (by simpa using h1)] at hm;simp[Qu,Pg,QL] at hm
section
variable {w:Wo}{b:Nat}
def z6s(b:Nat)(w:Wo)(vs:List Va)(bs:List Nat)(w2:Wo):Prop:=
 ∃(bx:Nat) (tO gO:OA) (tC gC:Nat),bs=[bx]/\vs=[I 0,.slice none 0 0,.slice tO 12 tC,.slice gO 8 gC]/\Sc w [b,bx] w2/\Ob X4 9 QS w.heap.size [b,bx] w2 tO tC (List.replicate 12 T3)/\Ob Oi 14 QX w.heap.size [b,bx] w2 gO gC (List.replicate 8 Pg)
def zyq{bs:List Nat}{w1:Wo}(s:Sc w bs w1)(hs:∀x∈bs,x<w1.heap.size):∃(o:OA) (c:Nat) (w2:Wo),(Instr.makeSlice Z5 (I 12) (I 12):Sem Va).run Tryz.prog w1=.ok (.slice o 12 c) w2/\Q9 bs w1 w2/\Q0 [] w1 w2/\Ob X4 9 QS w.heap.size bs w2 o c (List.replicate 12 T3):=
 ⟨_,_,_,KA M5 MM 12 Qd (by have:=ZW;omega) w1,Qg (Z9 _ _) hs,Z9 _ _,(Ob.of (Vg (enc:=X4) M5.len QS 12 T3 w1) hs).mono s.ext.size⟩
def zyp{bs:List Nat}{w1:Wo}(s:Sc w bs w1)(hs:∀x∈bs,x<w1.heap.size):∃(o:OA) (c:Nat) (w2:Wo),(Instr.makeSlice QH (I 8) (I 8):Sem Va).run Tryz.prog w1=.ok (.slice o 8 c) w2/\Q9 bs w1 w2/\Q0 [] w1 w2/\Ob Oi 14 QX w.heap.size bs w2 o c (List.replicate 8 Pg):=
 ⟨_,_,_,KA Yw Py 8 Qd (by have:=ZW;omega) w1,Qg (Z9 _ _) hs,Z9 _ _,(Ob.of (Vg (enc:=Oi) Yw.len QX 8 Pg w1) hs).mono s.ext.size⟩
def Gb{n:Nat}(n0:1<=n)(n1:n<=4) :
  Cz UH #[I (n:Int)] w λe w'=>∃m,e=.returned (.tuple #[.agg (Qa (J4 n) m).toArray,.bool true])/\Zj 8 w.heap.size w' (J4 n) m/\Q0 [] w w':=by
 refine(CF (n:Int) (R:=λv w'=>∃m,v=.tuple #[.agg (Qa (J4 n) m).toArray,.bool true]/\Zj 8 w.heap.size w' (J4 n) m/\Q0 [] w w') ?_).mono λe w' ⟨v,he,m,hv,h3⟩=>⟨m,by rw[he,hv],h3⟩
 intro b hb;have hin:YT (n:Int) 1 4:=Qv.2 ⟨Qo,Qo⟩;have s0:Sc w [b] w:=(Sc.start w).add hb;refine⟨_,Qt,λg=>(by rw[hin] at g;cases g),λ_=>⟨z6s b w,?_,?_⟩⟩
 ·refine⟨λR6 Sn eR=>?_,λSu bM hs6=>?_,λb5 hb5=>⟨λSm wQ AD3=>?_,λWm BY2 DB6=>?_⟩⟩
  ·have s1:=s0.R5 Sn;obtain⟨tO,tC,w2,hr,hk,he,hT⟩:=zyq s1 eR;have s2:=s1.R5 he;refine⟨_,_,_,w2,hr,hk,λR7 Rg We=>?_,λb2 cH RN W8 dX=>?_⟩
   ·have s3:=s2.step Rg;obtain⟨gO,gC,w3,hr3,hk3,gZ,hG⟩:=zyp s3 We;exact⟨_,_,_,w3,hr3,hk3,λb1 dG RD Rl _=>⟨b1,tO,gO,tC,gC,rfl,rfl,(s3.R5 gZ).put Rl dG,((hT.step Rg).R5 gZ).put Rl dG,hG.put Rl dG⟩⟩
   ·have s3:=s2.put W8 cH;obtain⟨gO,gC,w3,hr3,hk3,gZ,hG⟩:=zyp s3 dX;exact⟨_,_,_,w3,hr3,hk3,λS5 Sx _=>⟨b2,tO,gO,tC,gC,rfl,rfl,(s3.R5 gZ).step Sx,((hT.put W8 cH).R5 gZ).step Sx,hG.step Sx⟩⟩
  ·have s1:=s0.R5 bM;obtain⟨gO,gC,w2,hr,hk,he,hG⟩:=zyp s1 hs6;have s2:=s1.R5 he;refine⟨_,_,_,w2,hr,hk,λR7 Rg We=>?_,λb2 cH RN W8 dX=>?_⟩
   ·have s3:=s2.step Rg;obtain⟨tO,tC,w3,hr3,hk3,gZ,hT⟩:=zyq s3 We;exact⟨_,_,_,w3,hr3,hk3,λb1 dG RD Rl _=>⟨b1,tO,gO,tC,gC,rfl,rfl,(s3.R5 gZ).put Rl dG,hT.put Rl dG,((hG.step Rg).R5 gZ).put Rl dG⟩⟩
   ·have s3:=s2.put W8 cH;obtain⟨tO,tC,w3,hr3,hk3,gZ,hT⟩:=zyq s3 dX;exact⟨_,_,_,w3,hr3,hk3,λS5 Sx _=>⟨b2,tO,gO,tC,gC,rfl,rfl,(s3.R5 gZ).step Sx,hT.step Sx,((hG.put W8 cH).R5 gZ).step Sx⟩⟩
  ·have s1:=(s0.add hb5).R5 wQ;obtain⟨tO,tC,w2,hr,hk,he,hT⟩:=zyq s1 AD3;refine⟨_,_,_,w2,hr,hk,λR7 Rg We=>?_⟩;have s3:=(s1.R5 he).step Rg;obtain⟨gO,gC,w3,hr3,hk3,gZ,hG⟩:=zyp s3 We;exact⟨_,_,_,w3,hr3,hk3,λS5 Sx _=>⟨b5,tO,gO,tC,gC,rfl,rfl,(s3.R5 gZ).step Sx,((hT.step Rg).R5 gZ).step Sx,hG.step Sx⟩⟩
  ·have s1:=(s0.add hb5).R5 BY2;obtain⟨gO,gC,w2,hr,hk,he,hG⟩:=zyp s1 DB6;refine⟨_,_,_,w2,hr,hk,λR7 Rg We=>?_⟩;have s3:=(s1.R5 he).step Rg;obtain⟨tO,tC,w3,hr3,hk3,gZ,hT⟩:=zyq s3 We;exact⟨_,_,_,w3,hr3,hk3,λS5 Sx _=>⟨b5,tO,gO,tC,gC,rfl,rfl,(s3.R5 gZ).step Sx,hT.step Sx,((hG.step Rg).R5 gZ).step Sx⟩⟩
 ·rintro l RA Rz RQ RF RL RP RG RH RJ b6 fN sA ⟨bx,tO,gO,tC,gC,hbx,hv,s1,hT,hG⟩;simp only[I4,I5,Iv,true_and,and_true] at hbx hv;subst hbx;obtain⟨rfl,⟨rfl,rfl,rfl⟩,⟨rfl,rfl,rfl⟩,rfl,rfl,rfl⟩:=hv
  refine⟨λvs w2=>∃(k:Nat) (o:OA) (cap:Nat),vs=[I (k:Int),I 0,.slice o k cap,.slice RF 12 RP,.slice RG 8 RJ]/\k<=n/\Sc w [b,b6] w2/\Ob Gm 5 Zd w.heap.size [b,b6] w2 o cap (List.replicate k (⟨true,-1,0,0,0⟩:PZ))/\Ob X4 9 QS w.heap.size [b,b6] w2 RF RP (List.replicate 12 T3)/\Ob Oi 14 QX w.heap.size [b,b6] w2 RG RJ (List.replicate 8 Pg),
   Zp n 0,λwr hx _=>⟨0,none,0,rfl,Ic _,s1.step hx,⟨.inl ⟨rfl,rfl,rfl⟩,by simp[QL]⟩,hT.step hx,hG.step hx⟩,?_⟩
  rintro c1 l4 rH iZ rG qY uJ qX kD sB rI wv We ⟨k,o,cap,he,hk,s2,hC,hT2,hG2⟩;simp only[I4,I5,Iv,true_and,and_true] at he;obtain⟨rfl,rfl,⟨rfl,rfl,rfl⟩,⟨rfl,rfl,rfl⟩,rfl,rfl,rfl⟩:=he;clear hT hG;refine⟨λIV=>?_,λRW=>?_⟩
  ·have IV:=Ot IV;intro b3 wM RD Rl jS WY;have s3:=s2.put Rl wM;have hC2:=hC.put Rl wM;obtain⟨o2,c2,w2,Wn,hk2,hC3,Rg⟩:=hC2.AQ6 HJ KC (x:=(⟨true,-1,0,0,0⟩:PZ)) jS s3.ext.size WY (z4n _) (by simp;omega) Qd Zu #[false,false];have s4:=s3.call Rg λx hm=>(hC2.own.lt x hm).1
   have hT3:=(hT2.put Rl wM);have hT4:Ob X4 9 QS w.heap.size [b,b6,b3] w2 qY qX (List.replicate 12 T3):=⟨hT3.own.ext Rg (hT3.own.Wl hC2.own z56),hT3.nb⟩;have hG3:=(hG2.put Rl wM);have hG4:Ob Oi 14 QX w.heap.size [b,b6,b3] w2 kD rI (List.replicate 8 Pg):=⟨hG3.own.ext Rg (hG3.own.Wl hC2.own z23),hG3.nb⟩;have hL:List.replicate iZ (⟨true,-1,0,0,0⟩:PZ)++[⟨true,-1,0,0,0⟩]=List.replicate (iZ+1) (⟨true,-1,0,0,0⟩:PZ):=by rw[List.replicate_succ']
   rw[hL] at Wn hC3;rw[List.length_replicate,List.length_replicate] at Wn;exact⟨_,_,_,w2,Wn,hk2,⟨Qo,Qo⟩,λRN W8 _=>⟨⟨iZ+1,o2,c2,Qs,Qo,(s4.step W8).sub Qs,(hC3.step W8).sub Qs,(hT4.step W8).sub Qs,(hG4.step W8).sub Qs⟩,Z6 (k:=iZ) rfl rfl Qo⟩⟩
  ·have RW:=Ou RW;have:iZ=n:=Qo;subst this;intro S5 Sx gQ;have s3:=s2.step Sx;have hC3:=hC.step Sx;have hT3:=hT2.step Sx;have hG3:=hG2.step Sx;refine(H7 n1).mono λe w3 ⟨mg,he,hM,Rl⟩=>?_
   have s4:=s3.R5 Rl;have hC4:=hC3.R5 Rl;have hT4:=hT3.R5 Rl;have hG4:=hG3.R5 Rl;have G:=zu8 hG4.own
   have hmb:∀x∈Qu mg,x∉[b,b6]:=λx hm hx=>by
    have h1:=(hM.lt x hm).1;have h2:=gQ x hx;omega
   have P:=G.put (i:=0) (I2 _) Qs (p:=(OJ iZ (-1) ⟨[].toArray⟩,mg)) (hM.mono s3.ext.size) λj j0 j1 _ x hm=>by
    rw[Fy j0 (by simpa using j1)] at hm;simp[Qu,Pg,QL] at hm
   have hxs:=hG4.own.zS (Int.toNat 0*14) (Oi (OJ iZ (-1) ⟨[].toArray⟩,mg));have s5:Sc w [b,b6] (Rx w3 kD (Int.toNat 0*14) (Oi (OJ iZ (-1) ⟨[].toArray⟩,mg))):=⟨hG4.own.Cq1 _ _ s4.ext (I7 _),s4.new⟩;have hC5:=hC4.own.ext hxs (hC4.own.Wl hG4.own z23.symm);have hT5:=hT4.own.ext hxs (hT4.own.Wl hG4.own z55.symm);refine⟨_,_,_,_,_,_,_,_,_,_,_,_,_,_,_,_,_,_,_,_,he,Qg Rl gQ,rfl,hG4.own.ix (I2 _) Qs,hG4.own.wr Yw.len hG4.nb (i:=0) (j:=0) (I2 _) Qs Qd,λwr hx=>⟨⟨rH,rG,qY,qX,kD,rI,λk=>if k=0 then mg else Pg.2⟩,?_,⟨?_,?_,?_,rfl⟩,(s5.step hx).ext⟩⟩
   ·simp[Qa,J4]
   ·exact hC5.ext hx hC4.nb
   ·exact hT5.ext hx hT4.nb
   ·have hps:zs6 (J4 iZ) ⟨rH,rG,qY,qX,kD,rI,λk=>if k=0 then mg else Pg.2⟩=(List.replicate 8 Pg).set (Int.toNat 0) (OJ iZ (-1) ⟨[].toArray⟩,mg):=rfl;rw[hps];refine⟨P.row.ext hx hG4.nb,λi i0 i1=>(P.each i i0 i1).ext hx λx hm=>?_,P.dj⟩;have hi8:i<8:=by simpa using i1
    have:=QE (List.replicate 8 Pg) (OJ iZ (-1) ⟨[].toArray⟩,mg) (i:=0) (j:=i) (I2 _) Qs i0;rw[this] at hm
    split at hm
    ·exact hmb x hm
    ·rw[Fy i0 hi8] at hm;simp[Qu,Pg,QL] at hm
end
def OG(W:Q7)(j:Nat):Bool:=decide (1<=j) && !(gi W.IE (j:Int)).IW
def Tv(W:Q7):Int:=Eh (OG W) 8
def z5i(W:Q7)(p:Int)(name:ByteArray):Prop:=∃h:Int,1<=h/\h<8/\(gi W.IE h).IW/\(gi W.IE h).IG=p/\(gi W.IE h).name=name
open Classical in
noncomputable def LF(W:Q7)(p:Int)(name:ByteArray):Int:=if Uw name=false then 1 else if Q6 W.IE p=false then 2 else if z5i W p name then 7 else if dep 3 W.IE p=3 then 9 else if Tv W<0 then 3 else if QO W=false then 10 else 0
def zu0(W:Q7)(p:Int)(name:ByteArray):Q7:=Oc W (Tv W) p name
def znt(W:Q7):(Tv W = -1/\∀h:Int,1<=h->h<8->(gi W.IE h).IW)\/(1<=Tv W/\Tv W<8/\(gi W.IE (Tv W)).IW=false):=by
 rcases KO (OG W) 8 with ⟨h1,h2⟩|⟨h1,h2,h3,_⟩
 ·refine .inl ⟨h1,λh a b=>?_⟩;have:=h2 h.toNat Qo;unfold OG at this;rw[show ((h.toNat:Nat):Int)=h by omega,Ih (by omega:1<=h.toNat)] at this
  simpa using this
 ·have e:(((Tv W).toNat:Nat):Int)=Tv W:=by unfold Tv;omega
  have h3:OG W (Tv W).toNat:=h3;unfold OG at h3;rw[e,A',Ij,ID] at h3;refine .inr ⟨Qo,by unfold Tv;omega,h3.2⟩
def Ep{W:Q7}{p:Int}{name:ByteArray}(hb:LF W p name=0):zas W (Tv W) p name/\QO W:=by
 unfold LF at hb
 split at hb
 ·cases hb
 rename_i h1
 split at hb
 ·cases hb
 rename_i h2
 split at hb
 ·cases hb
 rename_i h3
 split at hb
 ·cases hb
 rename_i h4
 split at hb
 ·cases hb
 rename_i h5
 split at hb
 ·cases hb
 rename_i h6;rcases znt W with ⟨a,_⟩|⟨a,b,c⟩
 ·omega
 ·exact⟨⟨a,b,c,by simpa using h2,by simpa using h1,λh a1 a2 u e=>h3 ⟨h,a1,a2,u,e.1,e.2⟩,h4⟩,by simpa using h6⟩
section
variable {W:Q7}{m:MW}{w:Wo}
def OH{p:Int}{name:ByteArray}(h:J6 [] w W m)(hl:UV W) :
  Cz Qj #[.agg (Qa W m).toArray,I p,.string name] w λe w'=>∃v,e=.returned v/\OX (Uf W (LF W p name) (zu0 W p name) (Tv W)) w v w':=by
 refine N4 _ _ _ _ _ _ _ _ _ _ p name (R:=λv w'=>OX (Uf W (LF W p name) (zu0 W p name) (Tv W)) w v w') ?_;intro y hy y1 dY wr Rg We;refine I3 (Zi (h.ext Rg) hl) ?_;rintro e wv (⟨hW,he,SX⟩|⟨hW,m',he,hM,SX⟩)
 ·exact⟨_,_,_,_,_,_,_,_,_,_,_,he,Qg SX We,true,λg=>by simp at g,λ_ R6 Rl=>OX.bad hW ((Rg.trans SX).fresh Rl λz hm=>.inl (YF hy dY z hm)),λg=>by simp at g⟩
 have hK:=Wk.begin hy dY Rg We hM SX;have hr:=hK.rd;have wp:=Qm.1 hW;have cZ:=wp.a.gl;have hc1:((if QO W=true then 0 else 10:Int)==1)=false:=by split <;> rfl
 refine⟨_,_,_,_,_,_,_,_,_,_,_,he,Qg SX We,_,λ_=>DH,λg1 R6 Rl=>?_,λg1=>⟨_,Xo hr.g,λg2 R7 Rl=>?_,λg2=>?_⟩⟩
 ·rw[hc1] at g1;have hb:LF W p name=1:=by unfold LF;rw[C' (by simpa using g1)]
  exact OX.no hW (by rw[hb];decide) (hK.step Rl) hb
 ·rw[hc1] at g1;have n1:¬Uw name=false:=by simpa using g1
  have hb:LF W p name=2:=by unfold LF;rw[B' n1,C' (by simpa using g2)]
  exact OX.no hW (by rw[hb];decide) (hK.step Rl) hb
 rw[hc1] at g1;have n1:¬Uw name=false:=by simpa using g1
 have hu:Q6 W.IE p:=by simpa using g2
 have n2:¬Q6 W.IE p=false:=by rw[hu];decide
 refine⟨λvs w1=>∃k:Nat,vs=[I (k:Int),I 0,.slice none 0 0,.slice none 0 0,.slice none 0 0]/\1<=k/\k<=8/\(∀q:Int,1<=q->q<(k:Int)->(gi W.IE q).IW->¬((gi W.IE q).IG=p/\(gi W.IE q).name=name))/\Q0 [y,y1] wv w1,
  Zp 8 0,λw1 hx0 _=>⟨1,rfl,Qo,Qo,λq a b=>by omega,hx0⟩,?_⟩
 rintro h1 l RA Rz RQ RF RL RP RG RH RJ RO jS ⟨k,bS,hk1,hk8,rF,hxw⟩;simp only[I4,I5,Iv,true_and,and_true] at bS;obtain⟨rfl,rfl,⟨rfl,rfl,rfl⟩,⟨rfl,rfl,rfl⟩,rfl,rfl,rfl⟩:=bS;have hK1:=hK.step hxw;have hr1:=hK1.rd;refine⟨λIV=>?_,λRW=>?_⟩
 ·have IV:=Ot IV;have eJ:(0:Int)<=(k:Int):=Qo;refine⟨hr1.g.ix eJ IV,_,hr1.g.IW eJ IV,λ_=>hr1.g.ix eJ IV,_,λ_=>hr1.g.IG eJ IV,λ_=>hr1.g.ix eJ IV,_,λ_=>hr1.g.name eJ IV,λg3 S5 Sx=>?_,λg3=>⟨⟨Qo,Qo⟩,λSu bM _=>⟨⟨k+1,Qs,Qo,Qo,λq q1 q2 qu=>?_,hxw.trans bM⟩,Z6 (k:=k) rfl rfl Qo⟩⟩⟩
  ·rw[A',A',JS,Is] at g3;have hb:LF W p name=7:=by unfold LF;rw[B' n1,B' n2,C' ⟨k,Qo,Qo,g3.1.1,g3.1.2,g3.2⟩]
   exact OX.no hW (by rw[hb];decide) (hK1.step Sx) hb
  ·by_cases e:q<(k:Int)
   ·exact rF q q1 e qu
   ·have:q=(k:Int):=Qo;subst this;rintro⟨c1,c2⟩;rw[qu,Is.2 c1,JS.2 c2] at g3;cases g3
 have RW:=Ou RW;have:k=8:=Qo;subst this;have n3:¬z5i W p name:=λ⟨q,a,b,c,d,e⟩=>rF q a Qo c ⟨d,e⟩
 refine⟨_,Ms hr1.g (by rw[cZ];have:=ZW;omega),λg4 SA gL=>?_,λg4=>⟨⟨Qo,Qo⟩,?_⟩⟩
 ·rw[zky wp.a.tree hu,Is] at g4;have hb:LF W p name=9:=by unfold LF;rw[B' n1,B' n2,B' n3,C' g4]
  exact OX.no hW (by rw[hb];decide) (hK1.step gL) hb
 rw[zky wp.a.tree hu,beq_eq_false_iff_ne] at g4
 refine⟨λvs w1=>∃a t:Int,vs=[I a,I t]/\0<=t/\t<8/\(a = -1/\(∀j:Nat,t<(j:Int)->j<8->OG W j=false)\/t<a/\a<8/\OG W a.toNat/\∀j:Nat,t<(j:Int)->(j:Int)<a->OG W j=false)/\Q0 [y,y1] RO w1,
  λvs _=>(Y4 1 vs+1).toNat,λw1 hx0 _=>⟨-1,_,rfl,Qo,Qo,.inl ⟨rfl,λj h1 h2=>by omega⟩,hx0⟩,?_⟩
 rintro av tv Si dX ⟨a,t,bS,ht0,ht1,Ac2,CS7⟩;simp only[I4,I5,true_and,and_true] at bS;obtain⟨rfl,rfl⟩:=bS;have gP:=hK1.step CS7;have hr2:=gP.rd;refine⟨λIV=>?_,λbK=>?_⟩
 ·have IV:=Ot IV;have e:((tv.toNat:Nat):Int)=tv:=Qo;have vM:OG W tv.toNat = !(gi W.IE tv).IW:=by unfold OG;rw[e,Ih (by omega:1<=tv.toNat)];rfl
  refine⟨hr2.g.ix Qo Qo,_,hr2.g.IW Qo Qo,λg3=>⟨⟨Qo,Qo⟩,λS5 Sx _=>⟨⟨tv,tv-1,rfl,Qo,Qo,.inr ⟨Qo,ht1,by rw[vM];exact g3,λj h1 h2=>by omega⟩,CS7.trans Sx⟩,?_⟩⟩,λg3=>⟨⟨Qo,Qo⟩,λSu bM _=>⟨⟨av,tv-1,rfl,Qo,Qo,?_,CS7.trans bM⟩,?_⟩⟩⟩
  ·simp only[Y4,Ie,List.getElem?_cons_succ];omega
  ·have g3:OG W tv.toNat=false:=by rw[vM];exact g3
   have one:∀j:Nat,tv-1<(j:Int)->¬tv<(j:Int)->OG W j=false:=λj h1 h2=>by
    have:j=tv.toNat:=Qo;rw[this];exact g3
   rcases Ac2 with ⟨h1,h2⟩|⟨h1,h2,h3,h4⟩
   ·exact .inl ⟨h1,λj j1 j2=>if h:tv<(j:Int) then h2 j h j2 else one j j1 h⟩
   ·exact .inr ⟨Qo,h2,h3,λj j1 j2=>if h:tv<(j:Int) then h4 j h j2 else one j j1 h⟩
  ·simp only[Y4,Ie,List.getElem?_cons_succ];omega
 have bK:=Ou bK;have ht:tv=0:=Qo;subst ht;have hz:OG W 0=false:=rfl
 have AD1:av=Tv W:=by
  rcases Ac2 with ⟨h1,h2⟩|⟨h1,h2,h3,h4⟩
  ·rw[h1];exact(zse λj hj=>if e:j=0 then by rw[e];exact hz else h2 j Qo hj).symm
  ·exact(zsd Qo h2 h3 λj hj=>if e:j=0 then by rw[e];exact hz else h4 j Qo hj).symm
 subst AD1;refine⟨λg5 SA gL=>?_,λg5=>⟨λg6 SY vF=>?_,λg6 Wd B24 Ck9=>?_⟩⟩
 ·have g5:=Ot g5;have hb:LF W p name=3:=by unfold LF;rw[B' n1,B' n2,B' n3,B' g4,C' g5]
  exact OX.no hW (by rw[hb];decide) (gP.step gL) hb
 ·have g5:=Ou g5;have cA:¬QO W:=λhr=>by rw[C' hr] at g6;simp at g6
  have hb:LF W p name=10:=by unfold LF;rw[B' n1,B' n2,B' n3,B' g4,B' g5,C' (by simpa using cA)]
  rw[B' cA];exact OX.no hW (by rw[hb];decide) (gP.step vF) hb
 have g5:=Ou g5;have cA:QO W:=Iq λhr=>by rw[B' hr] at g6;simp at g6
 have hb:LF W p name=0:=by unfold LF;rw[B' n1,B' n2,B' n3,B' g4,B' g5,B' (by rw[cA];decide)]
 obtain⟨hf,_⟩:=Ep hb;have a1:=hf.a1;have a8:=hf.a8;have wD:=gP.step B24;refine(H7 (n:=W.IF.length) wp.a.c2).mono λe1 bZ ⟨mg,qC,hMg,W8⟩=>?_
 have gI:=wD.R5 W8;have hold:∀x∈QN 8 m',x<Wd.heap.size:=λx hx=>(wD.own.lt x hx).2
 have A90:∀x∈Qu mg,Wd.heap.size<=x:=λx hx=>(hMg.lt x hx).1
 have T':Wk 8 [y,y1] w (Rx bZ m'.gO (Int.toNat (Tv W)*14) (Yq (OJ W.IF.length p name) mg)) (zu0 W p name) (GB m' (Tv W).toNat mg):=
  ⟨gI.s.call A3 λx hx=>(gI.own.lt x hx).1,⟨gI.own.B53 Qo a8 (g:=OJ W.IF.length p name) (p:=mg) (j:=0) (vs:=Yq (OJ W.IF.length p name) mg) (hMg.mono wD.base) (λx hx=>.inl λfT=>by have:=hold x fT;have:=A90 x hx;omega) (by simp[Yq,ZD]) (by simp[Yq,ZD]),λx hx hm=>by
   rcases OM x hx with h1|h1
   ·exact gI.nb x h1 hm
   ·have:=A90 x h1;have:=Ck9 x hm;omega⟩⟩
 refine⟨_,_,_,_,_,_,_,_,_,_,_,_,_,_,_,_,_,_,_,_,qC,Qg W8 Ck9,rfl,hr2.g.ix Qo Qo,zru gI.own gI.nb Qo a8 (j:=0) (k:=14) Qd,λWm BY2=>?_⟩;have BH9:=OX.ok (a:=Tv W) hW hb (T'.step BY2);have ew:Qa (zu0 W p name) (GB m' (Tv W).toNat mg)=Qa W m':=by simp[Qa,zu0,Oc,R1,GB]
 rw[ew] at BH9;exact BH9
end
inductive XO (W:Q7):Q7->Prop
 |same:XO W W
 |run (c n:Int) (hb:Yl W c n=0):XO W (YA W c n)
 |yld (c:Int) (hb:zar W c=0):XO W (Rb W c)
 |fork (g n x:Int) (hb:Vc W g n x=0):XO W (DB W g n x)
 |block (t:Int) (hb:VB W t=0):XO W (zcf W t)
 |Cq6 (t:Int) (hb:MO W t=0):XO W (Bk W t)
 |exit (t:Int) (hb:Oa W t=0):XO W (Fw W t)
 |nice (t n:Int) (hb:Pc W t n=0):XO W (L2 W t n)
 |pin (t x:Int) (hb:Ds W t x=0):XO W (zve W t x)
 |mov (t g:Int) (hb:NF W t g=0):XO W (y8 W t g)
 |mak (a p:Int) (name:ByteArray) (hm:zas W a p name):XO W (Oc W a p name)
 |drp (g:Int) (hd:zfw W g):XO W (XW W g)
 |wgh (g x:Int) (hb:zik W g x=0):XO W (zrs W g x)
 |gpn (g x:Int) (hb:zle W g x=0):XO W (zuk W g x)
 |lim (g q p:Int) (hb:zls W g q p=0):XO W (zyf W g q p)
 |time (n:Int) (hb:Lh W n=0):XO W (zfr W n)
 |bal (c:Int) (hb:E6 W c=0):XO W (zcd W c)
 |off (c:Int) (hb:UZ W c true (Gt W)=0):XO W (zu6 W c)
 |on (c:Int) (hb:UZ W c false 0=0):XO W (z5f W c)
structure M0 (P:Nat->Q7->Prop):Prop where
 mono:∀{n m:Nat} {W:Q7},n<=m->P n W->P m W
 new:∀{n k:Nat},1<=k->k<=4->P n (J4 k)
 fork:∀{n:Nat} {W:Q7} {g q x:Int},Xk W->P n W->Vc W g q x=0->P n (DB W g q x)
 mak:∀{n:Nat} {W:Q7} {a p:Int} {name:ByteArray},Xk W->P n W->zas W a p name->P n (Oc W a p name)
 Sv:∀{n:Nat} {W V:Q7},n<=10000->Xk W->P n W->XO W V->P (n+10) V
def Q0.kept{bs B:List Nat}{w w':Wo}(h:Q0 bs w w')(hB:∀x∈B,x<w.heap.size/\x∉bs):Q9 B w w':=λx hx=>h.block x (hB x hx).1 (hB x hx).2
def zya{b x:Nat}{w w':Wo}(h:Q0 [b] w w')(h1:x<w.heap.size)(h2:x≠b):Q9 [x] w w':=h.kept λy hy=>by
 rw[IA.1 hy];exact⟨h1,by simpa using h2⟩
def z5b(v:Int):Prop := -2<=v/\v<=21
def zn2{b:Nat}{c:OA}{L N:Nat}{w:Wo}(h:OP b c L N w)(hN:N<=900000000000) :
  Cz ZU #[.pointer (some ⟨b,0,none⟩)] w λe w'=>∃v,e=.returned (I v)/\z5b v/\OP b c L (N+2) w'/\Q0 [b] w w':=by
 refine(Dj (some ⟨b,0,none⟩) (R:=λv w'=>∃x,v=I x/\z5b x/\OP b c L (N+2) w'/\Q0 [b] w w') ?_).mono λe w' ⟨v,he,x,hv,h1,h2,h3⟩=>⟨x,by rw[he,hv],h1,h2,h3⟩
 refine λwr hx _=>(Em (h.WR hx) Qo).mono λe w1 ⟨v,he,hv,hr1,Sn⟩=>⟨v,he,Xj,λ_=>?_,λ_ b1 dG RD Rl hsz=>?_⟩
 ·refine λR6 hy _=>(Em (hr1.WR hy) Qo).mono λe w2 ⟨u,he,hu,hr2,Rg⟩=>⟨u,he,Xj,?_⟩
  have hu1:=hu.1;have hu2:=hu.2.2 Qd;exact⟨U7 Qo Qo,λR7 hz=>⟨_,rfl,⟨Qo,Qo⟩,hr2.WR hz,(hx.of_nil.trans Sn).trans (hy.of_nil.trans (Rg.trans hz.of_nil))⟩⟩
 ·refine(Em (hr1.WR Rl) Qo).mono λe w2 ⟨u,he,hu,hr2,Rg⟩=>⟨u,he,zya Rg (hsz b1 Qs) (by have:=hr1.lt;omega),?_⟩
  have hu1:=hu.1;have hu2:=hu.2.2 Qd
  have fin:∀(x:Int),z5b x->∀RN,Q0 [b1] w2 RN->∃x',I x=I x'/\z5b x'/\OP b c L (N+2) RN/\Q0 [b] w RN:=λx hxv RN hz=>
   ⟨x,rfl,hxv,hr1.C21 hr2 hz (by simpa using dG),(hx.of_nil.trans Sn).trans ((Rl.of_nil.trans Rg)) |>.fresh hz (λy hy=>by
    rw[IA.1 hy];have h1:=hx.size;have h2:=Sn.size;exact .inl Qo)⟩
  have:u=0\/u=1\/u=2\/u=3\/u=4\/u=5\/u=6\/u=7\/u=8\/u=9:=Qo;refine⟨⟨hu1,hu2⟩,?_⟩;rcases this with rfl|rfl|rfl|rfl|rfl|rfl|rfl|rfl|rfl|rfl <;> exact⟨_,⟨Qd,rfl⟩,fin _ ⟨Qd,Qd⟩⟩
def GH(c:OA)(L:Nat)(w:Wo):Prop:=∀i<L,∃(a:Addr) (x:Int),c=some a/\0<=x/\x<=255/\w.cell? (a.add i)=some (.int .u8 x)
def GH.ext{c:OA}{L:Nat}{w w':Wo}(h:GH c L w)(hx:Q0 [] w w'):GH c L w':=λi hi=>by
 obtain⟨a,x,ha,h1,h2,h3⟩:=h i hi;obtain⟨a',e,_,h''⟩:=(show JE [] w c i (.int .u8 x) from ⟨a,ha,Qs,h3⟩).ext hx;rw[ha] at e;cases e;exact⟨a,x,ha,h1,h2,h''⟩
structure RS (rb:Nat) (c:OA) (L N:Nat) (bs:List Nat) (w:Wo):Prop where
 rd:OP rb c L N w
 nb:rb∉bs
 oc:∀a,c=some a->a.block∉bs\/L=0
section
variable {rb:Nat}{c:OA}{L N:Nat}{bs cs:List Nat}{w w':Wo}{b:Nat}
def RS.step(h:RS rb c L N bs w)(hx:Q0 bs w w'):RS rb c L N bs w':=⟨h.rd.ext hx h.nb h.oc,h.nb,h.oc⟩
def RS.R5(h:RS rb c L N bs w)(hx:Q0 [] w w'):RS rb c L N bs w':=⟨h.rd.WR hx,h.nb,h.oc⟩
def RS.add(h:RS rb c L N bs w)(hb:w.heap.size<=b):RS rb c L N (bs++[b]) w:=⟨h.rd,λhm=>by
 rcases Im.1 hm with hm|hm
 ·exact h.nb hm
 ·have:rb=b:=by simpa using hm
  have:=h.rd.lt;omega,λa ha=>by
 rcases h.oc a ha with h1|h1
 ·rcases h.rd.ltc a ha with h2|h2
  ·refine .inl λhm=>?_
   rcases Im.1 hm with hm|hm
   ·exact h1 hm
   ·have:a.block=b:=by simpa using hm
    omega
  ·exact .inr h2
 ·exact .inr h1⟩
def RS.put(h:RS rb c L N bs w)(hx:Q0 bs w w')(hb:w.heap.size<=b):RS rb c L N (bs++[b]) w':=⟨(h.step hx).rd,(h.add hb).nb,(h.add hb).oc⟩
def RS.sub(h:RS rb c L N bs w)(hs:∀x∈cs,x∈bs):RS rb c L N cs w:=⟨h.rd,λhm=>h.nb (hs _ hm),λa ha=>by
 rcases h.oc a ha with h1|h1
 ·exact .inl λhm=>h1 (hs _ hm)
 ·exact .inr h1⟩
def RS.upd{M:Nat}(h:RS rb c L N bs w)(k:OP rb c L M w'):RS rb c L M bs w':=⟨k,h.nb,h.oc⟩
def RS.mono{M:Nat}(h:RS rb c L N bs w)(hm:N<=M):RS rb c L M bs w:=⟨h.rd.mono hm,h.nb,h.oc⟩
def Sc.BM5{w0:Wo}(h:Sc w0 (rb::bs) w)(hx:Q0 bs w w'):Sc w0 (rb::bs) w':=h.step (hx.mono λ_ hm=>I1 _ hm)
def Sc.B52{w0:Wo}(h:Sc w0 (rb::bs) w)(hx:Q0 [rb] w w'):Sc w0 (rb::bs) w':=h.step (hx.mono λx hm=>by
 have:x=rb:=by simpa using hm
 subst this;simp)
def Sc.Bs6{w0:Wo}(h:Sc w0 (rb::bs) w)(hx:Q0 bs w w')(hb:w.heap.size<=b):Sc w0 (rb::(bs++[b])) w':=h.put (hx.mono λ_ hm=>I1 _ hm) hb
def En(h:RS rb c L N bs w)(hx:Q0 [rb] w w')(hs:∀x∈bs,x<w.heap.size):Q9 bs w w':=KW hx hs λx hm jW=>by
 have:x=rb:=by simpa using hm
 subst this;exact h.nb jW
end
section
variable {α:Type}{enc:α->List Va}{z:Nat}{ty:TypeId}{base rb:Nat}{bs:List Nat}{w w':Wo}{o:OA}{cap:Nat}{l:List α}{b:Nat}
end
def zdv{c:OA}{L C:Nat}{w:Wo}(h:GH c L w)(hC:L<=C) :
  Cz JK #[.slice c L C] w λe w'=>∃b c' L',e=.returned (.pointer (some ⟨b,0,none⟩))/\w.heap.size<=b/\OP b c' L' 0 w'/\Q0 [] w w'/\∀a',c'=some a'->L'=0\/(0<L/\∃a,c=some a/\a'.block=a.block):=by
 refine(zcx c L C (R:=λv w'=>∃b c' L',v=.pointer (some ⟨b,0,none⟩)/\w.heap.size<=b/\OP b c' L' 0 w'/\Q0 [] w w'/\∀a',c'=some a'->L'=0\/(0<L/\∃a,c=some a/\a'.block=a.block)) ?_).mono λe w' ⟨v,he,b,c',L',hv,h1,h2,h3⟩=>⟨b,c',L',by rw[he,hv],h1,h2,h3⟩
 refine⟨λIV=>⟨⟨Qo,Qo,by have:=Ot IV;omega⟩,λb wb hx hb hh _ wr hy=>⟨b,if C=Int.toNat 0 then c else c.map (·.add (Int.toNat 0*1)),Int.toNat 2000-Int.toNat 0,rfl,hb,?_,hx.trans hy,λa' ha'=>?_⟩⟩,λIV b wb hx hb hh _ wr hy=>⟨b,c,L,rfl,hb,?_,hx.trans hy,λa' ha'=>?_⟩⟩
 ·refine OP.WR ⟨⟨_,0,hh,Qo,Qo⟩,λi hi=>?_⟩ hy;have IV:=Ot IV;obtain⟨a,x,ha,h1,h2,h3⟩:=h.ext hx i (by have:i<2000-0:=hi;omega);obtain⟨a0,x0,ha0,_,_,h30⟩:=h i (by have:i<2000-0:=hi;omega);have Re:=World.block_lt_of_cell? w _ h30;rw[Zz] at Re;rw[ha] at ha0;cases ha0;rw[B' (show ¬C=Int.toNat 0 from λe=>by have:C=0:=e;omega),ha];refine⟨a.add 0,x,rfl,by rw[Zz];omega,h1,h2,?_⟩;rw[JF,Nat.zero_add];exact h3
 ·have IV:=Ot IV;refine .inr ⟨Qo,?_⟩;rw[B' (show ¬C=Int.toNat 0 from λe=>by have:C=0:=e;omega)] at ha'
  cases c with
  |none=>cases ha'
  |some a=>
   simp only[Option.map_some,I0] at ha';exact⟨a,rfl,by rw[<-ha',Zz]⟩
 ·refine OP.WR ⟨⟨_,0,hh,Qo,Qo⟩,λi hi=>?_⟩ hy;obtain⟨a,x,ha,h1,h2,h3⟩:=h.ext hx i hi;obtain⟨a0,x0,ha0,_,_,h30⟩:=h i hi;have Re:=World.block_lt_of_cell? w _ h30;rw[Zz] at Re;rw[ha] at ha0;cases ha0;exact⟨a,x,ha,Qo,h1,h2,h3⟩
 ·rcases Nat.eq_zero_or_pos L with h0|h0
  ·exact .inl h0
  ·exact .inr ⟨h0,a',ha',rfl⟩
structure Dr (rb:Nat) (c:OA) (L N n:Nat) (bs:List Nat) (w0 w:Wo):Prop where
 r:RS rb c L (N+n) bs w
 ext:Q0 [rb] w0 w
 new:∀x∈bs,w0.heap.size<=x
section
variable {rb b b2:Nat}{c:OA}{L N n k:Nat}{bs cs:List Nat}{w0 w w':Wo}
def Dr.start(h:OP rb c L N w):Dr rb c L N 0 [] w w:=⟨⟨h,Qs,λ_ _=>.inl Qs⟩,Q0.refl _ _,Qs⟩
def Dr.step(h:Dr rb c L N n bs w0 w)(hx:Q0 bs w w'):Dr rb c L N n bs w0 w':=⟨h.r.step hx,h.ext.fresh hx λx hm=>.inl (h.new x hm),h.new⟩
def Dr.add(h:Dr rb c L N n bs w0 w)(hb:w.heap.size<=b):Dr rb c L N n (bs++[b]) w0 w:=⟨h.r.add hb,h.ext,λx hm=>by
 rcases Im.1 hm with hm|hm
 ·exact h.new x hm
 ·have:x=b:=by simpa using hm
  have:=h.ext.size;omega⟩
def Dr.put(h:Dr rb c L N n bs w0 w)(hx:Q0 bs w w')(hb:w.heap.size<=b):Dr rb c L N n (bs++[b]) w0 w':=(h.add hb).step (hx.mono λ_ hm=>Ia _ hm)
def Dr.AH9(h:Dr rb c L N n bs w0 w)(hx:Q0 bs w w')(hb:w.heap.size<=b)(cH:w.heap.size<=b2):Dr rb c L N n (bs++[b]++[b2]) w0 w':=((h.add hb).add cH).step (hx.mono λ_ hm=>Ia _ (Ia _ hm))
def Dr.more{m:Nat}(h:Dr rb c L N n bs w0 w)(hm:n<=m):Dr rb c L N m bs w0 w:=⟨h.r.mono Qo,h.ext,h.new⟩
def Dr.sub(h:Dr rb c L N n bs w0 w)(hs:∀x∈cs,x∈bs):Dr rb c L N n cs w0 w:=⟨h.r.sub hs,h.ext,λx hm=>h.new x (hs x hm)⟩
def Dr.fin{m:Nat}(h:Dr rb c L N n bs w0 w)(hm:n<=m):OP rb c L (N+m) w/\Q0 [rb] w0 w:=⟨(h.more hm).r.rd,h.ext⟩
def Dr.call{f:FuncId}{args:Array Va}{Q:Int->Prop}(h:Dr rb c L N n bs w0 w)(hs:∀x∈bs,x<w.heap.size)(hc:Cz f args w λe w'=>∃v,e=.returned (I v)/\Q v/\OP rb c L (N+n+k) w'/\Q0 [rb] w w') :
  Cz f args w λe w'=>∃v,e=.returned (I v)/\Q9 bs w w'/\Q v/\Dr rb c L N (n+k) bs w0 w':=
 hc.mono λe w' ⟨v,he,hq,hr,hx⟩=>⟨v,he,En h.r hx hs,hq,⟨h.r.upd (by rw[<-Nat.add_assoc];exact hr),h.ext.trans hx,h.new⟩⟩
def Dr.pick(h:Dr rb c L N n bs w0 w)(hN:N+n<=1000000000000)(hs:∀x∈bs,x<w.heap.size){q:Int} :
  Cz Q3 #[.pointer (some ⟨rb,0,none⟩),I q] w λe w'=>∃v,e=.returned (I v)/\Q9 bs w w'/\GJ q v/\Dr rb c L N (n+1) bs w0 w':=h.call hs (Em h.r.rd hN)
def Dr.R3(h:Dr rb c L N n bs w0 w)(hN:N+n<=900000000000)(hs:∀x∈bs,x<w.heap.size) :
  Cz ZU #[.pointer (some ⟨rb,0,none⟩)] w λe w'=>∃v,e=.returned (I v)/\Q9 bs w w'/\z5b v/\Dr rb c L N (n+2) bs w0 w':=h.call hs (zn2 h.r.rd hN)
end
def z67:Va->Bool
 |.int .i64 _=>true
 |_=>false
def z69:Va->Bool
 |.string _=>true
 |_=>false
def z5v{v:Int}{k:Nat}{ls:List Va}{P:Int->Prop}(ha:ls.all z67)(hl:ls.length=k)(h0:0<=v)(h1:v<(k:Int))(h:∀x,P x):∃x:Int,(0<=v/\ls[Int.toNat v+0]? = some (I x))/\P x:=by
 have IV:Int.toNat v+0<ls.length:=Qo;have:=List.all_eq_true.1 ha _ (List.getElem_mem IV);have e:=Il IV;generalize ls[Int.toNat v+0]=y at this e;unfold z67 at this
 split at this
 ·exact⟨_,⟨h0,e⟩,h _⟩
 ·cases this
def z64{v:Int}{k:Nat}{ls:List Va}{P:ByteArray->Prop}(ha:ls.all z69)(hl:ls.length=k)(h0:0<=v)(h1:v<(k:Int))(h:∀x,P x):∃x:ByteArray,(0<=v/\ls[Int.toNat v+0]? = some (.string x))/\P x:=by
 have IV:Int.toNat v+0<ls.length:=Qo;have:=List.all_eq_true.1 ha _ (List.getElem_mem IV);have e:=Il IV;generalize ls[Int.toNat v+0]=y at this e;unfold z69 at this
 split at this
 ·exact⟨_,⟨h0,e⟩,h _⟩
 ·cases this
def z22(x:Int):Qq .i64 (10-ZK (zlu x 1) 20):=by
 have:1<=ZK (zlu x 1) 20/\ZK (zlu x 1) 20<=20:=by
  have h:1<=zlu x 1:=by unfold zlu;split <;> omega
  unfold ZK
  split <;> omega
 exact⟨Qo,Qo⟩
section
variable {rb:Nat}{c:OA}{L N n:Nat}{bs:List Nat}{w0 w:Wo}
def z0g(_:Int):Prop:=True
def z4b(h:OP rb c L N w)(hN:N<=900000000000) :
  Cz YP #[.pointer (some ⟨rb,0,none⟩)] w λe w'=>∃v,e=.returned (I v)/\z0g v/\OP rb c L (N+2) w'/\Q0 [rb] w w':=by
 refine(Fq (some ⟨rb,0,none⟩) (R:=λv w'=>∃x,v=I x/\OP rb c L (N+2) w'/\Q0 [rb] w w') ?_).mono λe w' ⟨v,he,x,hv,h1⟩=>⟨x,by rw[he,hv],trivial,h1⟩
 have h0:=Dr.start h;intro wr hx hs;refine(Dr.pick (h0.step hx) Qo hs).mono ?_;rintro e w2 ⟨v,he,hk,_,h1⟩;refine⟨_,he,hk,λ_ b hb R6 Sn eR=>?_,λ_ b hb R6 Sn eR=>?_⟩
 all_goals
  refine(Dr.pick (h1.put Sn hb) Qo eR).mono ?_;rintro e w3 ⟨u,gZ,hk3,⟨u0,_,u2⟩,h2⟩;have u2:=u2 Qd;refine⟨_,gZ,hk3,⟨Qo,Qo⟩,z5v Qd rfl Qo Qo λx R7 Rg=>⟨x,rfl,(h2.step Rg).fin Qo⟩⟩
def z1p(h:OP rb c L N w)(hN:N<=900000000000) :
  Cz Yc #[.pointer (some ⟨rb,0,none⟩)] w λe w'=>∃v,e=.returned (I v)/\z0g v/\OP rb c L (N+2) w'/\Q0 [rb] w w':=by
 refine(Ec (some ⟨rb,0,none⟩) (R:=λv w'=>∃x,v=I x/\OP rb c L (N+2) w'/\Q0 [rb] w w') ?_).mono λe w' ⟨v,he,x,hv,h1⟩=>⟨x,by rw[he,hv],trivial,h1⟩
 have h0:=Dr.start h;intro wr hx hs;refine(Dr.pick (h0.step hx) Qo hs).mono ?_;rintro e w2 ⟨v,he,hk,_,h1⟩;refine⟨_,he,hk,λ_ b hb R6 Sn eR=>?_,λ_ b hb R6 Sn eR=>?_⟩
 all_goals
  refine(Dr.pick (h1.put Sn hb) Qo eR).mono ?_;rintro e w3 ⟨u,gZ,hk3,⟨u0,_,u2⟩,h2⟩;have u2:=u2 Qd;refine⟨_,gZ,hk3,⟨Qo,Qo⟩,z5v Qd rfl Qo Qo λx R7 Rg=>⟨x,rfl,(h2.step Rg).fin Qo⟩⟩
def Dr.mask(h:Dr rb c L N n bs w0 w)(hN:N+n<=900000000000)(hs:∀x∈bs,x<w.heap.size) :
  Cz YP #[.pointer (some ⟨rb,0,none⟩)] w λe w'=>∃v,e=.returned (I v)/\Q9 bs w w'/\z0g v/\Dr rb c L N (n+2) bs w0 w':=h.call hs (z4b h.r.rd hN)
def Dr.Sz(h:Dr rb c L N n bs w0 w)(hN:N+n<=900000000000)(hs:∀x∈bs,x<w.heap.size) :
  Cz Yc #[.pointer (some ⟨rb,0,none⟩)] w λe w'=>∃v,e=.returned (I v)/\Q9 bs w w'/\z0g v/\Dr rb c L N (n+2) bs w0 w':=h.call hs (z1p h.r.rd hN)
end
def Xk.w{W:Q7}(iv:Xk W):Qp W:=Qm.2 iv.wp
def Xk.len{W:Q7}(iv:Xk W):UV W:=zso iv.wp.a
def zpl(W V:Q7):Prop:=Xk V/\XO W V
def zpl.refl{W:Q7}(iv:Xk W):zpl W W:=⟨iv,.same⟩
def z1c{W W':Q7}{bar:Int}(iv:Xk W)(hb:bar=0->zpl W W'):zpl W (Y7 W bar W').1:=by
 unfold Y7;rw[B' (by rw[iv.w];decide)];split
 ·exact zpl.refl iv
 ·rename_i e;exact hb (by simpa using e)
def zxz{W W':Q7}{bar a:Int}(iv:Xk W)(hb:bar=0->zpl W W'):zpl W (Uf W bar W' a).1:=by
 unfold Uf;rw[B' (by rw[iv.w];decide)];split
 ·exact zpl.refl iv
 ·rename_i e;exact hb (by simpa using e)
section
variable {f:FuncId}{args:Array Va}{W W':Q7}{bar a:Int}{m:MW}{w:Wo}
def UW(iv:Xk W)(hc:Cz f args w λe w'=>∃v,e=.returned v/\QV (Y7 W bar W') w v w')(hb:bar=0->zpl W W') :
  Cz f args w λe w'=>∃(V:Q7) (m':MW) (d:Int),e=.returned (.tuple #[.agg (Qa V m').toArray,I d])/\zpl W V/\Zj 8 w.heap.size w' V m'/\Q0 [] w w':=
 hc.mono λe w' ⟨v,he,n,m',hv,hM,hx⟩=>by
  have hi:=z1c iv hb;have hn:n=8:=hM.len.symm.trans hi.1.wp.a.gl;subst hn;exact⟨_,m',_,by rw[he,hv],hi,hM,hx⟩
def zr2(iv:Xk W)(hc:Cz f args w λe w'=>∃v,e=.returned v/\OX (Uf W bar W' a) w v w')(hb:bar=0->zpl W W') :
  Cz f args w λe w'=>∃(V:Q7) (m':MW) (q d:Int),e=.returned (.tuple #[.agg (Qa V m').toArray,I q,I d])/\zpl W V/\Zj 8 w.heap.size w' V m'/\Q0 [] w w':=
 hc.mono λe w' ⟨v,he,n,m',hv,hM,hx⟩=>by
  have hi:=zxz (a:=a) iv hb;have hn:n=8:=hM.len.symm.trans hi.1.wp.a.gl;subst hn;exact⟨_,m',_,_,by rw[he,hv],hi,hM,hx⟩
def zwl{P:Q7->Prop}(iv:Xk W)(h0:P W)(hc:Cz f args w λe w'=>∃v,e=.returned v/\OX (Uf W bar W' a) w v w')(hb:bar=0->Xk W'/\P W') :
  Cz f args w λe w'=>∃(V:Q7) (m':MW) (q d:Int),e=.returned (.tuple #[.agg (Qa V m').toArray,I q,I d])/\(Xk V/\P V)/\Zj 8 w.heap.size w' V m'/\Q0 [] w w':=
 hc.mono λe w' ⟨v,he,n,m',hv,hM,hx⟩=>by
  have hi:Xk (Uf W bar W' a).1/\P (Uf W bar W' a).1:=by
   unfold Uf;rw[B' (by rw[iv.w];decide)];split
   ·exact⟨iv,h0⟩
   ·rename_i e;exact hb (by simpa using e)
  have hn:n=8:=hM.len.symm.trans hi.1.wp.a.gl;subst hn;exact⟨_,m',_,_,by rw[he,hv],hi,hM,hx⟩
def z6q(W:Q7)(w:Wo)(v:Va)(w':Wo):Prop:=∃(V:Q7) (m':MW) (d:Int),v=.tuple #[.agg (Qa V m').toArray,I d]/\zpl W V/\Zj 8 w.heap.size w' V m'/\Q0 [] w w'
def Jv{bs:List Nat}{w0 w2 w3:Wo}{d:Int}(s:Sc w0 bs w)(hs:∀x∈bs,x<w.heap.size)(hi:zpl W W'){m':MW}(hM:Zj 8 w.heap.size w2 W' m')(hy:Q0 [] w w2)(hx:Q0 bs w2 w3):z6q W w0 (.tuple #[.agg (Qa W' m').toArray,I d]) w3:=
 ⟨W',m',d,rfl,hi,(((OW.of hM hs).step hx).own).mono s.ext.size,((s.R5 hy).step hx).ext⟩
def z39{c:Int}(iv:Xk W)(h:zar W c=0):Xk (Rb W c):=by
 obtain⟨c0,c1⟩:=UA (zrw h).1;exact zup iv c0 c1
def zus{k a n q:Int}{s:ByteArray}(h:J6 [] w W m)(iv:Xk W) :
  Cz Vn #[.agg (Qa W m).toArray,.agg #[I k,I a,I n,I q,.string s]] w λe w'=>∃v,e=.returned v/\z6q W w v w':=by
 refine zcw _ _ _ _ _ _ _ _ _ _ k a n q s (R:=λv w'=>z6q W w v w') ?_;intro b hb b1 dG b2 cH;have hl:=iv.len;have hW:=iv.w;have s0:Sc w ([b]++[b1]++[b2]) w:=(((Sc.start w).add hb).add dG).add cH;have hS:∀{wr:Wo},Q0 [] w wr->Sc w [b,b1,b2] wr:=λhx=>s0.R5 hx
 refine⟨λ_ wr hx hs=>?_,λ_=>⟨λ_ wr hx hs=>?_,λ_=>⟨λ_ wr hx hs=>?_,λ_=>⟨λ_ wr hx hs=>?_,λ_=>⟨λ_ wr hx hs=>?_,λ_=>⟨λ_ wr hx hs=>?_,λ_=>⟨λ_ wr hx hs=>?_,λ_=>⟨λ_ wr hx hs=>?_,λ_=>⟨λ_ wr hx hs=>?_,λ_=>⟨λ_ wr hx hs=>?_,λ_=>⟨λ_ wr hx hs=>?_,λ_=>⟨λ_ wr hx hs=>?_,λ_=>⟨λ_ wr hx hs=>?_,λ_=>⟨λ_ wr hx hs=>?_,λ_=>⟨λ_ wr hx hs=>?_,λ_=>⟨λ_ wr hx hs=>?_,λ_=>⟨λ_ wr hx hs=>?_,λ_=>⟨λ_ wr hx hs=>?_,λ_=>⟨_,Ur h hl.c hl.t hl.g hl.f,λg=>?_,λ_ wr hx hs=>?_⟩⟩⟩⟩⟩⟩⟩⟩⟩⟩⟩⟩⟩⟩⟩⟩⟩⟩⟩
 case refine_19=>rw[hW] at g;cases g
 case refine_20=>
  refine(PJ (h.ext hx) iv.wp.a).mono ?_;rintro e wv ⟨m',he,hM,hy⟩;exact⟨_,_,_,_,_,_,_,_,_,_,he,Qg hy hs,λR7 Rg=>Jv (hS hx) hs (zpl.refl iv) hM hy Rg⟩
 case refine_3=>
  refine(zr2 iv (Pu (h.ext hx) hl) (λhb=>⟨zdh hW hb,.fork _ _ _ hb⟩)).mono ?_;rintro e wv ⟨V,m',q1,d,he,hi,hM,hy⟩;exact⟨_,_,_,_,_,_,_,_,_,_,_,_,he,Qg hy hs,λR7 Rg=>Jv (hS hx) hs hi hM hy Rg⟩
 case refine_10=>
  refine(zr2 iv (OH (h.ext hx) hl) λhb=>⟨zli iv (Ep hb).1,.mak _ _ _ (Ep hb).1⟩).mono ?_;rintro e wv ⟨V,m',q1,d,he,hi,hM,hy⟩;exact⟨_,_,_,_,_,_,_,_,_,_,_,_,he,Qg hy hs,λR7 Rg=>Jv (hS hx) hs hi hM hy Rg⟩
 case refine_1=>exact(UW iv (Vt (h.ext hx) hl) (λhb=>⟨HL iv hb,.run _ _ hb⟩)).mono λe wv ⟨V,m',d,he,hi,hM,hy⟩=>⟨_,_,_,_,_,_,_,_,_,_,_,he,Qg hy hs,λR7 Rg=>Jv (hS hx) hs hi hM hy Rg⟩
 case refine_2=>exact(UW iv (FH (h.ext hx) hl) (λhb=>⟨z39 iv hb,.yld _ hb⟩)).mono λe wv ⟨V,m',d,he,hi,hM,hy⟩=>⟨_,_,_,_,_,_,_,_,_,_,_,he,Qg hy hs,λR7 Rg=>Jv (hS hx) hs hi hM hy Rg⟩
 case refine_4=>exact(UW iv (Nv (h.ext hx) hl) (λhb=>⟨zuo hW hb,.block _ hb⟩)).mono λe wv ⟨V,m',d,he,hi,hM,hy⟩=>⟨_,_,_,_,_,_,_,_,_,_,_,he,Qg hy hs,λR7 Rg=>Jv (hS hx) hs hi hM hy Rg⟩
 case refine_5=>exact(UW iv (j8 (h.ext hx) hl) (λhb=>⟨zx3 hW hb,.Cq6 _ hb⟩)).mono λe wv ⟨V,m',d,he,hi,hM,hy⟩=>⟨_,_,_,_,_,_,_,_,_,_,_,he,Qg hy hs,λR7 Rg=>Jv (hS hx) hs hi hM hy Rg⟩
 case refine_6=>exact(UW iv (CX (h.ext hx) hl) (λhb=>⟨zx0 hW hb,.exit _ hb⟩)).mono λe wv ⟨V,m',d,he,hi,hM,hy⟩=>⟨_,_,_,_,_,_,_,_,_,_,_,he,Qg hy hs,λR7 Rg=>Jv (hS hx) hs hi hM hy Rg⟩
 case refine_7=>exact(UW iv (CZ (h.ext hx) hl) (λhb=>⟨zx1 hW hb,.nice _ _ hb⟩)).mono λe wv ⟨V,m',d,he,hi,hM,hy⟩=>⟨_,_,_,_,_,_,_,_,_,_,_,he,Qg hy hs,λR7 Rg=>Jv (hS hx) hs hi hM hy Rg⟩
 case refine_8=>exact(UW iv (zdz (h.ext hx) hl) (λhb=>⟨z1i hW hb,.pin _ _ hb⟩)).mono λe wv ⟨V,m',d,he,hi,hM,hy⟩=>⟨_,_,_,_,_,_,_,_,_,_,_,he,Qg hy hs,λR7 Rg=>Jv (hS hx) hs hi hM hy Rg⟩
 case refine_9=>exact(UW iv (CY (h.ext hx) hl) (λhb=>⟨z1g iv hb,.mov _ _ hb⟩)).mono λe wv ⟨V,m',d,he,hi,hM,hy⟩=>⟨_,_,_,_,_,_,_,_,_,_,_,he,Qg hy hs,λR7 Rg=>Jv (hS hx) hs hi hM hy Rg⟩
 case refine_11=>exact(UW iv (Nt (h.ext hx) hl) λhb=>⟨zsj iv (zxd hb).1,.drp _ (zxd hb).1⟩).mono λe wv ⟨V,m',d,he,hi,hM,hy⟩=>⟨_,_,_,_,_,_,_,_,_,_,_,he,Qg hy hs,λR7 Rg=>Jv (hS hx) hs hi hM hy Rg⟩
 case refine_12=>exact(UW iv (K7 (h.ext hx) hl) (λhb=>⟨zsk hW hb,.wgh _ _ hb⟩)).mono λe wv ⟨V,m',d,he,hi,hM,hy⟩=>⟨_,_,_,_,_,_,_,_,_,_,_,he,Qg hy hs,λR7 Rg=>Jv (hS hx) hs hi hM hy Rg⟩
 case refine_13=>exact(UW iv (CU (h.ext hx) hl) (λhb=>⟨z1e hW hb,.gpn _ _ hb⟩)).mono λe wv ⟨V,m',d,he,hi,hM,hy⟩=>⟨_,_,_,_,_,_,_,_,_,_,_,he,Qg hy hs,λR7 Rg=>Jv (hS hx) hs hi hM hy Rg⟩
 case refine_14=>exact(UW iv (FG (h.ext hx) hl) (λhb=>⟨z1f hW hb,.lim _ _ _ hb⟩)).mono λe wv ⟨V,m',d,he,hi,hM,hy⟩=>⟨_,_,_,_,_,_,_,_,_,_,_,he,Qg hy hs,λR7 Rg=>Jv (hS hx) hs hi hM hy Rg⟩
 case refine_15=>exact(UW iv (j9 (h.ext hx) hl) (λhb=>⟨zx2 hW hb,.time _ hb⟩)).mono λe wv ⟨V,m',d,he,hi,hM,hy⟩=>⟨_,_,_,_,_,_,_,_,_,_,_,he,Qg hy hs,λR7 Rg=>Jv (hS hx) hs hi hM hy Rg⟩
 case refine_16=>exact(UW iv (FE (h.ext hx) hl) (λhb=>⟨z1d hW hb,.bal _ hb⟩)).mono λe wv ⟨V,m',d,he,hi,hM,hy⟩=>⟨_,_,_,_,_,_,_,_,_,_,_,he,Qg hy hs,λR7 Rg=>Jv (hS hx) hs hi hM hy Rg⟩
 case refine_17=>exact(UW iv (zhh (h.ext hx) hl) (λhb=>⟨z1h hW hb,.off _ hb⟩)).mono λe wv ⟨V,m',d,he,hi,hM,hy⟩=>⟨_,_,_,_,_,_,_,_,_,_,_,he,Qg hy hs,λR7 Rg=>Jv (hS hx) hs hi hM hy Rg⟩
 case refine_18=>exact(UW iv (zln (h.ext hx) hl) (λhb=>⟨z38 hW hb,.on _ hb⟩)).mono λe wv ⟨V,m',d,he,hi,hM,hy⟩=>⟨_,_,_,_,_,_,_,_,_,_,_,he,Qg hy hs,λR7 Rg=>Jv (hS hx) hs hi hM hy Rg⟩
end
def z4a{rb:Nat}{c:OA}{L N:Nat}{w:Wo}{W:Q7}{m:MW}(h:OP rb c L N w)(hN:N<=800000000000) :
  Cz Jz #[.pointer (some ⟨rb,0,none⟩),.agg (Qa W m).toArray] w λe w'=>∃(k a n q:Int) (s:ByteArray),e=.returned (.agg #[I k,I a,I n,I q,.string s])/\OP rb c L (N+20) w'/\Q0 [rb] w w':=by
 refine(Fp (some ⟨rb,0,none⟩) W.now m.cO W.IF.length m.cC m.tO W.IJ.length m.tC m.gO W.IE.length m.gC (R:=λv w'=>∃(k a n q:Int) (s:ByteArray),v=.agg #[I k,I a,I n,I q,.string s]/\OP rb c L (N+20) w'/\Q0 [rb] w w') ?_).mono λe w' ⟨v,he,k,a,n,q,s,hv,h1⟩=>⟨k,a,n,q,s,by rw[he,hv],h1⟩
 intro b hb b1 dG;refine⟨_,TB,λwr hx hs=>?_⟩;refine(Dr.pick ((Dr.start h).AH9 hx hb dG) Qo hs).mono ?_;rintro e w1 ⟨v1,he,hk,_,h1⟩;refine⟨_,he,hk,λwr hx hs=>?_⟩;refine(Dr.pick (h1.step hx) Qo hs).mono ?_;rintro e w2 ⟨v2,he,hk,_,h2⟩;refine⟨_,he,hk,λvs bs w2=>bs=[]/\(∃x:Int,vs=[I x])/\Dr rb c L N 4 [b,b1] w w2,λwr hx hs=>?_,?_⟩
 ·refine(Dr.pick (h2.step hx) Qo hs).mono ?_;rintro e w3 ⟨v3,he,hk,_,h3⟩;refine⟨_,he,hk,λ_ wr hx hs=>?_,λ_ wr hx hs=>⟨rfl,⟨_,rfl⟩,(h3.step hx).more Qd⟩⟩;refine(Dr.pick (h3.step hx) Qo hs).mono ?_;rintro e w4 ⟨v4,he,hk,_,h4⟩;exact⟨_,he,hk,λwr hx _=>⟨rfl,⟨_,rfl⟩,(h4.step hx).more Qd⟩⟩
 clear h1 h2;rintro t bZ dX ⟨-,-,h4⟩ wr hx hs;refine(Dr.pick (h4.step hx) Qo hs).mono ?_;rintro e w5 ⟨v5,he,hk,⟨p50,_,p52⟩,h5⟩;have p52:=p52 Qd;refine⟨_,he,hk,λwr hx hs=>?_⟩;refine(Dr.pick (h5.step hx) Qo hs).mono ?_;rintro e w6 ⟨v6,he,hk,_,h6⟩;clear h4 h5;refine⟨_,he,hk,λ_=>?_,λ_ wr hx hs=>?_⟩
 rotate_left
 ·refine(Dr.pick (h6.step hx) Qo hs).mono ?_;rintro e w7 ⟨v7,he,hk,_,h7⟩;clear h6;refine⟨_,he,hk,?_⟩;clear he hk hx hs dX
  repeat' first
   |exact rfl
   |exact z22 _
   |(refine⟨_,TB,?_⟩)
   |(refine⟨_,JB,?_⟩)
   |(refine⟨λ_ bs w2=>bs=[]/\Dr rb c L N 7 [b,b1] w w2,?_,?_⟩)
   |(refine And.intro ?_ ?_)
   |(refine z5v Qd rfl Qo Qo λx=>?_)
   |(refine z64 Qd rfl Qo Qo λx=>?_)
   |(intro (x:Bool) (wv:Wo) hs hm;obtain⟨_,hD⟩:=hm)
   |(intro (b:Nat) hb)
   |(intro (wr:Wo) hx hs;refine(Dr.pick (Dr.step (by assumption) hx) ?_ hs).mono ?_;rotate_left;rintro e w2 ⟨v,he,hk,⟨hp0,_,eQ⟩,hC⟩;have eQ:=eQ Qd;refine⟨_,he,hk,?_⟩)
   |(intro (wr:Wo) hx hs;refine(Dr.pick (Dr.put (by assumption) hx (by assumption)) ?_ hs).mono ?_;rotate_left;rintro e w2 ⟨v,he,hk,⟨hp0,_,eQ⟩,hC⟩;have eQ:=eQ Qd;refine⟨_,he,hk,?_⟩)
   |(intro (wr:Wo) hx hs;refine(Dr.pick (Dr.AH9 (by assumption) hx (by assumption) (by assumption)) ?_ hs).mono ?_;rotate_left;rintro e w2 ⟨v,he,hk,⟨hp0,_,eQ⟩,hC⟩;have eQ:=eQ Qd;refine⟨_,he,hk,?_⟩)
   |(intro (wr:Wo) hx hs;refine(Dr.R3 (Dr.step (by assumption) hx) ?_ hs).mono ?_;rotate_left;rintro e w2 ⟨v,he,hk,⟨hp0,eQ⟩,hC⟩;refine⟨_,he,hk,?_⟩)
   |(intro (wr:Wo) hx hs;refine(Dr.mask (Dr.step (by assumption) hx) ?_ hs).mono ?_;rotate_left;rintro e w2 ⟨v,he,hk,_,hC⟩;refine⟨_,he,hk,?_⟩)
   |(intro (wr:Wo) hx hs;refine(Dr.Sz (Dr.step (by assumption) hx) ?_ hs).mono ?_;rotate_left;rintro e w2 ⟨v,he,hk,_,hC⟩;refine⟨_,he,hk,?_⟩)
   |(intro (wr:Wo) hx hs;exact⟨rfl,Dr.step (by assumption) hx⟩)
   |(intro (wr:Wo) hx;exact⟨_,_,_,_,_,rfl,(Dr.step (by assumption) hx).fin Qd⟩)
   |(intro (hh:_=true))
   |(intro (hh:_=false))
   |omega
   |decide
 ·repeat' first
   |exact rfl
   |(refine And.intro ?_ ?_)
   |(refine z5v Qd rfl Qo Qo λx=>?_)
   |(intro (b:Nat) hb)
   |(intro (wr:Wo) hx hs;refine(Dr.pick (Dr.step (by assumption) hx) ?_ hs).mono ?_;rotate_left;rintro e w2 ⟨v,he,hk,⟨hp0,_,eQ⟩,hC⟩;have eQ:=eQ Qd;refine⟨_,he,hk,?_⟩)
   |(intro (wr:Wo) hx hs;refine(Dr.pick (Dr.put (by assumption) hx (by assumption)) ?_ hs).mono ?_;rotate_left;rintro e w2 ⟨v,he,hk,⟨hp0,_,eQ⟩,hC⟩;have eQ:=eQ Qd;refine⟨_,he,hk,?_⟩)
   |(intro (wr:Wo) hx;exact⟨_,_,_,_,_,rfl,(Dr.step (by assumption) hx).fin Qd⟩)
   |omega
def z68(lo hi:Int):Va->Bool
 |.int .i64 x=>decide (lo<=x)&&decide (x<=hi)
 |_=>false
def z7h{lo hi v:Int}{k:Nat}{ls:List Va}{P:Int->Prop}(ha:ls.all (z68 lo hi))(hl:ls.length=k)(h0:0<=v)(h1:v<(k:Int))(h:∀x,lo<=x->x<=hi->P x):∃x:Int,(0<=v/\ls[Int.toNat v+0]? = some (I x))/\P x:=by
 have IV:Int.toNat v+0<ls.length:=Qo;have:=List.all_eq_true.1 ha _ (List.getElem_mem IV);have e:=Il IV;generalize ls[Int.toNat v+0]=y at this e;unfold z68 at this
 split at this
 ·rw[A',Ij,Ij] at this;exact⟨_,⟨h0,e⟩,h _ this.1 this.2⟩
 ·cases this
structure Uz (P:Nat->Q7->Prop) (rb:Nat) (c:OA) (L N n:Nat) (bs:List Nat) (w0 w:Wo) (W:Q7) (m:MW):Prop where
 iv:Xk W
 lw:P n W
 d:Dr rb c L N n bs w0 w
 o:OW 8 w0.heap.size (rb::bs) w W m
section
variable {P:Nat->Q7->Prop}{rb b b2:Nat}{c:OA}{L N n k:Nat}{bs cs:List Nat}{w0 w w':Wo}{W W':Q7}{m m':MW}
def Uz.step(h:Uz P rb c L N n bs w0 w W m)(hx:Q0 bs w w'):Uz P rb c L N n bs w0 w' W m:=⟨h.iv,h.lw,h.d.step hx,h.o.step (hx.mono λ_ hm=>I1 _ hm)⟩
def Uz.put(h:Uz P rb c L N n bs w0 w W m)(hx:Q0 bs w w')(hb:w.heap.size<=b):Uz P rb c L N n (bs++[b]) w0 w' W m:=⟨h.iv,h.lw,h.d.put hx hb,h.o.put (hx.mono λ_ hm=>I1 _ hm) hb⟩
def Uz.AH9(h:Uz P rb c L N n bs w0 w W m)(hx:Q0 bs w w')(hb:w.heap.size<=b)(cH:w.heap.size<=b2):Uz P rb c L N n (bs++[b]++[b2]) w0 w' W m:=⟨h.iv,h.lw,h.d.AH9 hx hb cH,h.o.AH9 (hx.mono λ_ hm=>I1 _ hm) hb cH⟩
def Uz.sub(h:Uz P rb c L N n bs w0 w W m)(hs:∀x∈cs,x∈bs):Uz P rb c L N n cs w0 w W m:=⟨h.iv,h.lw,h.d.sub hs,h.o.sub λx hx=>by
 rcases Ii.1 hx with h1|h1
 ·rw[h1];exact I9
 ·exact I1 _ (hs x h1)⟩
def Uz.more{q:Nat}(hP:M0 P)(h:Uz P rb c L N n bs w0 w W m)(hm:n<=q):Uz P rb c L N q bs w0 w W m:=⟨h.iv,hP.mono hm h.lw,h.d.more hm,h.o⟩
def Uz.rd(h:Uz P rb c L N n bs w0 w W m):J6 [] w W m:=h.o.rd0
def Uz.drawn(hP:M0 P)(h:Uz P rb c L N n bs w0 w W m)(hr:OP rb c L (N+n+k) w')(hx:Q0 [rb] w w'):Uz P rb c L N (n+k) bs w0 w' W m:=
 ⟨h.iv,hP.mono Qo h.lw,⟨h.d.r.upd (by rw[<-Nat.add_assoc];exact hr),h.d.ext.trans hx,h.d.new⟩,h.o.step (hx.mono λx hm=>by
  have:x=rb:=by simpa using hm
  subst this;exact I9)⟩
def Uz.call{f:FuncId}{args:Array Va}{Q:Int->Prop}(hP:M0 P)(h:Uz P rb c L N n bs w0 w W m)(hs:∀x∈bs,x<w.heap.size)(hc:Cz f args w λe w'=>∃v,e=.returned (I v)/\Q v/\OP rb c L (N+n+k) w'/\Q0 [rb] w w') :
  Cz f args w λe w'=>∃v,e=.returned (I v)/\Q9 bs w w'/\Q v/\Uz P rb c L N (n+k) bs w0 w' W m:=
 hc.mono λe w' ⟨v,he,hq,hr,hx⟩=>⟨v,he,En h.d.r hx hs,hq,h.drawn hP hr hx⟩
def Uz.pick(hP:M0 P)(h:Uz P rb c L N n bs w0 w W m)(hN:N+n<=1000000000000)(hs:∀x∈bs,x<w.heap.size){q:Int} :
  Cz Q3 #[.pointer (some ⟨rb,0,none⟩),I q] w λe w'=>∃v,e=.returned (I v)/\Q9 bs w w'/\GJ q v/\Uz P rb c L N (n+1) bs w0 w' W m:=h.call hP hs (Em h.d.r.rd hN)
def Uz.R3(hP:M0 P)(h:Uz P rb c L N n bs w0 w W m)(hN:N+n<=900000000000)(hs:∀x∈bs,x<w.heap.size) :
  Cz ZU #[.pointer (some ⟨rb,0,none⟩)] w λe w'=>∃v,e=.returned (I v)/\Q9 bs w w'/\z5b v/\Uz P rb c L N (n+2) bs w0 w' W m:=h.call hP hs (zn2 h.d.r.rd hN)
def Uz.item(hP:M0 P)(h:Uz P rb c L N n bs w0 w W m)(hN:N+n<=800000000000)(hs:∀x∈bs,x<w.heap.size){V:Q7}{p:MW} :
  Cz Jz #[.pointer (some ⟨rb,0,none⟩),.agg (Qa V p).toArray] w λe w'=>∃(k a q r:Int) (s:ByteArray),e=.returned (.agg #[I k,I a,I q,I r,.string s])/\Q9 bs w w'/\Uz P rb c L N (n+20) bs w0 w' W m:=
 (z4a h.d.r.rd hN).mono λe w' ⟨k,a,q,r,s,he,hr,hx⟩=>⟨k,a,q,r,s,he,En h.d.r hx hs,h.drawn hP hr hx⟩
def Uz.bsl(h:Uz P rb c L N n bs w0 w W m)(hs:∀x∈bs,x<w.heap.size):∀x∈rb::bs,x<w.heap.size:=λx hm=>by
 rcases Ii.1 hm with h1|h1
 ·rw[h1];exact h.d.r.rd.lt
 ·exact hs x h1
def Uz.Sv{P':Nat->Q7->Prop}{q:Nat}(h:Uz P rb c L N n bs w0 w W m)(hq:n<=q)(hs:∀x∈bs,x<w.heap.size)(hi:Xk W')(hl:P' q W')(hM:Zj 8 w.heap.size w' W' m')(hx:Q0 [] w w'):Uz P' rb c L N q bs w0 w' W' m':=
 ⟨hi,hl,Dr.more ⟨h.d.r.R5 hx,h.d.ext.trans hx.of_nil,h.d.new⟩ hq,(OW.of hM (h.bsl hs)).mono h.d.ext.size⟩
def Uz.mak{p:Int}{name:ByteArray}(hP:M0 P)(h:Uz P rb c L N n bs w0 w W m)(hs:∀x∈bs,x<w.heap.size) :
  Cz Qj #[.agg (Qa W m).toArray,I p,.string name] w λe w'=>∃(W':Q7) (m':MW) (a d:Int),e=.returned (.tuple #[.agg (Qa W' m').toArray,I a,I d])/\Q9 bs w w'/\Uz P rb c L N n bs w0 w' W' m':=
 (zwl (P:=P n) h.iv h.lw (OH h.rd h.iv.len) λhb=>⟨zli h.iv (Ep hb).1,hP.mak h.iv h.lw (Ep hb).1⟩).mono λe w' ⟨V,m',a,d,he,hi,hM,hx⟩=>⟨V,m',a,d,he,Qg hx hs,h.Sv (I7 _) hs hi.1 hi.2 hM hx⟩
def Uz.fork{g q x:Int}(hP:M0 P)(h:Uz P rb c L N n bs w0 w W m)(hs:∀x∈bs,x<w.heap.size) :
  Cz Yo #[.agg (Qa W m).toArray,I g,I q,I x] w λe w'=>∃(W':Q7) (m':MW) (a d:Int),e=.returned (.tuple #[.agg (Qa W' m').toArray,I a,I d])/\Q9 bs w w'/\Uz P rb c L N n bs w0 w' W' m':=
 (zwl (P:=P n) h.iv h.lw (Pu h.rd h.iv.len) λhb=>⟨zdh h.iv.w hb,hP.fork h.iv h.lw hb⟩).mono λe w' ⟨V,m',a,d,he,hi,hM,hx⟩=>⟨V,m',a,d,he,Qg hx hs,h.Sv (I7 _) hs hi.1 hi.2 hM hx⟩
def Uz.do{k a q r:Int}{s:ByteArray}(hP:M0 P)(hn:n<=10000)(h:Uz P rb c L N n bs w0 w W m)(hs:∀x∈bs,x<w.heap.size) :
  Cz Vn #[.agg (Qa W m).toArray,.agg #[I k,I a,I q,I r,.string s]] w λe w'=>∃(W':Q7) (m':MW) (d:Int),e=.returned (.tuple #[.agg (Qa W' m').toArray,I d])/\Q9 bs w w'/\Uz P rb c L N (n+10) bs w0 w' W' m':=
 (zus h.rd h.iv).mono λe w' ⟨v,he,V,m',d,hv,hi,hM,hx⟩=>⟨V,m',d,by rw[he,hv],Qg hx hs,h.Sv (Nat.le_add_right _ _) hs hi.1 (hP.Sv hn h.iv h.lw hi.2) hM hx⟩
def Uz.fin{q:Nat}(hP:M0 P)(h:Uz P rb c L N n bs w0 w W m)(hq:n<=q):(Xk W/\P q W)/\Zj 8 w0.heap.size w W m/\OP rb c L (N+q) w/\Q0 [rb] w0 w/\∀x∈QN 8 m,x≠rb:=⟨⟨h.iv,hP.mono hq h.lw⟩,h.o.own,(h.d.fin hq).1,h.d.ext,λx hx e=>h.o.nb x hx (by rw[e];exact I9)⟩
end
def z4c{P:Nat->Q7->Prop}(hP:M0 P){rb:Nat}{c:OA}{L N:Nat}{w:Wo}{items:Int}(h:OP rb c L N w)(hN:N<=700000000000)(hi:items<=27) :
  Cz VP #[.pointer (some ⟨rb,0,none⟩),I items] w λe w'=>∃(W:Q7) (m:MW),e=.returned (.agg (Qa W m).toArray)/\(Xk W/\P 1000 W)/\Zj 8 w.heap.size w' W m/\OP rb c L (N+1000) w'/\Q0 [rb] w w'/\∀x∈QN 8 m,x≠rb:=by
 refine(Ft (some ⟨rb,0,none⟩) items (R:=λv w'=>∃(W:Q7) (m:MW),v=.agg (Qa W m).toArray/\(Xk W/\P 1000 W)/\Zj 8 w.heap.size w' W m/\OP rb c L (N+1000) w'/\Q0 [rb] w w'/\∀x∈QN 8 m,x≠rb) ?_).mono λe w' ⟨v,he,W,m,hv,h3⟩=>⟨W,m,by rw[he,hv],h3⟩
 intro b hb b1 dG wr hx hs;refine(Dr.pick ((Dr.start h).AH9 hx hb dG) Qo hs).mono ?_;rintro e w1 ⟨v,he,hk,⟨p0,_,p2⟩,h1⟩;have p2:=p2 Qd;refine⟨_,he,hk,⟨Qo,Qo⟩,z7h (lo:=1) (hi:=4) Qd rfl Qo Qo λx x1 x4 wr hx hs=>?_⟩;obtain⟨q,rfl⟩:∃q:Nat,x=(q:Int):=⟨x.toNat,Qo⟩;have h2:=h1.step hx;refine(Gb (n:=q) Qo Qo).mono ?_;rintro e2 w2 ⟨m,bS,hM,Sx⟩
 have cH:∀x∈rb::[b,b1],x<wr.heap.size:=λx hm=>by
  rcases Ii.1 hm with h1|h1
  ·rw[h1];exact h2.r.rd.lt
  ·exact hs x h1
 have hK:Uz P rb c L N 1 [b,b1] w w2 (J4 q) m:=⟨zlj Qo Qo,hP.new Qo Qo,⟨h2.r.R5 Sx,h2.ext.trans Sx.of_nil,h2.new⟩,(OW.of hM cH).mono h2.ext.size⟩;refine⟨_,_,_,_,_,_,_,_,_,_,_,bS,Qg Sx hs,λb2 cH wr hx hs=>?_⟩;refine((hK.put hx cH).pick hP Qo hs).mono ?_;rintro e3 w3 ⟨v1,gZ,hk3,⟨p10,_,p12⟩,hK1⟩;have p12:=p12 Qd;refine⟨_,gZ,hk3,?_⟩;refine⟨λvs w2=>∃(k n:Nat) (W:Q7) (m:MW),vs=I (k:Int)::Qa W m/\(k:Int)<=v1/\n<=2+2*k/\Uz P rb c L N n [b,b1,b2] w w2 W m,Zp v1.toNat 0,λwr hx _=>⟨0,2,J4 q,m,rfl,p10,Qo,hK1.step hx⟩,?_⟩;clear hK1 hk3 gZ hs hx hM hK bS Sx h1 h2 he hk;rintro i1 l RA Rz RQ RF RL RP RG RH RJ wv hs ⟨k,n,W,m,he,hk,hn,hK⟩;simp only[Qa,I4,I5,Iv,true_and,and_true] at he;obtain⟨rfl,rfl,⟨rfl,rfl,rfl⟩,⟨rfl,rfl,rfl⟩,rfl,rfl,rfl⟩:=he;refine⟨λIV=>?_,λRW wr hx hs=>?_⟩
 ·have IV:=Ot IV
  repeat' first
   |exact rfl
   |(refine And.intro ?_ ?_)
   |(refine z5v Qd rfl Qo Qo λx=>?_)
   |(refine z64 Qd rfl Qo Qo λx=>?_)
   |(intro (b:Nat) hb)
   |(intro (wr:Wo) hx hs;refine(Uz.pick hP (Uz.step (by assumption) hx) ?_ hs).mono ?_;rotate_left;rintro e w2 ⟨v,he,hk,⟨hp0,_,eQ⟩,hC⟩;have eQ:=eQ Qd;refine⟨_,he,hk,?_⟩)
   |(intro (wr:Wo) hx hs;refine(Uz.pick hP (Uz.put (by assumption) hx (by assumption)) ?_ hs).mono ?_;rotate_left;rintro e w2 ⟨v,he,hk,⟨hp0,_,eQ⟩,hC⟩;have eQ:=eQ Qd;refine⟨_,he,hk,?_⟩)
   |(intro (wr:Wo) hx hs;refine(Uz.pick hP (Uz.AH9 (by assumption) hx (by assumption) (by assumption)) ?_ hs).mono ?_;rotate_left;rintro e w2 ⟨v,he,hk,⟨hp0,_,eQ⟩,hC⟩;have eQ:=eQ Qd;refine⟨_,he,hk,?_⟩)
   |(intro (wr:Wo) hx hs;refine(Uz.mak hP (Uz.step (by assumption) hx) hs).mono ?_;rintro e w2 ⟨W',m',a,d,he,hk,hC⟩;refine⟨_,_,_,_,_,_,_,_,_,_,_,_,he,hk,⟨Qo,Qo⟩,λwr hx _=>⟨⟨k+1,n+2,W',m',by simp[Qa],Qo,Qo,((hC.step hx).more hP Qo).sub Qs⟩,Z6 (k:=k) rfl rfl Qo⟩⟩)
   |(intro (wr:Wo) hx hs;refine(Uz.mak hP (Uz.put (by assumption) hx (by assumption)) hs).mono ?_;rintro e w2 ⟨W',m',a,d,he,hk,hC⟩;refine⟨_,_,_,_,_,_,_,_,_,_,_,_,he,hk,⟨Qo,Qo⟩,λwr hx _=>⟨⟨k+1,n+2,W',m',by simp[Qa],Qo,Qo,((hC.step hx).more hP Qo).sub Qs⟩,Z6 (k:=k) rfl rfl Qo⟩⟩)
   |(intro (wr:Wo) hx hs;refine(Uz.mak hP (Uz.AH9 (by assumption) hx (by assumption) (by assumption)) hs).mono ?_;rintro e w2 ⟨W',m',a,d,he,hk,hC⟩;refine⟨_,_,_,_,_,_,_,_,_,_,_,_,he,hk,⟨Qo,Qo⟩,λwr hx _=>⟨⟨k+1,n+2,W',m',by simp[Qa],Qo,Qo,((hC.step hx).more hP Qo).sub Qs⟩,Z6 (k:=k) rfl rfl Qo⟩⟩)
   |omega
 refine((hK.step hx).pick hP Qo hs).mono ?_;rintro e4 w4 ⟨v3,he4,hk4,⟨p30,_,p32⟩,hC6⟩;have p32:=p32 Qd;refine⟨_,he4,hk4,⟨Qo,Qo⟩,?_⟩;refine⟨λvs w2=>∃(k n:Nat) (W:Q7) (m:MW),vs=I (k:Int)::Qa W m/\(k:Int)<=1+v3/\n<=20+3*k/\Uz P rb c L N n [b,b1,b2] w w2 W m,Zp (1+v3).toNat 0,λSY vF _=>⟨0,n+1,W,m,rfl,Qo,Qo,hC6.step vF⟩,?_⟩;clear hK hC6 hk4 he4 hs hx RW hk hn;clear W m n k;rintro i3 l4 rH iZ rG qY uJ qX kD sB rI wv hs ⟨k,n,W,m,he,hk,hn,hK⟩;simp only[Qa,I4,I5,Iv,true_and,and_true] at he;obtain⟨rfl,rfl,⟨rfl,rfl,rfl⟩,⟨rfl,rfl,rfl⟩,rfl,rfl,rfl⟩:=he;refine⟨λIV wr hx hs=>?_,λRW=>?_⟩
 ·have IV:=Ot IV;refine((hK.step hx).pick hP Qo hs).mono ?_;rintro e5 w5 ⟨v5,he5,hk5,_,hC5⟩;refine⟨_,he5,hk5,rfl,λwr hx hs=>?_⟩;refine((hC5.step hx).R3 hP Qo hs).mono ?_;rintro e6 w6 ⟨v6,he6,hk6,_,hC6⟩;refine⟨_,he6,hk6,rfl,_,TB,_,JB,z22 _,λwr hx hs=>?_⟩;refine((hC6.step hx).fork hP hs).mono ?_;rintro e7 w7 ⟨W7,m7,a,d,he7,hk7,hC7⟩;exact⟨_,_,_,_,_,_,_,_,_,_,_,_,he7,hk7,⟨Qo,Qo⟩,λwr hx _=>⟨⟨k+1,n+1+2,W7,m7,by simp[Qa],Qo,Qo,hC7.step hx⟩,Z6 (k:=k) rfl rfl Qo⟩⟩
 ·have RW:=Ou RW;refine⟨λvs w2=>∃(k n:Nat) (W:Q7) (m:MW),vs=I (k:Int)::Qa W m/\k<=27/\n<=60+30*k/\Uz P rb c L N n [b,b1,b2] w w2 W m,Zp 27 0,λSY vF _=>⟨0,n,W,m,rfl,Qo,Qo,hK.step vF⟩,?_⟩;clear hK hs;rintro i5 l8 l9O l9L l9C AB2 AB1 AB0 iD iC hZ wv hs ⟨k,n,W,m,he,hk,hn,hK⟩;simp only[Qa,I4,I5,Iv,true_and,and_true] at he;obtain⟨rfl,rfl,⟨rfl,rfl,rfl⟩,⟨rfl,rfl,rfl⟩,rfl,rfl,rfl⟩:=he;refine⟨λIV wr hx hs=>?_,λRW wr hx=>⟨W,m,rfl,(hK.step hx).fin hP Qo⟩⟩;have IV:=Ot IV;refine((hK.step hx).item hP Qo hs (V:=W) (p:=m)).mono ?_;rintro e5 w5 ⟨k5,a5,q5,r5,s5,he5,hk5,hC5⟩;refine⟨_,_,_,_,_,he5,hk5,rfl,λwr hx hs=>?_⟩;refine((hC5.step hx).do hP Qo hs).mono ?_;rintro e6 w6 ⟨W6,m6,d,he6,hk6,hC6⟩;exact⟨_,_,_,_,_,_,_,_,_,_,_,he6,hk6,⟨Qo,Qo⟩,λwr hx _=>⟨⟨k+1,n+20+10,W6,m6,by simp[Qa],Qo,Qo,hC6.step hx⟩,Z6 (k:=k) rfl rfl Qo⟩⟩
def z6g:Tryz.prog.underlying ty_sl_uint8=some (.slice Pe):=Qk
def z6f:Tryz.prog.underlying Pe=some (.int .u8):=Qk
def z6h:Tryz.prog.underlying Ze=some .string:=Qk
def Uz.CT4{P:Nat->Q7->Prop}(hP:M0 P){rb:Nat}{c:OA}{L N n k:Nat}{bs:List Nat}{w0 w w':Wo}{W:Q7}{m:MW}(d:Dr rb c L N n bs w0 w)(hs:∀x∈bs,x<w.heap.size)(iv:Xk W/\P k W)(hM:Zj 8 w.heap.size w' W m)(hr:OP rb c L (N+n+k) w')(hx:Q0 [rb] w w')(eO:∀x∈QN 8 m,x≠rb):Uz P rb c L N (n+k) bs w0 w' W m:=
 ⟨iv.1,hP.mono Qo iv.2,⟨d.r.upd (by rw[<-Nat.add_assoc];exact hr),d.ext.trans hx,d.new⟩,⟨hM.mono d.ext.size,λx Sn hm=>by
  rcases Ii.1 hm with h1|h1
  ·exact eO x Sn h1
  ·have:=(hM.lt x Sn).1;have:=hs x h1;omega⟩⟩
def z1q{P:Nat->Q7->Prop}(hP:M0 P){rb:Nat}{c:OA}{L N:Nat}{w:Wo}(h:OP rb c L N w)(hN:N<=600000000000) :
  Cz V3 #[.pointer (some ⟨rb,0,none⟩)] w λe w'=>∃(W:Q7) (m:MW),e=.returned (.agg (Qa W m).toArray)/\(Xk W/\P 1100 W)/\Zj 8 w.heap.size w' W m/\OP rb c L (N+1100) w'/\Q0 [rb] w w'/\∀x∈QN 8 m,x≠rb:=by
 refine(Ed (some ⟨rb,0,none⟩) (R:=λv w'=>∃(W:Q7) (m:MW),v=.agg (Qa W m).toArray/\(Xk W/\P 1100 W)/\Zj 8 w.heap.size w' W m/\OP rb c L (N+1100) w'/\Q0 [rb] w w'/\∀x∈QN 8 m,x≠rb) ?_).mono λe w' ⟨v,he,W,m,hv,h3⟩=>⟨W,m,by rw[he,hv],h3⟩
 intro b hb wr hx hs;refine(Dr.pick ((Dr.start h).put hx hb) Qo hs).mono ?_;rintro e w1 ⟨v,he,hk,⟨p0,_,p2⟩,h1⟩;have p2:=p2 Qd;refine⟨_,he,hk,λwr hx hs=>?_⟩;have h2:=h1.step hx;refine(z4c hP h2.r.rd Qo (items:=v) Qo).mono ?_;rintro e2 w2 ⟨W,m,bS,iv,hM,hr,hxp,eO⟩;have hK:=Uz.CT4 hP h2 hs iv hM hr hxp eO;refine⟨_,_,_,_,_,_,_,_,_,_,bS,En h2.r hxp hs,λb1 dG wr hx hs=>?_⟩;refine((hK.put hx dG).pick hP Qo hs).mono ?_;rintro e3 w3 ⟨v3,gZ,hk3,_,wD⟩;refine⟨_,gZ,hk3,λ_=>?_,λ_ wr hx=>⟨W,m,rfl,(wD.step hx).fin hP Qo⟩⟩;refine⟨λvs w2=>∃(k:Nat) (W:Q7) (m:MW),vs=I (k:Int)::Qa W m/\k<=12/\Uz P rb c L N (0+1+1000+1) [b,b1] w w2 W m,Zp 12 0,λwr hx _=>⟨0,W,m,rfl,Qo,wD.step hx⟩,?_⟩;clear wD hK hM iv eO hr hxp bS hk3 gZ h2 h1 hs hx;rintro i1 l RA Rz RQ RF RL RP RG RH RJ wv hs ⟨k,W,m,he,hk,hK⟩;simp only[Qa,I4,I5,Iv,true_and,and_true] at he;obtain⟨rfl,rfl,⟨rfl,rfl,rfl⟩,⟨rfl,rfl,rfl⟩,rfl,rfl,rfl⟩:=he;refine⟨λIV wr hx hs=>?_,λRW=>?_⟩
 ·have IV:=Ot IV;refine((hK.step hx).fork hP hs).mono ?_;rintro e7 w7 ⟨W7,m7,a,d,he7,hk7,hC7⟩;exact⟨_,_,_,_,_,_,_,_,_,_,_,_,he7,hk7,⟨Qo,Qo⟩,λwr hx _=>⟨⟨k+1,W7,m7,by simp[Qa],Qo,hC7.step hx⟩,Z6 (k:=k) rfl rfl Qo⟩⟩
 refine⟨λvs w2=>∃(k:Nat) (W:Q7) (m:MW),vs=I (k:Int)::Qa W m/\k<=8/\Uz P rb c L N (0+1+1000+1) [b,b1] w w2 W m,Zp 8 0,λwr hx _=>⟨0,W,m,rfl,Qo,hK.step hx⟩,?_⟩;clear hK hs;rintro i3 l4 rH iZ rG qY uJ qX kD sB rI wv hs ⟨k,W,m,he,hk,hK⟩;simp only[Qa,I4,I5,Iv,true_and,and_true] at he;obtain⟨rfl,rfl,⟨rfl,rfl,rfl⟩,⟨rfl,rfl,rfl⟩,rfl,rfl,rfl⟩:=he;refine⟨λIV=>⟨⟨Qo,Qo⟩,⟨by have:=Ot IV;show (0:Int)<=_;omega,by have:=Ot IV;show _<=(255:Int);omega⟩,λb3 wb hxb hsz hh hn wr hx hs=>?_⟩,λ_ wr hx=>⟨W,m,rfl,(hK.step hx).fin hP Qo⟩⟩;have IV:=Ot IV;have hK1:=(hK.step hxb).step hx
 have hh2:wr.heap[b3]? = some (Obj.cells ([.int .u8 (48+(k:Int))]:List Va).toArray Pe (0,0)):=by
  rw[hx.block b3 (UX hh) hn];exact hh
 have hc:=run_convert_bytes_arg wr ty_sl_uint8 Pe z6g z6f b3 0 1 1 [48+(k:Int)] rfl (λi hi=>by
  have:i=0:=Qo;subst this;rw[Tb hh2];rfl) Ze z6h
 refine⟨_,wr,hc,λ_ _=>rfl,?_,λR7 Rg We=>?_⟩
 ·have e1:(strOfNums [48+(k:Int)]).size=1:=rfl;rw[e1];decide
 refine((hK1.step Rg).mak hP We).mono ?_;rintro e7 w7 ⟨W7,m7,a,d,he7,hk7,hC7⟩;exact⟨_,_,_,_,_,_,_,_,_,_,_,_,he7,hk7,⟨Qo,Qo⟩,λwr hx _=>⟨⟨k+1,W7,m7,by simp[Qa],Qo,hC7.step hx⟩,Z6 (k:=k) rfl rfl Qo⟩⟩
section
variable {rb b b2:Nat}{c:OA}{L C N:Nat}{bs:List Nat}{w0 w w':Wo}{W W':Q7}{m m':MW}
def z1n(h:GH c L w0)(hC:L<=C)(hx:Q0 [] w0 w)(hn:∀x∈bs,w0.heap.size<=x)(hs:∀x∈bs,x<w.heap.size) :
  Cz JK #[.slice c L C] w λe wv=>∃rb c' L',e=.returned (.pointer (some ⟨rb,0,none⟩))/\Q9 bs w wv/\RS rb c' L' 0 bs wv/\Sc w0 (rb::bs) wv:=by
 refine(zdv (h.ext hx) hC).mono ?_;rintro e wv ⟨rb,c',L',he,hrb,hR,Sn,CO8⟩
 refine⟨rb,c',L',he,Qg Sn hs,⟨hR,λhm=>by
  have:=hs rb hm;omega,λa' ha'=>?_⟩,⟨hx.trans Sn,λx hm=>?_⟩⟩
 ·rcases CO8 a' ha' with h0|⟨h0,a,ha,hab⟩
  ·exact .inr h0
  ·refine .inl λhm=>?_
   obtain⟨a0,x0,ha0,_,_,h30⟩:=h 0 h0;have Re:=World.block_lt_of_cell? w0 _ h30;rw[Zz] at Re;rw[ha] at ha0;cases ha0;have:=hn _ hm;omega
 ·rcases Ii.1 hm with h1|h1
  ·have:=hx.size;omega
  ·exact hn x h1
end
section
variable {c:OA}{L C:Nat}{w:Wo}
def Nr{P:Nat->Q7->Prop}(hP:M0 P)(h:GH c L w)(hC:L<=C) :
  Cz Tk #[.slice c L C] w λe w'=>∃(W:Q7) (m:MW),e=.returned (.agg (Qa W m).toArray)/\(Xk W/\P 1100 W)/\Zj 8 w.heap.size w' W m/\Q0 [] w w':=by
 refine(N1 c L C (R:=λv w'=>∃(W:Q7) (m:MW),v=.agg (Qa W m).toArray/\(Xk W/\P 1100 W)/\Zj 8 w.heap.size w' W m/\Q0 [] w w') ?_).mono λe w' ⟨v,he,W,m,hv,h1⟩=>⟨W,m,by rw[he,hv],h1⟩
 intro b hb wr hx hs;refine(z1n (bs:=[b]) h hC hx (by simpa using hb) hs).mono ?_;rintro e wv ⟨rb,c',L',he,hk,hR,hS⟩;refine⟨_,he,hk,λR6 Sn eR=>?_⟩;have hR1:=hR.step Sn;have hS1:=hS.BM5 Sn;refine(z1q hP hR1.rd Qd).mono ?_;rintro e1 Rc ⟨W,m,qC,iv,hM,hr,hxp,eO⟩;exact⟨_,_,_,_,_,_,_,_,_,_,qC,En hR1 hxp eR,λR7 Rg=>⟨W,m,rfl,iv,((OW.of hM eR).step Rg).own.mono hS1.ext.size,((hS1.B52 hxp).BM5 Rg).ext⟩⟩
end
section
variable {bs:List Nat}{w:Wo}{p q:MG}
def zhg{B:Ue}(h1:zm2 bs w p.lO B.locals)(h2:zwa bs w p.dO B.RE)(h3:zm2 bs w q.lO B.locals)(h4:zwa bs w q.dO B.RE)(hl:B.RE.length=B.locals.length)(h8:B.locals.length<=1000) :
  PX bs Mb #[.agg (ZD B p).toArray,.agg (ZD B q).toArray] w (.bool true):=
 zhy B.I' B.RU B.SB p.lO B.locals.length p.lC p.dO B.RE.length p.dC B.I' B.RU B.SB q.lO B.locals.length q.lC q.dO B.RE.length q.dC λwr hx=>by
  have g1:=(h1.ext hx).less (cs:=[]) Qs;have g2:=(h2.ext hx).less (cs:=[]) Qs;have g3:=(h3.ext hx).less (cs:=[]) Qs;have g4:=(h4.ext hx).less (cs:=[]) Qs;intro b hb b5 hb5;refine⟨λg=>by simp at g,λ_=>YU B.locals.length 0 rfl (λk=>k<=B.locals.length) (Ic _) λk hk=>⟨λIV=>?_,λRW=>rfl⟩⟩;have IV:=Ot IV;refine⟨g1.ix XP Qo IV,_,g1 (k:Int) Qo IV,g3.ix XP Qo IV,_,g3 (k:Int) Qo IV,λ_=>g2.ix Lw Qo Qo,_,λ_=>g2 (k:Int) Qo Qo,λ_=>g4.ix Lw Qo Qo,_,λ_=>g4 (k:Int) Qo Qo,λg=>by simp at g,λ_=>⟨⟨Qo,Qo⟩,Qy Qo Qo⟩⟩
end
def zxn:zbi Tryz.prog Zd:=⟨Qk,Qk,Qk⟩
def z31(a b:PZ):Dz Tryz.prog (Tryz.prog.fieldsOf Zd).toList 0 (Gm a) (Gm b)=some ((a.up==b.up)&&((a.cur==b.cur)&&((a.Wh==b.Wh)&&((a.busy==b.busy)&&((a.idle==b.idle)&&true))))):=Qk
def zp8:zbi Tryz.prog ZI:=⟨Qk,Qk,Qk⟩
def zxl(a b:KD):Dz Tryz.prog (Tryz.prog.fieldsOf ZI).toList 0 (T4 a) (T4 b)=some ((a.IL==b.IL)&&((a.on==b.on)&&((a.v==b.v)&&((a.w==b.w)&&((a.sum==b.sum)&&true))))):=Qk
section
variable {bs:List Nat}{w:Wo}{p q:MG}{W:Q7}{m n:MW}
def zdw{G:Zb}(h1:zm2 bs w p.lO G.IM.locals)(h2:zwa bs w p.dO G.IM.RE)(h5:zm0 bs w p.sO G.IH)(h3:zm2 bs w q.lO G.IM.locals)(h4:zwa bs w q.dO G.IM.RE)(h6:zm0 bs w q.sO G.IH)(hl:G.IM.RE.length=G.IM.locals.length)(h8:G.IM.locals.length<=1000)(h9:G.IH.length<=1000) :
  PX bs Pl #[.agg (Yq G p).toArray,.agg (Yq G q).toArray] w (.bool true):=
 zeq G.IW G.IG G.name G.R3 G.IF G.period G.next G.sum G.IM.I' G.IM.RU G.IM.SB p.lO G.IM.locals.length p.lC p.dO G.IM.RE.length p.dC p.sO G.IH.length p.sC G.IW G.IG G.name G.R3 G.IF G.period G.next G.sum G.IM.I' G.IM.RU G.IM.SB q.lO G.IM.locals.length q.lC q.dO G.IM.RE.length q.dC q.sO G.IH.length q.sC λwr hx=>by
  have g1:=(h1.ext hx).less (cs:=[]) Qs;have g2:=(h2.ext hx).less (cs:=[]) Qs;have g3:=(h3.ext hx).less (cs:=[]) Qs;have g4:=(h4.ext hx).less (cs:=[]) Qs;have g5:=(h5.ext hx).less (cs:=[]) Qs;have g6:=(h6.ext hx).less (cs:=[]) Qs;have e:Zy G.name G.name:=JS.2 rfl;intro b hb b5 hb5;refine⟨true,λ_=>zhg g1 g2 g3 g4 hl h8,λg=>?_,λ_=>YU G.IH.length 0 rfl (λk=>k<=G.IH.length) (Ic _) λk hk=>⟨λIV=>?_,λRW=>rfl⟩⟩
  ·rw[e] at g;simp at g
  ·have IV:=Ot IV;refine⟨g5.ix YM Qo IV,_,_,_,_,_,g5 (k:Int) Qo IV,g6.ix YM Qo IV,_,_,_,_,_,g6 (k:Int) Qo IV,_,λwq=>EC zp8 (zxl _ _) _ _ wq,λg=>?_,λ_=>⟨⟨Qo,Qo⟩,Qy Qo Qo⟩⟩;simp at g
structure z60 (W:Q7):Prop where
 c:W.IF.length<=1000
 t:W.IJ.length<=1000
 g:W.IE.length<=1000
 e:∀i:Int,0<=i->i<(W.IE.length:Int)->(gi W.IE i).IM.RE.length=(gi W.IE i).IM.locals.length/\(gi W.IE i).IM.locals.length<=1000/\(gi W.IE i).IH.length<=1000
def zxh(ha:WA W):z60 W:=⟨by have:=ha.c2;omega,by have:=ha.t;omega,by have:=ha.gl;omega,λi a b=>by
 have h:=KH ha a (by have:=ha.gl;omega);exact⟨h.1,Qo,Qo⟩⟩
def DF(h:J6 bs w W m)(k:J6 bs w W n)(hE:z60 W):PX bs Th #[.agg (Qa W m).toArray,.agg (Qa W n).toArray] w (.bool true):=
 zh0 _ _ _ _ _ _ _ _ _ _ W.now n.cO W.IF.length n.cC n.tO W.IJ.length n.tC n.gO W.IE.length n.gC λwr hx=>by
  have h:=(h.ext hx).less (cs:=[]) Qs;have k:=(k.ext hx).less (cs:=[]) Qs;have c1:=hE.c;have c2:=hE.t;have c3:=hE.g;intro b hb b5 hb5;refine⟨λg=>by simp at g,λ_=>YU W.IF.length 0 rfl (λk=>k<=W.IF.length) (Ic _) λj hj=>⟨λIV=>?_,λRW=>YU W.IJ.length 0 rfl (λk=>k<=W.IJ.length) (Ic _) λj2 hj2=>⟨λIV=>?_,λbK=>YU W.IE.length 0 rfl (λk=>k<=W.IE.length) (Ic _) λj3 hj3=>⟨λIV=>?_,λA87=>rfl⟩⟩⟩⟩
  ·have IV:=Ot IV;refine⟨h.c.ix Y9 Qo IV,_,_,_,_,_,h.c (j:Int) Qo IV,k.c.ix Y9 Qo IV,_,_,_,_,_,k.c (j:Int) Qo IV,_,λwq=>EC zxn (z31 _ _) _ _ wq,λg=>?_,λ_=>⟨⟨Qo,Qo⟩,Qy Qo Qo⟩⟩;simp at g
  ·have IV:=Ot IV;refine⟨h.t.ix QT Qo IV,_,_,_,_,_,_,_,_,_,h.t (j2:Int) Qo IV,k.t.ix QT Qo IV,_,_,_,_,_,_,_,_,_,k.t (j2:Int) Qo IV,_,λwq=>EC Nb (zla _ _) _ _ wq,λg=>?_,λ_=>⟨⟨Qo,Qo⟩,Qy Qo Qo⟩⟩;simp at g
  ·have IV:=Ot IV;have j0:(0:Int)<=(j3:Int):=Qo;have he:=hE.e (j3:Int) j0 IV;refine⟨h.g.ix j0 IV,_,_,_,_,_,_,_,_,_,_,_,_,_,_,_,_,_,_,_,_,h.g.cells (j3:Int) j0 IV,k.g.ix j0 IV,_,_,_,_,_,_,_,_,_,_,_,_,_,_,_,_,_,_,_,_,k.g.cells (j3:Int) j0 IV,true,zdw (h.g.locals _ j0 IV) (h.g.RE _ j0 IV) (h.g.IH _ j0 IV) (k.g.locals _ j0 IV) (k.g.RE _ j0 IV) (k.g.IH _ j0 IV) he.1 he.2.1 he.2.2,λg=>by simp at g,λ_=>⟨⟨Qo,Qo⟩,Qy Qo Qo⟩⟩
end
section
open Go.RowKit Go.ChangeShapes
def z2l:Tryz.prog.underlying Pe=some (.int .u8):=Qk
def u_sl_uint8:Tryz.prog.underlying ty_sl_uint8=some (.slice Pe):=Qk
def z0s:Tryz.prog.cellsOf Pe=1:=Qk
def op_bytes{H:Type}{en:TypeId×Va->H}{w:Wo}{base:Nat}{spare:Nat->Bool}{held:Bool}{fuel:Nat}{cs:List Va}{x:DataW H×List MemPlace}(h:DataW.trod en Tryz.prog w base spare held fuel ty_sl_uint8 cs=some x) :
  ∃(o:OA) (cap L:Nat),cs=[.slice o L cap]/\GH o L w/\L<=cap:=by
 obtain⟨o,len,cap,rfl,h1,_,h3⟩:=zz0 u_sl_uint8 h;refine⟨o,cap,len,rfl,λi hi=>?_,h1⟩;obtain⟨a,n,y,ec,ho,hc,ht⟩:=h3 i hi;rw[z0s,Nat.mul_one] at hc;obtain⟨v,rfl,_,hw⟩:=DataW.trod_int z2l ht;have hv:0<=v/\v<=255:=by simpa[Lit.wf,IntKind.min,IntKind.max,IntKind.signed,IntKind.bits] using hw
 obtain⟨_,_,WY⟩:=World.cells?_some hc;have:=WY 0 Qd;rw[JF,Nat.add_zero] at this;exact⟨a,v,ho,hv.1,hv.2,this⟩
end
def zto{x n:Int}(h0:0<=x)(h1:0<n):0<=Int.tmod x n/\Int.tmod x n<n:=⟨Int.tmod_nonneg _ h0,Int.tmod_lt_of_pos _ h1⟩
def ztt(bs:List Nat)(w:Wo)(c:OA)(L:Nat)(f:Nat->Int):Prop:=∀i:Nat,i<L->0<=f i/\f i<=255/\JE bs w c i (.int .u8 (f i))
def bD(L:Nat)(f:Nat->Int)(i:Int):Int:=if i<(L:Int) then f i.toNat else Int.tmod (i*37) 251
section
variable {bs cs:List Nat}{w w':Wo}{c:OA}{L C:Nat}{f:Nat->Int}{i:Int}
def z3m(h:GH c L w):∃f:Nat->Int,ztt [] w c L f:=by
 have h1:∀i:Nat,∃x:Int,i<L->0<=x/\x<=255/\JE [] w c i (.int .u8 x):=λi=>by
  by_cases hi:i<L
  ·obtain⟨a,x,ha,h1,h2,h3⟩:=h i hi;exact⟨x,λ_=>⟨h1,h2,a,ha,Qs,h3⟩⟩
  ·exact⟨0,λh=>Ir h hi⟩
 exact⟨λi=>(h1 i).choose,λi hi=>(h1 i).choose_spec hi⟩
def ztt.ext(h:ztt bs w c L f)(hx:Q0 bs w w'):ztt bs w' c L f:=λi hi=>⟨(h i hi).1,(h i hi).2.1,(h i hi).2.2.ext hx⟩
def ztt.less(h:ztt bs w c L f)(hs:∀x∈cs,x∈bs):ztt cs w c L f:=λi hi=>by
 obtain⟨h1,h2,a,ha,hb,h3⟩:=h i hi;exact⟨h1,h2,a,ha,λhm=>hb (hs _ hm),h3⟩
def ztt.more(h:ztt bs w c L f)(hb:∀x∈cs,w.heap.size<=x):ztt (bs++cs) w c L f:=λi hi=>by
 obtain⟨h1,h2,a,ha,hn,h3⟩:=h i hi;refine⟨h1,h2,a,ha,λhm=>?_,h3⟩;rcases Im.1 hm with hm|hm
 ·exact hn hm
 ·have IV:=World.block_lt_of_cell? w _ h3;rw[Zz] at IV;have:=hb _ hm;omega
def zwt(h:ztt bs w c L f)(i0:0<=i):0<=bD L f i/\bD L f i<=255:=by
 unfold bD;split
 ·exact⟨(h i.toNat Qo).1,(h i.toNat Qo).2.1⟩
 ·exact⟨Int.tmod_nonneg _ Qo,by have:=Int.tmod_lt_of_pos (i*37) (show (0:Int)<251 by decide);omega⟩
def Kw(h:ztt bs w c L f)(i0:0<=i)(i1:i<=1000):PX bs Ul #[.slice c L C,I i] w (I (bD L f i)):=
 zhz c L C i λwr hx=>by
  have h:=(h.ext hx).less (cs:=[]) Qs;refine⟨λIV=>?_,λRW=>⟨⟨Qo,Qo⟩,Qd,?_⟩⟩
  ·have IV:=Ot IV;obtain⟨h1,h2,h3⟩:=h i.toNat Qo;refine⟨⟨i0,IV,?_⟩,f i.toNat,Ug (by rw[Nat.mul_one];exact h3),⟨Qo,Qo⟩,?_⟩
   ·obtain⟨a,ha,_⟩:=h3;rw[ha];rfl
   ·show _=_;unfold bD;rw[C' IV]
  ·have RW:=Ou RW;show _=_;unfold bD;rw[B' RW]
end
def GI(W:Q7):Prop:=∀i:Int,0<=i->i<8->(gi W.IE i).IM.I'=0
def Nh{W:Q7}(hl:W.IE.length=8)(h:GI W):∀k:Nat,k<=8->Y8 W k=W
 |0,_=>rfl
 |k+1,hk=>by
  have ih:=Nh hl h k Qo;simp only[Y8];rw[ih,B'];rintro⟨_,hq⟩;exact hq (h (k:Int) Qo Qo)
def GI.b{W W':Q7}(h:GI W)(hb:∀i:Int,0<=i->(gi W'.IE i).IM.I'=(gi W.IE i).IM.I'):GI W':=λi a b=>(hb i a).trans (h i a b)
def ME{K:Int}{W:Q7}(sw:SW K W)(hK:0<=K)(hq:GI W):GI (Qf W):=by
 obtain⟨s1,o1⟩:=VY (F:=K) (K:=K+Qi) (sw.sf.mono (I2 _) (by simp only[Qi];omega)) (I2 _) W.IF.length (I7 _);have hq1:GI (Zr W W.IF.length):=hq.b λi hi=>by rw[o1.b i hi]
 have hg:Mk (Zr W W.IF.length)=Zr W W.IF.length:=Nh s1.w.a.gl hq1 8 (I7 _);have hl1:(Zr W W.IF.length).IF.length=W.IF.length:=by rw[o1.c]
 refine hq1.b λi hi=>?_
 show (gi (Xb (Mk (Zr W W.IF.length)) W.IF.length).IE i).IM.I'=_;rw[hg,BT s1.w (by simp only[Qi];omega) i hi W.IF.length Qo]
def zm8(b:Ue)(op:z5m):(ZL b op).1.I'=b.I':=by
 unfold ZL;split
 ·rfl
 ·split
  ·rfl
  ·split
   ·unfold ZQ;split <;> rfl
   ·split
    ·unfold XG;split <;> rfl
    ·split <;> rfl
def zt6(W:Q7)(c n g i:Int):(gi (MR W c n g).IE i).IM.I'=(gi W.IE i).IM.I':=by
 have e1:∀i:Int,(gi (TP W c n g).IE i).IM.I'=(gi W.IE i).IM.I':=λi=>QQ (f:=λG:Zb=>G.IM.I') W.IE g (x:={ gi W.IE g with IH:=(gi W.IE g).IH.set c.toNat (GG W c n g) }) rfl i
 have e2:∀i:Int,(gi (R1 (TP W c n g) g (Kk W c n g)).IE i).IM.I'=(gi W.IE i).IM.I':=λi=>(QQ (f:=λG:Zb=>G.IM.I') (TP W c n g).IE g (x:=Kk W c n g) rfl i).trans (e1 i)
 have e3:(BU W c n g).I'=(gi W.IE g).IM.I':=by
  unfold BU;split
  ·exact zm8 _ _
  ·rfl
 exact(QQ (f:=λG:Zb=>G.IM.I') (R1 (TP W c n g) g (Kk W c n g)).IE g (x:={ gi (R1 (TP W c n g) g (Kk W c n g)).IE g with IM:=BU W c n g }) (e3.trans (e2 g).symm) i).trans (e2 i)
def zir(c n:Int):∀(l:List Int) (W:Q7) (i:Int),(gi (Gl c n l W).IE i).IM.I'=(gi W.IE i).IM.I'
 |[],_,_=>rfl
 |g::l,W,i=>(zir c n l (MR W c n g) i).trans (zt6 W c n g i)
def ztn{c:Int}:∀(l:List Int) {W:Q7},GI W->(∀g∈l,0<=g/\g<8)->Br c l W=(W,true)
 |[],_,_,_=>rfl
 |g::l,W,hq,hl=>by
  have h:=hl g I9;have hT:Lm W c g=(W,true):=by unfold Lm;rw[C' (hq g h.1 h.2)]
  rw[Hz,hT,C' rfl];exact ztn l hq λx hx=>hl x (I1 _ hx)
def zoa{W:Q7}(hq:GI W){c:Int}:∀(l:List Int) (n:Int),(∀g∈l,0<=g/\g<8)->MU W c l n=n
 |[],_,_=>rfl
 |g::l,n,hl=>by
  have h:=hl g I9;have e:Gs W c g n=n:=by unfold Gs;rw[B' (by rw[hq g h.1 h.2];decide)]
  show MU W c l (Gs W c g n)=n;rw[e];exact zoa hq l n λx hx=>hl x (I1 _ hx)
def zta{f:Nat}{c left:Int}{W0 V:Q7}(h:D5 (f+1) c W0 V left)(hq:GI V)(hl:0<left)(hp:¬Qe V c<0):ZC V c=(QI V c (Qe V c),true)/\Yz V c left=left/\O0 V c left=(Qf (JU (QI V c (Qe V c)) c (Qe V c) left),0)/\GI (O0 V c left).1:=by
 have hR:=LW h hl hp;have cZ:=h.sw.a.gl
 have hin:∀g∈Z7 V (Qe V c),0<=g/\g<8:=λg hg=>by
  have:=Q5.1 (hR.pin g hg);omega
 have hqS:GI (QI V c (Qe V c)):=hq;have e1:ZC V c=(QI V c (Qe V c),true):=ztn _ hqS hin
 have e2:Yz V c left=left:=by
  unfold Yz;rw[e1];exact zoa hqS _ _ hin
 have e3:O0 V c left=(Qf (JU (QI V c (Qe V c)) c (Qe V c) left),0):=by
  unfold O0;rw[e1,C' rfl,e2];simp
 refine⟨e1,e2,e3,?_⟩;have hch:=(hR.ch (by rw[e1])).1;rw[e1,e2] at hch
 have hKn:0<=Dt (f+1)+5*Qi:=by
  have h1:=TH h.f2;have hh0:(0:Int)<=Qn:=Qd;simp only[Qi];omega
 rw[e3];refine ME hch hKn (hqS.b λi _=>?_);exact zir c left _ _ i
def zov{c:Int}{W0:Q7}:∀(f:Nat) {V:Q7} {left:Int},D5 f c W0 V left->GI V->GI (Hq c f V left)
 |0,V,left,h,_=>by
  have:=h.f1;have:=h.l0;omega
 |f+1,V,left,h,hq=>by
  have hK:=TH h.f2;have hh0:(0:Int)<=Qn:=Qd
  by_cases hl:left<=0
  ·rw[Hr hl];exact ME h.sw Qo hq
  ·by_cases hp:Qe V c<0
   ·rw[L9 hl hp];exact ME (zdc h).1 Qo hq
   ·rw[Lc hl hp];exact zov f (LW h Qo hp).nx (zta h hq Qo hp).2.2.2
def zl3{W:Q7}{c n:Int}(hW:Qp W)(hq:GI W)(hb:Yl W c n=0):GI (YA W c n):=zov 400 (MC hW hb).2.2.2.2 hq
structure Cr (W:Q7):Prop where
 iv:Xk W
 nq:GI W
structure Nq (W:Q7):Prop where
 q:GI W
 l:W.IE.length=8
section
variable {W:Q7}{g c x n p:Int}{name:ByteArray}
def Cr.w(h:Cr W):Qp W:=Qm.2 h.iv.wp
def Cr.nn(h:Cr W):Nq W:=⟨h.nq,h.iv.wp.a.gl⟩
def Nq.gr(h:Nq W)(u0:0<=g)(u1:g<8){G:Zb}(hx:G.IM.I'=0):Nq (R1 W g G):=by
 refine⟨λi i0 i1=>?_,?_⟩
 ·rw[Yt u0 (by rw[h.l];exact u1) i0];split
  ·exact hx
  ·exact h.q i i0 i1
 ·have:=h.l;simp[R1];exact this
def Nq.sh(h:Nq W)(u0:0<=g)(u1:g<8){s:KD}:Nq (Rw W g c s):=h.gr u0 u1 (h.q g u0 u1)
def Nq.wei(h:Nq W)(u0:0<=g)(u1:g<8):Nq (MP W g c x):=by
 unfold MP;split
 ·exact h
 ·have k:Nq (JY W g c x):=h.sh u0 u1;split
  ·exact⟨k.q,k.l⟩
  ·exact k
def Nq.vI(h:Nq W)(u0:0<=g)(u1:g<8):∀c:Nat,Nq (vI W g x c)
 |0=>h
 |c+1=>(Nq.vI h u0 u1 c).wei u0 u1
def z3q{n:Nat}(n0:1<=n)(n1:n<=4):Cr (J4 n):=⟨zlj n0 n1,λi i0 i1=>by
 rw[Mw i i0 i1]
 split <;> rfl⟩
def z3p(h:Cr W)(hb:LF W p name=0):Cr (zu0 W p name):=by
 have hm:=(Ep hb).1;refine⟨zli h.iv hm,?_⟩;exact(h.nn.gr (by have:=hm.a1;omega) hm.a8 (G:=OJ W.IF.length p name) rfl).q
def z3s(h:Cr W)(hb:zik W g x=0):Cr (zrs W g x):=by
 refine⟨zsk h.w hb,?_⟩;obtain⟨h1,h2,h3,_,_,h5,h6,h7⟩:=zmx h.w hb;have hx:=Qv.1 h1;obtain⟨u0,u1,_⟩:=Q5.1 h3;have cZ:=h.iv.wp.a.gl;obtain⟨a,b,_⟩:=Bl h5 (I2 _) h6 (g:=g) (x:=x) (by rw[h7.cD];exact h3) h2 hx.1 hx.2 W.IF.length (I7 _);have k:Nq (R1 W g (PO W g x)):=h.nn.gr u0 Qo (h.nq g u0 Qo);exact ME a.w (by simp only[Qi];decide) (k.vI u0 Qo W.IF.length).q
def z0y(h:Cr W)(hb:Vc W g n x=0):Cr (DB W g n x):=by
 refine⟨zdh h.w hb,?_⟩;have hf:=za0 h.w hb;exact ME (hf.sw2.Rb hf.c0 hf.c1) Qd λi i0 i1=>h.nq i i0 i1
def z3r(h:Cr W)(hb:Yl W c n=0):Cr (YA W c n):=⟨HL h.iv hb,zl3 h.w h.nq hb⟩
def zw9(h:Cr W){bar:Int}{W':Q7}(hb:bar=0->Cr W'):Cr (Y7 W bar W').1:=by
 unfold Y7;rw[B' (by rw[h.w];decide)];split
 ·exact h
 ·rename_i e;exact hb (by simpa using e)
def zr8(h:Cr W){bar a:Int}{W':Q7}(hb:bar=0->Cr W'):Cr (Uf W bar W' a).1:=by
 unfold Uf;rw[B' (by rw[h.w];decide)];split
 ·exact h
 ·rename_i e;exact hb (by simpa using e)
end
def zuw(l k:Int):Y6 l k<=l\/Y6 l k=0:=by
 have:=ZH k;unfold Y6
 by_cases h1:ZN k<l
 ·simp only[h1,if_true];split
  ·exact .inl Qo
  ·exact .inr rfl
 ·simp only[h1,if_false];split
  ·exact .inl Qo
  ·exact .inr rfl
section
variable {K:Int}{W:Q7}
def zyj(h:SF K K W){k c d:Int}(hu:Q6 W.IE k)(hd:dep 3 W.IE k=d)(d1:1<=d)(c0:0<=c)(c1:c<(W.IF.length:Int)):SF K K (Rw W k c (SC W k c)):=by
 have hz:k≠0:=λe=>by subst e;rw[ZS] at hd;omega
 have hp:=h.w.a.up hu hz;have s1:=h.w.s k c hu c0 c1;have s2:=h.w.s _ c hp c0 c1;have lc:=ZB ((Qb W k c).v-(Qb W (gi W.IE k).IG c).IL) (Qb W k c).w;have lu:=zuw ((Qb W k c).v-(Qb W (gi W.IE k).IG c).IL) (Qb W k c).w;refine h.Rw hu c0 c1 s1.1 s1.2.1 s1.2.1 ?_ ?_ s1.2.2.2.2.1 s1.2.2.2.2.2
 ·simp only[SC];split <;> omega
 ·simp only[SC];split
  ·rcases lu with e|e <;> omega
  ·omega
def zn7(h:SF K K W){c d:Int}(d1:1<=d)(c0:0<=c)(c1:c<(W.IF.length:Int)):∀k:Nat,k<=8->SF K K (Z4 W c d k)/\XU W (Z4 W c d k)
 |0,_=>⟨h,XU.refl _⟩
 |k+1,hk8=>by
  obtain⟨ih,io⟩:=zn7 h (d:=d) d1 c0 c1 k Qo;have hl:=ih.w.a.gl;simp only[Z4];split
  ·rename_i hc;have hu:Q6 (Z4 W c d k).IE (k:Int):=Q5.2 ⟨Qo,Qo,hc.1⟩;exact⟨zyj ih hu hc.2 d1 c0 (by rw[io.c];exact c1),io.trans (UO Qo Qo)⟩
  ·exact⟨ih,io⟩
def NC(h:SF K K W){c:Int}(c0:0<=c)(c1:c<(W.IF.length:Int)):∀j:Nat,j<=3->SF K K (ZP W c j)/\XU W (ZP W c j)
 |0,_=>⟨h,XU.refl _⟩
 |j+1,hj=>by
  obtain⟨a1,b1⟩:=NC h c0 c1 j Qo;obtain⟨a2,b2⟩:=zn7 a1 (c:=c) (d:=3-(j:Int)) Qo c0 (by rw[b1.c];exact c1) 8 Qo;exact⟨a2,b1.trans b2⟩
def zi4(h:SF K K W):∀c:Nat,c<=W.IF.length->SF K K (Zr W c)/\XU W (Zr W c)
 |0,_=>⟨h,XU.refl _⟩
 |c+1,hc=>by
  obtain⟨a,b⟩:=zi4 h c Qo;obtain⟨a2,b2⟩:=NC a (c:=(c:Int)) Qo (by rw[b.c];omega) 3 (I7 _);exact⟨a2,b.trans b2⟩
def zzq(h:SW K W)(hK:0<=K){c:Int}(c0:0<=c)(c1:c<(W.IF.length:Int)):SW K (Xc W c)/\Fr W (Xc W c):=by
 obtain⟨a1,b1⟩:=NC h.sf c0 c1 3 (I7 _);obtain⟨a2,b2⟩:=Oj a1.w hK c0 (c:=c) (by rw[b1.c];exact c1) 8 Qo;have hf:=b1.fr.trans b2.fr;unfold Xc;split
 ·exact⟨SW.Rb a2 c0 (by show c<((QD (ZP W c 3) c 8).IF.length:Int);rw[hf.c];exact c1),hf.trans (Nf _ _)⟩
 ·exact⟨a2,hf⟩
def zo5(h:SW K W)(hK:0<=K):∀c:Nat,c<=W.IF.length->SW K (Xb W c)/\Fr W (Xb W c)
 |0,_=>⟨h,Fr.refl _⟩
 |c+1,hc=>by
  obtain⟨a,b⟩:=zo5 h hK c Qo;obtain⟨a2,b2⟩:=zzq a hK (c:=(c:Int)) Qo (by rw[b.c];omega);exact⟨a2,b.trans b2⟩
def zvm(h:SW K W)(hK:0<=K):SW K (Qf W)/\Fr W (Qf W):=by
 obtain⟨a1,b1⟩:=zi4 h.sf W.IF.length (I7 _);obtain⟨a2,b2⟩:=Vd a1 8 Qo;have hf:=b1.fr.trans b2.fr;obtain⟨a3,b3⟩:=zo5 a2.w hK W.IF.length (by show W.IF.length<=(Y8 (Zr W W.IF.length) 8).IF.length;rw[hf.c];exact I7 _);exact⟨a3,hf.trans b3⟩
end
def zz7(_:Q7):Prop:=True
def zfe{K:Int}{W:Q7}(_:SW K W)(_:0<=K):zz7 (Qf W):=trivial
structure TN (K S:Int) (W:Q7):Prop where
 sw:SW K W
 rb:RB S W
 i:∀c:Int,0<=c->c<(W.IF.length:Int)->(gi W.IF c).idle<=S
 nw:W.now<=S
structure zpk (W W':Q7):Prop where
 n:W'.now=W.now
 l:W'.IF.length=W.IF.length
 i:∀c:Int,(gi W'.IF c).idle=(gi W.IF c).idle
def zpk.refl(W:Q7):zpk W W:=⟨rfl,rfl,λ_=>rfl⟩
def zpk.trans{A B C:Q7}(h:zpk A B)(k:zpk B C):zpk A C:=⟨k.n.trans h.n,k.l.trans h.l,λc=>(k.i c).trans (h.i c)⟩
def zsh(W:Q7)(c:Int):zpk W (Rb W c):=⟨rfl,E',(HY W c).i⟩
def zul(W:Q7)(t:Int):zpk W (Z1 W t):=by
 unfold Z1;split
 ·exact zsh _ _
 ·exact zpk.refl _
def zsi(W:Q7)(t g c:Int):zpk W (Ud W t g c):=by
 unfold Ud;split
 ·exact(⟨rfl,rfl,λ_=>rfl⟩:zpk W (J' W t (PM W t g c))).trans (zsh _ _)
 ·exact⟨rfl,rfl,λ_=>rfl⟩
def zlg(W:Q7):∀k:Nat,zpk W (Jn W k)
 |0=>zpk.refl _
 |k+1=>by
  simp only[Jn];split
  ·exact(zlg W k).trans (zsi _ _ _ _)
  ·exact zlg W k
section
variable {K K' S S':Int}{W W':Q7}
def TN.mono(h:TN K S W)(hk:K<=K')(hs:S<=S'):TN K' S' W:=⟨h.sw.mono hk,h.rb.mono hs,λc a b=>IC (h.i c a b) hs,IC h.nw hs⟩
def TN.of(h:TN K S W)(k:zpk W W')(sw:SW K' W')(rb:RB S W'):TN K' S W':=⟨sw,rb,λc a b=>by rw[k.l] at b;rw[k.i];exact h.i c a b,by rw[k.n];exact h.nw⟩
def TN.sum(h:TN K S W)(k:Ub W W')(hT:QZ W.IE W'.IE)(hl:W'.IF.length=W.IF.length)(sw:SW K' W'):TN K' S W':=h.of ⟨k.n,hl,k.i⟩ sw (h.rb.sum k hT hl)
def TN.settle(h:TN K S W)(hK:0<=K):TN K S (Qf W):=by
 obtain⟨s,f⟩:=zvm h.sw hK;exact h.sum (Ux W) f.g f.c s
def TN.Rb(h:TN K S W){c:Int}(c0:0<=c)(c1:c<(W.IF.length:Int)):TN K S (Rb W c):=h.sum (HY W c) (QZ.refl _) E' (h.sw.Rb c0 c1)
def TN.room(h:TN K S W)(wp:XV W)(hK:K<=Qn)(hS:S<=Qn)(S0:0<=S):QO W:=by
 have cZ:=wp.a.gl;have qT:=wp.a.t;refine Qm.2 ⟨IC h.nw hS,λc a b=>⟨IC (h.rb.c c a b).2.1 hS,IC (h.i c a b) hS⟩,λt a b=>?_,λk a b=>?_,λk c a b c0 c1=>?_⟩
 ·have h1:=h.sw.tv t a Qo;have h2:=h.rb.t t a Qo;exact⟨IC h1.2 hK,IC h2.2.1 hS,IC h2.2.2.2 hS⟩
 ·cases hh:(gi W.IE k).IW with
  |true=>exact IC (h.rb.g k (Q5.2 ⟨a,b,hh⟩)).2 hS
  |false=>
   rw[((wp.a.grp k a Qo).1 hh).s];omega
 ·have hu:Q6 W.IE k:=by
   cases hh:(gi W.IE k).IW with
   |true=>exact Q5.2 ⟨a,b,hh⟩
   |false=>
    have:=((wp.a.grp k a Qo).1 hh).l;omega
  have hl:=wp.a.sl hu;have h1:=h.sw.s k c hu c0 Qo;exact⟨IC h1.2.1 hK,IC h1.2.2.2.1 hK,IC (h.rb.s k c hu c0 Qo).2 hS⟩
def TN.tk(h:TN K S W)(hk:K<=K'){t:Int}(t0:0<=t)(t1:t<12){x:MQ}(hx:x.state≠0->Q6 W.IE x.II/\0<=x.R2/\x.R2<(W.IF.length:Int))(v0:0<=x.v)(v1:x.v<=K')(hs:0<=x.sum/\x.sum<=S/\0<=x.IW/\x.IW<=S):TN K' S (J' W t x):=
 ⟨(h.sw.mono hk).J' t0 t1 hx v0 v1,h.rb.J' h.sw.a.t t0 t1 hs,h.i,h.nw⟩
def z4v(h:RB S W)(c:Int):RB S (Rb W c):=h.sum (HY W c) (QZ.refl _) E'
def zy4(h:RB S W)(hl:W.IJ.length=12){t:Int}(t0:0<=t)(t1:t<12)(g c:Int):RB S (Ud W t g c):=by
 have h1:RB S (J' W t (PM W t g c)):=h.J' hl t0 t1 (x:=PM W t g c) (h.t t t0 t1);unfold Ud;split
 ·exact z4v h1 c
 ·exact h1
def zy5(h:RB S W)(hl:W.IJ.length=12):∀k:Nat,k<=12->RB S (Jn W k)/\(Jn W k).IJ.length=12
 |0,_=>⟨h,hl⟩
 |k+1,hk=>by
  obtain⟨a,b⟩:=zy5 h hl k Qo;simp only[Jn];split
  ·exact⟨zy4 a b Qo Qo _ _,(zq2 _ _ _ _).2.2.1.trans b⟩
  ·exact⟨a,b⟩
def TN.rel(h:TN K S W)(hk:K+Qi<=K'):TN K' S (LS W):=
 h.of (zlg W 12) (LU (h.sw.sf.mono (I2 _) (by simp only[Qi] at hk;omega)) hk).1.w (zy5 h.rb h.sw.a.t 12 (I7 _)).1
def TN.put(h:TN K S W)(hk:K+Qi<=K'){t g c:Int}(t0:0<=t)(t1:t<12)(hg:Q6 W.IE g)(c0:0<=c)(c1:c<(W.IF.length:Int)):TN K' S (Ud W t g c):=
 h.of (zsi W t g c) (B8 (h.sw.sf.mono (I2 _) (by simp only[Qi] at hk;omega)) hk t0 t1 hg c0 c1).2.w (zy4 h.rb h.sw.a.t t0 t1 g c)
def TN.leave(h:TN K S W){t:Int}(t0:0<=t)(t1:t<12)(n:(Q8 W t).state≠0):TN K S (Z1 W t):=by
 unfold Z1;split
 ·exact h.Rb (h.sw.t t t0 t1 n).2.1 (h.sw.t t t0 t1 n).2.2
 ·exact h
def zml(W:Q7){g:Int}{x:Zb}(h1:x.sum=(gi W.IE g).sum)(h2:x.IH=(gi W.IE g).IH):Ub W (R1 W g x):=
 ⟨rfl,rfl,λi d=>QQ (f:=λG:Zb=>(gi G.IH d).sum) W.IE g (x:=x) (by rw[h2]) i,λi=>QQ (f:=Zb.sum) W.IE g (x:=x) h1 i,λ_=>rfl,λ_=>rfl,λ_=>rfl,λ_=>.inl rfl⟩
def zj2(W:Q7)(g c x:Int):Ub W (MP W g c x):=by
 unfold MP;split
 ·exact Ub.refl _
 ·split
  ·exact(zmm W (g:=g) (c:=c) (s:=Ac W g c x) rfl).trans (HY _ _)
  ·exact zmm W (g:=g) (c:=c) (s:=Ac W g c x) rfl
def zj1(W:Q7)(g x:Int):∀c:Nat,Ub W (vI W g x c)
 |0=>Ub.refl _
 |c+1=>(zj1 W g x c).trans (zj2 _ _ _ _)
def A5(W:Q7)(c:Int):∀k:Nat,Ub W (T9 W c k)
 |0=>Ub.refl _
 |k+1=>by
  simp only[T9];split
  ·exact(A5 W c k).trans (zj2 _ _ _ _)
  ·exact A5 W c k
def TN.RM(h:TN K S W){c:Int}(c0:0<=c)(c1:c<(W.IF.length:Int)){x:PZ}(hu:JC (W.IF.set c.toNat x)≠0)(hc:x.cur=(gi W.IF c).cur)(hr:x.Wh=(gi W.IF c).Wh)(hb:x.busy=(gi W.IF c).busy)(hi:x.idle=(gi W.IF c).idle):TN K S (RM W c x):=by
 have hcu:=h.sw.cu c c0 c1;have hrb:=h.rb.c c c0 c1;refine h.of ⟨rfl,E',λd=>QQ (f:=PZ.idle) W.IF c (x:=x) hi d⟩ (h.sw.RM c0 c1 hu (by rw[hc];exact hcu.1) (by rw[hc];exact hcu.2)) (h.rb.RM c0 c1 ?_);rw[hb,hi,hr];exact hrb
end
def Up(W V:Q7):Prop:=∀K S:Int,0<=K->0<=S->S<=10000000000000000->TN K S W->zz7 W->TN (K+80000000000000) (S+200000) V/\zz7 V
def TI{K K1 S S1:Int}{X:Q7}(h:TN K1 S1 X)(k0:0<=K1)(hk:K1<=K)(hs:S1<=S):TN K S (Qf X)/\zz7 (Qf X):=⟨(h.settle k0).mono hk hs,zfe h.sw k0⟩
section
variable {W V:Q7}
def Up.refl(W:Q7):Up W W:=λ_ _ _ _ _ h g=>⟨h.mono Qo Qo,g⟩
def z42{c:Int}(c0:0<=c)(c1:c<(W.IF.length:Int)):Up W (Rb W c):=λ_ _ _ _ _ h g=>⟨(h.Rb c0 c1).mono Qo Qo,trivial⟩
def zi2{K S:Int}(hK:0<=K)(hS:0<=S)(h:TN K S W){g n x:Int}(hW:Qp W)(hb:Vc W g n x=0):TN K S (DB W g n x)/\zz7 (DB W g n x):=by
 have hf:=za0 hW hb;have hs:=h.sw.s g (KM W g x) hf.u hf.c0 hf.c1;have s1:=h.tk (I2 K) hf.f0 hf.f1 (x:=KN W g n x) (λ_=>⟨hf.u,hf.c0,hf.c1⟩) hs.1 hs.2.1 (by simp only[KN];omega);exact TI (s1.Rb hf.c0 hf.c1) hK (I2 _) (I2 _)
def z2n{g n x:Int}(hW:Qp W)(hb:Vc W g n x=0):Up W (DB W g n x):=λK S hK hS _ h _=>by
 have:=zi2 hK hS h hW hb;exact⟨this.1.mono Qo Qo,this.2⟩
def zz3{t:Int}(hW:Qp W)(hb:VB W t=0):Up W (zcf W t):=λK S hK hS _ h g0=>by
 obtain⟨h1,_⟩:=zcg hW hb;obtain⟨t0,t1,n⟩:=ZY h1;have hl:=h.sw.a.t;have hv:=h.sw.tv t t0 Qo;exact TI ((h.tk (I2 K) t0 Qo (x:={ Q8 W t with state:=2 }) (λ_=>h.sw.t t t0 Qo n) hv.1 hv.2 (h.rb.t t t0 Qo))) hK Qo Qo
def z2q{t:Int}(hW:Qp W)(hb:MO W t=0):Up W (Bk W t):=λK S hK hS _ h g0=>by
 obtain⟨h1,_,_,_,c0,c1⟩:=zmu hW hb;obtain⟨t0,t1,n⟩:=ZY h1;have hl:=h.sw.a.t;have hu:=(h.sw.t t t0 Qo n).1;have hv:=zmb (K:=K+Qi) (h.sw.sf.mono (I2 _) (by simp only[Qi];omega)) (I2 _) (t:=t) hu c0 c1;have s1:=h.tk (K':=K+Qi) (by simp only[Qi];omega) t0 Qo (x:=T2 W t (PE W t)) (λ_=>⟨hu,c0,c1⟩) hv.1 hv.2 (h.rb.t t t0 Qo);exact TI ((s1.Rb c0 c1)) (by simp only[Qi];omega) (by simp only[Qi];omega) Qo
def z2m{t:Int}(hW:Qp W)(hb:Oa W t=0):Up W (Fw W t):=λK S hK hS _ h g0=>by
 obtain⟨h1,_⟩:=zaz hW hb;obtain⟨t0,t1,n⟩:=ZY h1;have hl:=h.sw.a.t;have s1:=(h.leave t0 Qo n).tk (I2 K) t0 Qo (x:=Bp) (λh=>Ir rfl h) (by show (0:Int)<=0;decide) (by show (0:Int)<=K;exact hK) (by simp only[Bp];omega);exact TI s1 hK Qo Qo
def z2o{t n:Int}(hW:Qp W)(hb:Pc W t n=0):Up W (L2 W t n):=λK S hK hS _ h g0=>by
 have hN:=zl2 hW hb;obtain⟨t0,t1,tn⟩:=ZY hN.th;have hl:=h.sw.a.t;have hg:=h.sw.t t t0 Qo tn;have hv:=h.sw.tv t t0 Qo;have hf:=h.sw.s _ _ hg.1 hg.2.1 hg.2.2;have lc:=ZB ((Q8 W t).v-(Qb W (Q8 W t).II (Q8 W t).R2).IL) (Qh n);have lm:=ZH (Qh n)
 have f1:0<=(XE W t n).v/\(XE W t n).v<=K+Qi:=by
  unfold XE
  dsimp only
  split
  ·unfold K8;simp only[Qi];omega
  ·simp only[Qi];omega
 have s1:=h.tk (K':=K+Qi) (by simp only[Qi];omega) t0 Qo (x:=XE W t n) (λ_=>hg) f1.1 f1.2 (h.rb.t t t0 Qo);have k0:0<=K+Qi:=by simp only[Qi];omega
 unfold L2;split
 ·exact TI ((s1.leave t0 Qo (by rw[HA t0 t1];exact tn))) k0 (by simp only[Qi];omega) Qo
 ·exact TI s1 k0 (by simp only[Qi];omega) Qo
def zbf{K S:Int}(hK:0<=K)(h:TN K S V):TN (K+80000000000000) (S+200000) (Qf (LS V))/\zz7 (Qf (LS V)):=
 TI ((h.rel (I2 _))) (by simp only[Qi];omega) (by simp only[Qi];omega) Qo
def z47{t x:Int}(hW:Qp W)(hb:Ds W t x=0):Up W (zve W t x):=λK S hK hS _ h g0=>by
 obtain⟨h1,_⟩:=zqx hW hb;obtain⟨t0,t1,n⟩:=ZY h1;have hl:=h.sw.a.t;have hv:=h.sw.tv t t0 Qo;exact zbf hK (h.tk (I2 K) t0 Qo (x:=zoi W t x) (λ_=>h.sw.t t t0 Qo n) hv.1 hv.2 (h.rb.t t t0 Qo))
def z45{t g:Int}(iv:Xk W)(hb:NF W t g=0):Up W (y8 W t g):=λK S hK hS sJ h g0=>by
 unfold NF at hb
 split at hb
 ·cases hb
 ·rename_i h1
  split at hb
  ·cases hb
  ·have hth:Yd W t:=by cases h:Yd W t with|true=>rfl|false=>exact Ir (.inl h) h1
   have hu:Q6 W.IE g:=by cases h:Q6 W.IE g with|true=>rfl|false=>exact Ir (.inr h) h1
   obtain⟨t0,t1,n⟩:=ZY hth;have hl:=h.sw.a.t;unfold y8;split
   ·exact Up.refl W K S hK hS sJ h g0
   ·obtain⟨m0,m1,_⟩:=zly iv.wp (g:=g) t0 Qo n;have hlen:=(zul W t).l;exact TI (((h.leave t0 Qo n).put (I2 _) t0 Qo (by rw[zyd];exact hu) m0 (by rw[hlen];exact m1))) (by simp only[Qi];omega) (by simp only[Qi];omega) Qo
def zsn{K S:Int}(hK:0<=K)(hS:0<=S)(h:TN K S W)(g0:zz7 W)(iv:Xk W){a p:Int}{name:ByteArray}(hm:zas W a p name):TN K S (Oc W a p name)/\zz7 (Oc W a p name):=by
 have ha:=iv.wp.a;refine⟨?_,trivial⟩;refine⟨⟨(zli iv hm).wp.a,λt x y n=>?_,h.sw.tv,λk c u x y=>?_,h.sw.cu⟩,⟨h.rb.n,h.rb.t,λk c u x y=>?_,λk u=>?_,h.rb.c⟩,h.i,h.nw⟩
 ·have:=h.sw.t t x y n;exact⟨(PL ha hm).2 (.inl this.1),this.2⟩
 ·rcases (PL ha hm).1 u with e|e
  ·rw[Mu ha hm e];exact h.sw.s k c e x y
  ·rw[e,za8 ha hm x y];simp only[FT];omega
 ·rcases (PL ha hm).1 u with e|e
  ·rw[Mu ha hm e];exact h.rb.s k c e x y
  ·rw[e,za8 ha hm x y];simp only[FT];omega
 ·rcases (PL ha hm).1 u with e|e
  ·rw[Hf ha hm e];exact h.rb.g k e
  ·rw[e,LG ha hm];simp only[OJ];omega
def z6i(iv:Xk W){a p:Int}{name:ByteArray}(hm:zas W a p name):Up W (Oc W a p name):=λK S hK hS _ h g0=>by
 have:=zsn hK hS h g0 iv hm;exact⟨this.1.mono Qo Qo,this.2⟩
def z41(iv:Xk W){g:Int}(hd:zfw W g):Up W (XW W g):=λK S hK hS _ h g0=>by
 have ha:=iv.wp.a;refine⟨?_,trivial⟩;refine TN.mono (K:=K) (S:=S) ⟨⟨(zsj iv hd).wp.a,λt x y n=>?_,h.sw.tv,λk c u x y=>?_,h.sw.cu⟩,⟨h.rb.n,h.rb.t,λk c u x y=>?_,λk u=>?_,h.rb.c⟩,h.i,h.nw⟩ Qo Qo
 ·have:=h.sw.t t x y n;exact⟨(MZ ha hd).2 ⟨this.1,hd.nt t x y n⟩,this.2⟩
 ·obtain⟨e,e2⟩:=(MZ ha hd).1 u;rw[M3 ha hd e e2];exact h.sw.s k c e x y
 ·obtain⟨e,e2⟩:=(MZ ha hd).1 u;rw[M3 ha hd e e2];exact h.rb.s k c e x y
 ·obtain⟨e,e2⟩:=(MZ ha hd).1 u;rw[GU ha hd e e2];exact h.rb.g k e
def zz5{g x:Int}(hW:Qp W)(hb:zik W g x=0):Up W (zrs W g x):=λK S hK hS _ h g0=>by
 obtain⟨h1,h2,h3,_,_,_,h6,h7⟩:=zmx hW hb;have hx:=Qv.1 h1;obtain⟨u0,u1,hg⟩:=h.sw.a.u h3;have s1:=h.sw.R1 (x:=PO W g x) h3 rfl rfl rfl rfl ⟨hx.1,hx.2,hg.m,hg.m0,hg.s,hg.len,λh=>Ir h h2,hg.none,hg.IM⟩;obtain⟨a,b,_⟩:=Bl (K:=K+Qi) (s1.sf.mono (I2 _) (by simp only[Qi];omega)) (I2 _) h6 (g:=g) (x:=x) (by rw[h7.cD];exact h3) h2 hx.1 hx.2 W.IF.length (I7 _);have k:=h.sum ((zml W (g:=g) (x:=PO W g x) rfl rfl).trans (zj1 (R1 W g (PO W g x)) g x W.IF.length)) (h7.trans b.g) b.c a.w;exact TI k (by simp only[Qi];omega) (by simp only[Qi];omega) Qo
def z43{g x:Int}(hW:Qp W)(hb:zle W g x=0):Up W (zuk W g x):=λK S hK hS _ h g0=>by
 obtain⟨h1,h2,h3,h4⟩:=za3 hb;obtain⟨u0,u1,hg⟩:=h.sw.a.u h3;simp only[A',It,ne_eq] at h1;have s1:=h.sw.R1 (x:=zc8 W g x) h3 rfl rfl rfl rfl ⟨hg.w1,hg.w2,h1.1,h1.2,hg.s,hg.len,λh=>Ir h h2,hg.none,hg.IM⟩;exact zbf hK (h.sum (zml W (g:=g) (x:=zc8 W g x) rfl rfl) (XT u0 (Q5.1 h3).2.1 rfl rfl rfl) rfl s1)
def z44{g q p:Int}(hW:Qp W)(hb:zls W g q p=0):Up W (zyf W g q p):=λK S hK hS _ h g0=>by
 obtain⟨h1,_,_,_,_,h2⟩:=zqm hW hb;obtain⟨u0,u1,_⟩:=Q5.1 h1;have hl:=zd5 (W:=W) (g:=g) (q:=q) (p:=p);have hT:QZ W.IE (R1 W g (Px W g q p)).IE:=XT u0 u1 hl.1 hl.2.1 hl.2.2.1
 have es:∀k c:Int,0<=k->Qb (R1 W g (Px W g q p)) k c=Qb W k c:=λk c k0=>by
  unfold Qb;rw[Yt u0 u1 k0];split
  ·rename_i e;subst e;rw[hl.2.2.2.1]
  ·rfl
 have s1:SW K (R1 W g (Px W g q p)):=⟨h2.a,λt a b n=>by rw[hT.cD];exact h.sw.t t a b n,h.sw.tv,λk c u a b=>by
  rw[hT.cD] at u;rw[es k c (Q5.1 u).1];exact h.sw.s k c u a b,h.sw.cu⟩
 exact TI ((h.sum (zml W (g:=g) (x:=Px W g q p) hl.2.2.2.2.2.2 hl.2.2.2.1) hT rfl s1)) hK Qo Qo
def zr9{S:Int}(h:RB S W)(hl:W.IJ.length=12):∀k:Nat,k<=12->RB S (TX W k)
 |0,_=>h
 |k+1,hk=>by
  have ih:=zr9 h hl k Qo;have hv:=ih.t (k:Int) Qo Qo;exact ih.J' ((zay W k).2.2.2.trans hl) Qo Qo (x:=zco (Q8 (TX W k) (k:Int))) ⟨hv.1,hv.2.1,by show (0:Int)<=0;decide,by show (0:Int)<=S;omega⟩
def z2p{n:Int}(hW:Qp W)(hb:Lh W n=0):Up W (zfr W n):=λK S hK hS sJ h g0=>by
 obtain⟨h1,_⟩:=zmo hW hb;have hi:=Qv.1 h1;have hl:=h.sw.a.gl;have hnw:=h.nw;have s1:=zog (n:=n.toNat) h.sw Qo;obtain⟨l1,l2,l3,l4⟩:=VZ W n.toNat 8;have hT:QZ W.IE (Zs W n.toNat).IE:=LO W n.toNat 8 Qo
 have e:∀i:Int,0<=i->i<8->gi (Zs W n.toNat).IE i=XN W.now n.toNat (gi W.IE i):=λi a b=>by
  have:=Mx W n.toNat 8 Qo i a
  rwa[C' (show i<((8:Nat):Int) by omega)] at this
 have et:∀t:Int,Q8 (Zs W n.toNat) t=Q8 W t:=λt=>by unfold Q8;rw[show (Zs W n.toNat).IJ=W.IJ from l4]
 have ec:(Zs W n.toNat).IF=W.IF:=l3;have en:(Zs W n.toNat).now=W.now+(n.toNat:Int):=l2
 have r1:RB S (Zs W n.toNat):=⟨by rw[en];omega,λt a b=>by rw[et];exact h.rb.t t a b,λk c u a b=>by
  rw[hT.cD] at u;rw[ec] at b;obtain⟨k0,k1,_⟩:=Q5.1 u;unfold Qb;rw[e k k0 Qo,(K9 W.now n.toNat (gi W.IE k)).2.2.2.1];exact h.rb.s k c u a b,λk u=>by
  rw[hT.cD] at u;obtain⟨k0,k1,_⟩:=Q5.1 u;rw[e k k0 Qo,(K9 W.now n.toNat (gi W.IE k)).2.2.2.2.2.2.1];exact h.rb.g k u,λc a b=>by rw[ec] at b ⊢;exact h.rb.c c a b⟩
 have hd:=zay (Zs W n.toNat) 12
 have l2':TN K (S+1000) (TX (Zs W n.toNat) 12):=⟨zkx s1 12 (I7 _),(zr9 r1 s1.a.t 12 (I7 _)).mono Qo,λc a b=>by
  rw[hd.2.2.1,ec] at b ⊢;exact IC (h.i c a b) Qo,by rw[hd.2.1,en];omega⟩
 exact TI l2' hK Qo Qo
def zr4{K:Int}(hs:SW K W)(wp:XV W){c:Int}(c0:0<=c)(c1:c<(W.IF.length:Int)):∀k:Nat,k<=8->SF K (K+Qi) (T9 W c k)/\Fr W (T9 W c k)/\D3 (T9 W c k)
 |0,_=>⟨hs.sf.mono (I2 _) (by simp only[Qi];omega),Fr.refl _,zkw wp⟩
 |k+1,hk=>by
  obtain⟨ih,fr,cu⟩:=zr4 hs wp c0 c1 k Qo;simp only[T9];split
  ·rename_i h;have hl:=ih.w.a.gl;have hu:Q6 (T9 W c k).IE (k:Int):=Q5.2 ⟨Qo,Qo,h.2⟩;have yZ:c<((T9 W c k).IF.length:Int):=by rw[fr.c];exact c1
   have hs:=zfh ih.w.tu hu c0 yZ;obtain⟨a,b,d⟩:=zmw ih (I2 _) cu hu Qo c0 yZ hs.1 hs.2;exact⟨a,fr.trans b,d⟩
  ·exact⟨ih,fr,cu⟩
def z40{c:Int}(hW:Qp W)(hb:E6 W c=0):Up W (zcd W c):=λK S hK hS _ h g0=>by
 obtain⟨c0,c1,_,_,_,fV⟩:=zax hW hb;have wp:=Qm.1 hW;obtain⟨a,f,_⟩:=zr4 h.sw wp c0 c1 8 (I7 _);have k0:0<=K+Qi:=by simp only[Qi];omega
 have s1:TN (K+Qi) S (V7 W c):=(h.sum (A5 W c 8) f.g f.c a.w).settle k0;unfold zcd;split
 ·exact⟨s1.mono (by simp only[Qi];omega) Qo,zfe a.w k0⟩
 ·rename_i hp;obtain⟨p0,p1,ps,pu,_⟩:=zkn hW hb hp;exact TI ((s1.put (I2 _) p0 p1 pu c0 (by rw[fV.c];exact c1))) (by simp only[Qi];omega) (by simp only[Qi];omega) Qo
def z6k{c:Int}(hW:Qp W)(hb:UZ W c false 0=0):Up W (z5f W c):=λK S hK hS _ h g0=>by
 obtain⟨c0,c1,_,hs⟩:=zyx hW hb;exact zbf hK (h.RM c0 c1 (x:=Lj (gi W.IF c) true) hs.w.a.ups rfl rfl rfl rfl)
def z46{c:Int}(hW:Qp W)(hb:UZ W c true (Gt W)=0):Up W (zu6 W c):=λK S hK hS _ h g0=>by
 obtain⟨c0,c1,_,hs⟩:=zqs hW hb;have hl:(RM W c (Lj (gi W.IF c) false)).IF.length=W.IF.length:=E';exact zbf hK ((h.RM c0 c1 (x:=Lj (gi W.IF c) false) hs.w.a.ups rfl rfl rfl rfl).Rb c0 (by rw[hl];exact c1))
def z1u{K S:Int}{f:Nat}{c left:Int}{W0:Q7}(h:TN K S W)(hK:0<=K)(hS:S+500<=50000000000000000)(hI:D5 (f+1) c W0 W left)(hl:0<left)(hp:¬Qe W c<0):TN (K+5*Qi) (S+500) (O0 W c left).1:=by
 have hR:=LW hI hl hp;have c0:=hI.c0;have c1:=hI.c1;have t0:=hR.line.t0;have t1:=hR.line.t1;have hl1:=hI.l1;have hlg:0<=Qi:=Qd;obtain⟨s1,r1,u1,CE2,_,l1⟩:=G2 h.sw h.rb c0 c1 hI.up t0 t1;obtain⟨tk,_,_⟩:=zrn c0 (Z7 W (Qe W c)) s1 (by rw[l1];exact c1) hR.pin hR.dr;have eW:(ZC W c).1=(Br c (Z7 W (Qe W c)) (QI W c (Qe W c))).1:=rfl;rw[<-eW] at tk;have eC:(ZC W c).1.IF=(QI W c (Qe W c)).IF:=tk.o.c;have rT:RB S (ZC W c).1:=r1.sum tk.su tk.o.g (by rw[eC]);have lT:(ZC W c).1.IF.length=W.IF.length:=by rw[eC,l1]
 have eT:(ZC W c).1.IJ=W.IJ:=tk.o.t
 have bR:∀d:Int,(gi (ZC W c).1.IF d).idle=(gi W.IF d).idle:=λd=>by
  rw[eC];exact QQ (f:=PZ.idle) W.IF c (x:=ZX W c (Qe W c)) (by unfold ZX;split <;> rfl) d
 have iT:zpk W (ZC W c).1:=⟨tk.o.n,lT,bR⟩;have hT:TN K S (ZC W c).1:=h.of iT tk.sw rT;unfold O0
 by_cases ht:(ZC W c).2=true
 ·rw[C' ht];have hm:=hR.m ht;have upT:(gi (ZC W c).1.IF c).up:=by rw[eC];exact u1
  have AZ0:(gi (ZC W c).1.IF c).Wh<50:=by rw[eC];exact CE2
  have uT:Q6 (ZC W c).1.IE (Q8 (ZC W c).1 (Qe W c)).II:=by rw[tk.o.g.cD,Xf eT];exact hR.us
  have hx:=BV (t:=Qe W c) (n:=Yz W c left) tk.sw rT Qo c0 (by rw[lT];exact c1) upT AZ0 t0 t1 uT Qo Qo;have rM:(Gl c (Yz W c left) (Z7 (ZC W c).1 (Qe W c)) (J' (ZC W c).1 (Qe W c) (P4 (ZC W c).1 (Qe W c) (Yz W c left)))).IF=(ZC W c).1.IF:=hx.2.2.2.2.2.2.2.2.cp
  have C81:∀d:Int,(gi (JU (ZC W c).1 c (Qe W c) (Yz W c left)).IF d).idle=(gi (ZC W c).1.IF d).idle:=λd=>by
   show (gi ((Gl c (Yz W c left) (Z7 (ZC W c).1 (Qe W c)) (J' (ZC W c).1 (Qe W c) (P4 (ZC W c).1 (Qe W c) (Yz W c left)))).IF.set c.toNat (zgy (ZC W c).1 c (Yz W c left))) d).idle=_;rw[rM];exact QQ (f:=PZ.idle) (ZC W c).1.IF c (x:=zgy (ZC W c).1 c (Yz W c left)) rfl d
  have k:TN (K+5*Qi) (S+500) (JU (ZC W c).1 c (Qe W c) (Yz W c left)):=(hT.mono (I2 _) Qo).of ⟨hx.2.2.2.1,hx.2.2.2.2.1,C81⟩ hx.1 hx.2.1;exact k.settle Qo
 ·rw[B' ht];exact((hT.Rb c0 (by rw[lT];exact c1)).settle hK).mono Qo Qo
def zd9{c:Int}{W0:Q7}:∀(f:Nat) {K S left:Int} {W:Q7},TN K S W->0<=K->0<=S->S+(f:Int)*500+1000<=50000000000000000->D5 f c W0 W left->TN (K+(f:Int)*(5*Qi)) (S+(f:Int)*500) (Hq c f W left)/\zz7 (Hq c f W left)
 |0,K,S,left,W,_,_,_,_,hI=>by have:=hI.f1;have:=hI.l0;omega
 |f+1,K,S,left,W,h,hK,hS,sJ,hI=>by
  have hlg:Qi=34686091440:=Qd;have hB:((f+1:Nat):Int)*(5*Qi)=(f:Int)*(5*Qi)+173430457200:=by rw[hlg];omega
  have hB0:0<=(f:Int)*(5*Qi):=by rw[hlg];omega
  have c0:=hI.c0;have c1:=hI.c1;have l0:=hI.l0;have l1:=hI.l1;simp only[Hq];split
  ·exact TI h hK Qo Qo
  ·rename_i hl;split
   ·have hcu:=h.sw.cu c c0 c1;have hr:=h.rb.c c c0 c1;have hri:=h.i c c0 c1;have hlen:(RM W c (Jf W c left)).IF.length=W.IF.length:=E';have hg:∀d:Int,0<=d->gi (RM W c (Jf W c left)).IF d=if c=d then Jf W c left else gi W.IF d:=λd d0=>QE _ _ c0 c1 d0
    have s1:TN K (S+100) (RM W c (Jf W c left)):=by
     refine⟨h.sw.RM c0 c1 (EI (c:=c) (by rw[E'];exact h.sw.a.c2) c0 (by rw[E'];exact c1) (by rw[show gi (W.IF.set c.toNat (Jf W c left)) c=Jf W c left from (QE _ _ c0 c1 c0).trans (C' rfl)];exact hI.up)) hcu.1 hcu.2,(h.rb.mono Qo).RM c0 c1 ⟨hr.1,by show (gi W.IF c).busy<=_;omega,by show 0<=(gi W.IF c).idle+left;omega,by show (gi W.IF c).idle+left<=_;omega,hr.2.2.2.2.1,hr.2.2.2.2.2⟩,λd a b=>?_,by have:=h.nw;show W.now<=S+100;omega⟩;rw[hlen] at b;rw[hg d a];split
     ·show (gi W.IF c).idle+left<=_;omega
     ·have:=h.i d a b;omega
    exact TI (s1.Rb c0 (by rw[hlen];exact c1)) hK Qo Qo
   ·rename_i hp;have h1:=z1u h hK Qo hI Qo hp;have h2:=zd9 f h1 Qo Qo Qo (LW hI Qo hp).nx;exact⟨h2.1.mono Qo Qo,h2.2⟩
def zz4{c n:Int}(hW:Qp W)(hb:Yl W c n=0):Up W (YA W c n):=λK S hK hS sJ h g0=>by
 have hlg:Qi=34686091440:=Qd;have hr:=zd9 400 h hK hS Qo (MC hW hb).2.2.2.2;exact⟨hr.1.mono Qo Qo,hr.2⟩
end
end Go.Proofs.YtjinkcmkgnofjaaGreatDoor
