/- Part 17 of what the law FnStay needs: the engine, the functions' propositions, the contracts. -/
import Derived.Test.YtclpmgfpjeaibaaGreatDoorFnStayPp
import Derived.Recover
import Derived.Tactics2
import Derived.Laws.Pointers
namespace Go.Proofs.YtclpmgfpjeaibaaGreatDoor
open Go.RowKit
set_option linter.unusedVariables false
set_option linter.unusedSimpArgs false
set_option maxRecDepth 10000
theorem zakj (g:Int) (w:World):(Instr.typeAssert (.iface 148 (.agg #[.int .i64 g])) 20 148 true).run Tryz.prog w = .ok (.tuple #[.agg #[.int .i64 g],.bool true]) w:=by kernel_rfl
theorem zabh (p:Addr) (x:Bool) (g:Int) (older:List PanicEntry) (w:World) (hc:w.cell? p=some (.bool x)) (hz:w.frozen? p=false) :
  CallsD Tryz.prog zc3 #[.pointer (some p)] (.panicking ({ v:=.iface 148 (.agg #[.int .i64 g]),recovered:=false }::older)) w fun e u' w'=>
   e = .returned (.tuple #[])/\u' = .panicking ({ v:=.iface 148 (.agg #[.int .i64 g]),recovered:=true }::older)/\w'=w.setCell p (.bool true):=by
 have ht:=zakj g
 refine callsD_of_wpS Tryz.func144 rfl fun c₀ cs hu => ?_
 apply wpS_seq
 apply wpS_region
 simp [wpOpsS,go_sem,recoverD,hu,Tryz.ntmps144,Exit.thenS]
 apply wpS_seq
 apply wpS_region
 simp [wpOpsS,go_sem,recoverD,hu,Tryz.ntmps144,Exit.thenS]
 refine wpS_cond (t:=true) (by simp [Act.eval,Array.replicate]) ?_
 simp only [if_true]
 apply wpS_seq
 apply wpS_region
 simp [wpOpsS,go_sem,hc,hz,ht,Exit.thenS,Array.replicate]
 apply wpS_seq
 apply wpS_region
 simp [wpOpsS,go_sem,hc,hz,ht,Exit.thenS,Array.replicate]
 refine wpS_cond (t:=false) (by simp [Act.eval,Array.replicate]) ?_
 simp only [Bool.false_eq_true,if_false]
 refine wpS_of_wp (wp_skip ?_)
 cases c₀
 simp_all [bodyPostS,results,Tryz.results144]
theorem zaey (p:Addr) (w:World) :
  CallsD Tryz.prog zc3 #[.pointer (some p)] .returning w fun e u' w'=>e = .returned (.tuple #[])/\u' = .returning/\w'=w:=by
 refine callsD_of_wpS Tryz.func144 rfl fun c₀ cs hu => ?_
 apply wpS_seq
 apply wpS_region
 simp [wpOpsS,go_sem,recoverD,hu,Tryz.ntmps144,Exit.thenS]
 apply wpS_seq
 apply wpS_region
 simp [wpOpsS,go_sem,recoverD,hu,Tryz.ntmps144,Exit.thenS]
 refine wpS_cond (t:=false) (by simp [Act.eval,Array.replicate]) ?_
 simp only [Bool.false_eq_true,if_false]
 refine wpS_of_wp (wp_skip ?_)
 cases c₀
 simp_all [bodyPostS,results,Tryz.results144]
theorem z5d {P:Program} {f:FuncId} {fn:Func} {body:Code} {n:Nat} {args:List Value} {w:World} {R:Ending->World->Prop} (hf:P.funcs[f]? = some fn) (hb:fn.body=some body) (hn:fn.ntmps=n) (hl:args.length<=n)
  (h:∀a:Act,a.tmps.size=n->(∀(i:Nat) v,args[i]? = some v->a.tmps.getD i undef=v)->a.defers=[]->body.wpIn (fnc none) 0 P (bodyPostD P fn R) a w):Calls P f args.toArray w R:=by
 refine calls_of_wp_defers hf hb (wpIn_wide (n:=0).1 (h _ ?_ ?_ rfl))
 ·simp [hn]; omega
 ·intro i v hv
  rw [Array.getD_eq_getD_getElem?,Array.getElem?_append_left (by simpa using (List.getElem?_eq_some_iff.1 hv).1)]
  simp [hv]
noncomputable def z9w:Code:=zmc Tryz.f116
noncomputable def zad5:Code:=cL (cR z9w)
noncomputable def zad3:Code:=cR (cR (cB (cL (cR (cO (cB (cR (cL (cR (cR z9w))))))))))
theorem z8g:z9w = .seq zd1 (.seq zad5 (.seq (.seq zd2 (.block 0 (.loop (.seq zd9 (.seq (.block 1 (seqs zct zad3)) zcu))))) zcg)):=by kernel_rfl
def zabo (b:Nat):Deferred:={ target:=.fn (.func zc3) #[.pointer (some ⟨b,0,none⟩)],args := #[] }
theorem zad6 {Q:Exit->Act->World->Prop} {a:Act} {w:World} {b:Nat} (hn:a.tmps.size=52) (h4:a.tmps.getD 4 undef = .pointer (some ⟨b,0,none⟩))
  (h:∀a':Act,a'.tmps.size=52->a'.defers=zabo b::a.defers->(∀i,i≠7->a'.tmps.getD i undef=a.tmps.getD i undef)->Q .normal a' w):zad5.wpIn (fnc none) 0 Tryz.prog Q a w:=by
 have hmf:∀(fn:Fn) (first cap:Array Value) (w:World),(Instr.makeFunc fn first cap).run Tryz.prog w = .ok (.func fn first cap) w:=fun _ _ _ _=>rfl
 show Code.wpIn Fence.wide 0 Tryz.prog zad5 Q a w
 refine wpIn_wide.2 (wp_region (id:=1) ?_)
 simp [wpOps,go_sem,hmf,hn]
 have h4':a.tmps[4] = .pointer (some ⟨b,0,none⟩):=by simpa [Array.getD,hn] using h4
 refine .inl (.inl ?_)
 rw [h4']
 exact h _ (by simp [hn]) rfl fun i hi=>zh8 (Ne.symm hi)
theorem zad4 {Q:Exit->Act->World->Prop} {a:Act} {w:World} {d:Bool} {g:Int} (hn:a.tmps.size=52) (h48:a.tmps.getD 48 undef = .bool d) (h5:a.tmps.getD 5 undef = .int .i64 g)
  (h0:d=false->Q .normal a w) (h1:d=true->∀a':Act,a'.tmps.size=52->a'.defers=a.defers->(∀i,i<49->a'.tmps.getD i undef=a.tmps.getD i undef)->Q (.panic [{ v:=.iface 148 (.agg #[.int .i64 g]),recovered:=false }]) a' w):zad3.wpIn (fnc none) 0 Tryz.prog Q a w:=by
 show Code.wpIn Fence.wide 0 Tryz.prog zad3 Q a w
 have h48':a.tmps[48] = .bool d:=by simpa [Array.getD,hn] using h48
 have h5':a.tmps[5] = .int .i64 g:=by simpa [Array.getD,hn] using h5
 refine wpIn_wide.2 (wp_cond (t:=d) (by simp [Act.eval,hn,h48']) ?_)
 cases d with
 | false=>exact wp_skip (h0 rfl)
 | true=>
  simp only [if_true]
  refine wp_region (id:=7) ?_
  have hp:(Instr.panic (.iface 148 (.agg #[.int .i64 g]))).run Tryz.prog w = .halt (.panic (.iface 148 (.agg #[.int .i64 g]))) w:=rfl
  simp [wpOps,go_sem,hn,h5',hp]
  repeat refine Or.inl ?_
  exact h1 rfl _ (by simp [hn]) rfl fun i hi=>by
   show (((a.tmps.setIfInBounds 49 _).setIfInBounds 50 _).setIfInBounds 51 _).getD i undef=_
   rw [zh8 (by omega),zh8 (by omega),zh8 (by omega)]
theorem zagj:zkm tbl zdg=some ⟨false,[.bool],.bool⟩:=by kernel_rfl
theorem zrj {fn:Func} {p:Tmp} (h:fn.results = #[.cell p zdg]) {tmps:Array Value} {b:Nat} {n:Bool} {w:World} {t:TypeId} (hp:tmps.getD p undef = .pointer (some ⟨b,0,none⟩)) (hb:w.heap[b]? = some (.cells ([.bool n]:List Value).toArray t (0,0))) :
  (results fn tmps).run Tryz.prog w = .ok (.bool n) w:=by
 have hl:=zhy tok zagj (vs:=[.bool n]) (v:=.bool n) rfl rfl (a:=⟨b,0,none⟩) (w:=w) (fun j x hx=>by rw [Addr.add_lit,zkg hb]; simpa using hx)
 have hp':tmps[p]?.getD undef = .pointer (some ⟨b,0,none⟩):=by simpa using hp
 simp [results,h,hp',asAddr,hl]
theorem zagl {K c:Int} {V:Wld} (sw:SW K V):tkL c [0] V=(V,true):=by
 obtain ⟨_,_,hg⟩:=sw.a.u sw.a.root
 have:tkG V c 0=(V,true):=by unfold tkG; rw [if_pos (hg.root rfl).2.2]
 rw [zrp,this,if_pos rfl]; rfl
section
variable {base pb:Nat} {W:Wld} {m:MW} {w:World}
theorem Mp.far {w0 w':World} {m0:MW} {b1:Nat} (h:Mp base pb [] w0 m0 w W m) (hx:ExtX [b1] w w') (hb:w0.heap.size<=b1) (hn:b1∉zbc 8 m) (hp:b1≠pb):Mp base pb [] w0 m0 w' W m:=
 ⟨⟨h.own.ext hx fun x hx hm => hn (by have:x=b1:=by simpa using hm
                                      exact this ▸ hx), h.v.ext.fresh hx fun x hm => .inl (by have:x=b1:=by simpa using hm
                                                                                              omega),h.v.sub,h.v.hd,by simp,by simp⟩,za0 h.pt hx (by simpa using Ne.symm hp),h.pn,by simp⟩
structure TkS (K:Int) (base pb b b1:Nat) (c:Int) (w0:World) (m:MW) (W:Wld) (t:Int) (a:Act) (w2:World) (g:Int) (V:Wld):Prop where
 sz:a.tmps.size=52
 df:a.defers=[zabo b1]
 a2:a.tmps.getD 2 undef = .pointer (some ⟨b,0,none⟩)
 a4:a.tmps.getD 4 undef = .pointer (some ⟨b1,0,none⟩)
 a5:a.tmps.getD 5 undef = .int .i64 g
 bx:w2.heap[b]? = some (.cells ([.pointer (pA pb),.int .i64 c]:List Value).toArray zio (0,0))
 dr:w2.heap[b1]? = some (.cells ([.bool false]:List Value).toArray zdg (0,0))
 nb:b∉zbc 8 m
 nd:b1∉zbc 8 m
 nw:w0.heap.size<=b1
 mp:Mp base pb [] w0 m w2 V m
 sw:SW K V
 o:zkp W V
 u:zae V.groups g=true
 e:tkL c (pthR W t) W=tkL c (zbk V.groups g++[0]) V
 wet:∀x∈zbk V.groups g,(gi V.groups x).band.quota≠0->gi (gi V.groups x).band.dry c=false
theorem zme {K c t:Int} (h:PW base pb w W m) (sw:SW K W) (c0:0<=c) (c1:c<(W.cpus.length:Int)) (t0:0<=t) (t1:t<12) (hu:zae W.groups (tkk W t).group=true) (hd:∀g∈pthR W t,(gi W.groups g).band.quota≠0->gi (gi W.groups g).band.dry c=false) :
  Calls Tryz.prog zg2 #[.agg #[.pointer (pA pb),.int .i64 c],.int .i64 t] w fun e w'=>e = .returned (.bool (!(tkL c (pthR W t) W).2))/\Mp base pb [] w m w' (tkL c (pthR W t) W).1 m:=by
 have hM:=Mp.start h
 have htl:=sw.a.t
 refine z5d (args:=[.agg #[.pointer (pA pb),.int .i64 c],.int .i64 t]) (n:=52) Tryz.func116 (body:=z9w) rfl (by kernel_rfl) (by simp) fun a hn ha hd0 => ?_
 rw [z8g]
 have a0:=ha 0 _ rfl
 have a1:=ha 1 _ rfl
 refine wpIn_seq (zm4 none (pA pb) c (R:=fun e vs w1=>e = .normal/\∃b b1:Nat,vs=[.pointer (some ⟨b,0,none⟩),.pointer (some ⟨b1,0,none⟩)]/\w.heap.size<=b/\w.heap.size<=b1/\w1.heap[b]? = some (.cells ([.pointer (pA pb),.int .i64 c]:List Value).toArray zio (0,0))/\w1.heap[b1]? = some (.cells ([.bool false]:List Value).toArray zdg (0,0))/\ExtX [] w w1) hn (fun p hp => ?_) ?_ fun e vs a1' w1 hR fo => ?_)
 ·simp only [List.mem_cons,List.not_mem_nil,or_false] at hp
  subst hp
  exact ⟨Nat.le_of_ble_eq_true rfl,a0⟩
 ·intro b wb hx hb0 hcell _ b1 wb1 hx1 hb1 hcell1 _ wr hx2
  exact ⟨rfl,b,b1,rfl,hb0,Nat.le_trans hx.size hb1,za0 (za0 hcell hx1 (by simp)) hx2 (by simp),za0 hcell1 hx2 (by simp),(hx.trans hx1).trans hx2⟩
 obtain ⟨rfl,b,b1,rfl,hb,hb1,hcb,hcd,hX1⟩:=hR
 have oo:=fo.out
 simp only [List.map_cons,List.map_nil,List.cons.injEq,and_true] at oo
 have o1:a1'.tmps.getD 1 undef = .int .i64 t:=(fo.kept 1 (by decide +kernel)).trans a1
 refine wpIn_seq (zad6 (b:=b1) (by rw [fo.size,hn]) oo.2 fun a2 hn2 hdf2 hk2 => ?_)
 have hdf:a2.defers=[zabo b1]:=by rw [hdf2,fo.defers,hd0]
 have q1:a2.tmps.getD 1 undef = .int .i64 t:=(hk2 1 (by decide)).trans o1
 have q2:a2.tmps.getD 2 undef = .pointer (some ⟨b,0,none⟩):=(hk2 2 (by decide)).trans oo.1
 have q4:a2.tmps.getD 4 undef = .pointer (some ⟨b1,0,none⟩):=(hk2 4 (by decide)).trans oo.2
 have hM1:=hM.nil hX1
 have hbn:b∉zbc 8 m:=fun hm=>by have:=(h.own.lt b hm).2; omega
 have hb1n:b1∉zbc 8 m:=fun hm=>by have:=(h.own.lt b1 hm).2; omega
 have hbox:∀{w2:World},w2.heap[b]? = some (.cells ([.pointer (pA pb),.int .i64 c]:List Value).toArray zio (0,0))->zaa [] w2 (some ⟨b,0,none⟩) 0 [.pointer (pA pb)]/\zaa [] w2 (some ⟨b,0,none⟩) 1 [.int .i64 c]:=fun hc=>
  ⟨zhp hc (by simp) (k0:=0) fun j v hj=>by rcases j with _ | j <;> simp at hj ⊢ <;> exact hj,zhp hc (by simp) (k0:=0) fun j v hj=>by rcases j with _ | j <;> simp at hj ⊢ <;> exact hj⟩
 refine wpIn_seq (wpIn_seq (zm6 none t (some ⟨b,0,none⟩) (R:=fun e vs w2=>e = .normal/\vs=[.int .i64 (tkk W t).group]/\ExtX [] w1 w2) hn2 (fun p hp => ?_) ?_ fun e vs a3 w3 hR fo3 => ?_))
 ·simp only [List.mem_cons,List.not_mem_nil,or_false] at hp
  rcases hp with rfl | rfl
  ·exact ⟨Nat.le_of_ble_eq_true rfl,q1⟩
  ·exact ⟨Nat.le_of_ble_eq_true rfl,q2⟩
 ·have hp:=hM1.wpt
  exact ⟨rfl,_,(hbox hcb).1,hp.some,_,_,_,hp.tasks,hp.rd.t.ix zce t0 (by omega),_,hp.rd.t.f t0 (by omega) (j:=1) rfl,fun wr hx=>⟨rfl,rfl,hx⟩⟩
 obtain ⟨rfl,rfl,hX3⟩:=hR
 have o5:=fo3.out
 simp only [List.map_cons,List.map_nil,List.cons.injEq,and_true] at o5
 have hpath:zbk W.groups (tkk W t).group++[0]=pthR W t:=rfl
 refine wpIn_block (zn4 (I:=fun k a2 w2=>∃g V,k=(dep 3 W.groups g).toNat/\TkS K base pb b b1 c w m W t a2 w2 g V)
  ⟨(tkk W t).group,W,rfl,⟨by rw [fo3.size,hn2],by rw [fo3.defers,hdf],(fo3.kept 2 (by decide +kernel)).trans q2,(fo3.kept 4 (by decide +kernel)).trans q4,o5,za0 hcb hX3 (by simp),za0 hcd hX3 (by simp),hbn,hb1n,hb1,hM1.nil hX3,sw,zkp.refl _,hu,rfl,fun x hx=>hd x (List.mem_append_left _ hx)⟩⟩ ?_)
 rintro k a4 w4 ⟨g,V,rfl,hS⟩
 refine wpIn_seq (zoo none g (R:=fun e vs w5=>(g≠0/\e = .normal\/g=0/\e = .exit 0)/\ExtX [] w4 w5) hS.sz (fun p hp => ?_) ⟨fun g1 wr hx=>⟨.inl ⟨by simpa using g1,rfl⟩,hx⟩,fun g1 wr hx=>⟨.inr ⟨by simpa using g1,rfl⟩,hx⟩⟩ fun e vs a5 w5 hR fo5 => ?_)
 ·simp only [List.mem_cons,List.not_mem_nil,or_false] at hp
  subst hp
  exact ⟨Nat.le_of_ble_eq_true rfl,hS.a5⟩
 obtain ⟨hE,hX5⟩:=hR
 have hS5:TkS K base pb b b1 c w m W t a5 w5 g V:=⟨by rw [fo5.size,hS.sz],by rw [fo5.defers,hS.df],(fo5.kept 2 (by decide +kernel)).trans hS.a2,(fo5.kept 4 (by decide +kernel)).trans hS.a4,(fo5.kept 5 (by decide +kernel)).trans hS.a5,za0 hS.bx hX5 (by simp),za0 hS.dr hX5 (by simp),hbn,hb1n,hb1,hS.mp.nil hX5,hS.sw,hS.o,hS.u,hS.e,hS.wet⟩
 clear hS fo5
 rcases hE with ⟨hz,rfl⟩ | ⟨hz,rfl⟩
 ·
  obtain ⟨u0,u1,hgg⟩:=hS5.sw.a.u hS5.u
  have hgl:=hS5.sw.a.gl
  have hlt2:g<(V.groups.length:Int):=by omega
  have hcV:c<(V.cpus.length:Int):=by rw [hS5.o.c]; exact c1
  obtain ⟨hup,_,_,d,hd1,hd2,_⟩:=zd4 hS5.sw.a.tree hS5.u hz
  have hps:=zcf hS5.sw.a.tree hS5.u hz
  have hwet:=hS5.wet
  have hE:=hS5.e
  rw [hps] at hwet hE
  rw [List.cons_append,zrp] at hE
  obtain ⟨tk,tk2,_⟩:=zad7 hS5.sw c0 hcV hS5.u (hwet g List.mem_cons_self)
  have hp:=hS5.mp.wpt
  refine wpIn_seq (wpIn_block (zm3 none (some ⟨b,0,none⟩) g (R:=fun e vs w6=>e = .normal/\vs=[.bool (!(tkG V c g).2)]/\Mp base pb [] w m w6 (tkG V c g).1 m/\w6.heap[b]? = some (.cells ([.pointer (pA pb),.int .i64 c]:List Value).toArray zio (0,0))/\w6.heap[b1]? = some (.cells ([.bool false]:List Value).toArray zdg (0,0))) hS5.sz (fun p hp => ?_) ?_ ?_ (fun e vs a6 w6 hne hR _=>absurd hR.1 hne)))
  ·simp only [List.mem_cons,List.not_mem_nil,or_false] at hp
   rcases hp with rfl | rfl
   ·exact ⟨Nat.le_of_ble_eq_true rfl,hS5.a2⟩
   ·exact ⟨Nat.le_of_ble_eq_true rfl,hS5.a5⟩
  ·refine ⟨rfl,_,(hbox hS5.bx).1,hp.some,_,_,_,hp.groups,hp.rd.g.ix u0 hlt2,_,hp.rd.g.quo u0 hlt2,fun _=>rfl,c,fun _=>(hbox hS5.bx).2,fun gq wr hx _ => ?_,fun gq wr hx => ?_⟩
   ·have gq:(gi V.groups g).band.quota>0:=of_decide_eq_true gq
    have hq0:(gi V.groups g).band.quota≠0:=by omega
    obtain ⟨hb3,hbl,_⟩:=hgg.band hq0
    have hM5:=hS5.mp.nil hx
    have hown:MWd 8 base wr (setBd V g (gi V.groups g).band) m:=by rw [zoe u0 hlt2]; exact hM5.own
    have hcl:c<((gi V.groups g).band.locals.length:Int):=by omega
    refine Calls.mono (zw8 (op:=⟨1,c,0⟩) hown u0 u1 hb3) ?_
    rintro e1 wv5 ⟨he1,hB,hX⟩
    rw [zags c0 hcl] at he1 hB
    have hT:tkG V c g=(setBd V g (zdc (gi V.groups g).band c).1,decide ((zdc (gi V.groups g).band c).2≠2)):=by unfold tkG; rw [if_neg hq0]
    refine ⟨_,he1,ze8,fun wr1 hx1=>⟨rfl,?_,?_,?_,?_⟩⟩
    ·rw [hT,decide_eq_true gq]
     by_cases h2:(zdc (gi V.groups g).band c).2=2 <;> simp [h2]
    ·rw [hT]
     exact (hM5.deed hB hX (zir (zq9 u0 hlt2).fr)).nil hx1
    ·exact za0 (za0 (za0 hS5.bx hx (by simp)) hX hbn) hx1 (by simp)
    ·exact za0 (za0 (za0 hS5.dr hx (by simp)) hX hb1n) hx1 (by simp)
   ·have gq:¬(gi V.groups g).band.quota>0:=fun h=>gq (decide_eq_true h)
    have hq0:(gi V.groups g).band.quota=0:=Decidable.byContradiction fun hn=>by have:=(hgg.band hn).1.q1; omega
    have hT:tkG V c g=(V,true):=by unfold tkG; rw [if_pos hq0]
    refine ⟨rfl,?_,?_,za0 hS5.bx hx (by simp),za0 hS5.dr hx (by simp)⟩
    ·rw [hT]; rfl
    ·rw [hT]; exact hS5.mp.nil hx
  rintro vs a6 w6 ⟨_,rfl,hM6,hb6,hd6⟩ fo6
  have o48:=fo6.out
  simp only [List.map_cons,List.map_nil,List.cons.injEq,and_true] at o48
  have s6:a6.tmps.size=52:=by rw [fo6.size,hS5.sz]
  have k2:=(fo6.kept 2 (by decide +kernel)).trans hS5.a2
  have k4:=(fo6.kept 4 (by decide +kernel)).trans hS5.a4
  have k5:=(fo6.kept 5 (by decide +kernel)).trans hS5.a5
  have d6:a6.defers=[zabo b1]:=by rw [fo6.defers,hS5.df]
  refine zad4 s6 o48 k5 (fun hf => ?_) (fun hf a7 s7 hd7 hk7 => ?_)
  ·have ht:(tkG V c g).2=true:=by simpa using hf
   rw [if_pos ht] at hE
   show zcu.wpIn (fnc none) 0 Tryz.prog _ a6 w6
   have hp6:=hM6.wpt
   have hgl6:(tkG V c g).1.groups.length=8:=tk.sw.a.gl
   refine zm5 none (some ⟨b,0,none⟩) g (R:=fun e vs w7=>e = .normal/\vs=[.int .i64 (gi (tkG V c g).1.groups g).parent]/\ExtX [] w6 w7) s6 (fun p hp => ?_) ⟨rfl,_,(hbox hb6).1,hp6.some,_,_,_,hp6.groups,hp6.rd.g.ix u0 (by omega),_,hp6.rd.g.parent u0 (by omega),fun wr hx=>⟨rfl,rfl,hx⟩⟩ fun e vs a7 w7 hR fo7 => ?_
   ·simp only [List.mem_cons,List.not_mem_nil,or_false] at hp
    rcases hp with rfl | rfl
    ·exact ⟨Nat.le_of_ble_eq_true rfl,k2⟩
    ·exact ⟨Nat.le_of_ble_eq_true rfl,k5⟩
   obtain ⟨rfl,rfl,hX7⟩:=hR
   have o5:=fo7.out
   simp only [List.map_cons,List.map_nil,List.cons.injEq,and_true] at o5
   rw [tk.o.g.p] at o5
   have hpq:zbk (tkG V c g).1.groups (gi V.groups g).parent=zbk V.groups (gi V.groups g).parent:=zi3 tk.o.g _
   refine ⟨_,?_,(gi V.groups g).parent,(tkG V c g).1,rfl,⟨by rw [fo7.size,s6],by rw [fo7.defers,d6],(fo7.kept 2 (by decide +kernel)).trans k2,(fo7.kept 4 (by decide +kernel)).trans k4,o5,za0 hb6 hX7 (by simp),za0 hd6 hX7 (by simp),hbn,hb1n,hb1,hM6.nil hX7,tk.sw,hS5.o.trans tk.o,by rw [tk.o.g.usd]; exact hup,by rw [hpq]; exact hE,fun x hx hq => ?_⟩⟩
   ·rw [hS5.o.g.dep] at hd1 hd2
    rw [hd1,hd2]; omega
   ·rw [hpq] at hx
    have x0:=(zac.1 (zen hS5.sw.a.tree _ hup x hx).1).1
    rw [tk.q x x0] at hq
    exact (tk2 ht).2 x x0 (hwet x (List.mem_cons_of_mem _ hx)) hq
  ·have ht:¬(tkG V c g).2=true:=by simpa using hf
   rw [if_neg ht] at hE
   show Leaves _ _ a7.tmps _ a7.defers (.panicking [_]) w6
   rw [hd7,d6]
   refine leaves_cons (f:=zc3) (args:=#[.pointer (some ⟨b1,0,none⟩)]) (by simp) (by simp [go_sem]; rfl) ((zabh ⟨b1,0,none⟩ false g [] _ (by rw [zkg hd6]; rfl) (by simp [World.frozen?,hd6])).mono ?_)
   rintro e u' w'' ⟨rfl,rfl,rfl⟩
   have hb9:(w6.setCell ⟨b1,0,none⟩ (.bool true)).heap[b1]? = some (.cells ([.bool true]:List Value).toArray zdg (0,0)):=by
    have:=znz (k:=0) (n:=0) (vs:=[.bool true]) hd6
    exact this
   refine ⟨.bool true,zrj (by kernel_rfl) ((hk7 4 (by decide)).trans k4) hb9,?_,?_⟩
   ·rw [hE]; rfl
   ·rw [hE]
    exact hM6.far ((ExtX.refl [] w6).of_nil.setCell (p:=⟨b1,0,none⟩) (.inr (by simp)) _) hb1 hb1n (by have:=zjm h.pt; omega)
 ·
  subst hz
  have hE:=hS5.e
  rw [show zbk V.groups 0=[] from zbm _ _,List.nil_append,zagl hS5.sw] at hE
  show zcg.wpIn (fnc none) 0 Tryz.prog _ a5 w5
  refine zmn none (some ⟨b1,0,none⟩) (R:=fun e vs w6=>e = .ret/\ExtX [b1] w5 w6/\w6.heap[b1]? = some (.cells ([.bool false]:List Value).toArray zdg (0,0))) hS5.sz (fun p hp => ?_) ⟨zyy (k0:=0) hS5.dr (by simp) (by simp),fun wr hx=>⟨rfl,?_,?_⟩⟩ fun e vs a6 w6 hR fo6 => ?_
  ·simp only [List.mem_cons,List.not_mem_nil,or_false] at hp
   subst hp
   exact ⟨Nat.le_of_ble_eq_true rfl,hS5.a4⟩
  ·have e1:ExtX [b1] w5 (sto w5 (some ⟨b1,0,none⟩) 0 [.bool false]):=zj8 (bs:=[b1]) (by simp)
   exact e1.trans hx.of_nil
  ·exact za0 (znz (vs:=[.bool false]) (n:=0) hS5.dr) hx (by simp)
  obtain ⟨rfl,hX6,hd6⟩:=hR
  have d6:a6.defers=[zabo b1]:=by rw [fo6.defers,hS5.df]
  show Leaves _ _ a6.tmps _ a6.defers .returning w6
  rw [d6]
  refine leaves_cons (f:=zc3) (args:=#[.pointer (some ⟨b1,0,none⟩)]) (by simp) (by simp [go_sem]; rfl) ((zaey ⟨b1,0,none⟩ _).mono ?_)
  rintro e u' w'' ⟨rfl,rfl,rfl⟩
  refine ⟨.bool false,zrj (by kernel_rfl) ((fo6.kept 4 (by decide +kernel)).trans hS5.a4) hd6,?_,?_⟩
  ·rw [hE]; rfl
  ·rw [hE]
   exact hS5.mp.far hX6 hb1 hb1n (by have:=zjm h.pt; omega)
end
def ifvT (W:Wld) (i:Int):Value:=.iface zd3 (.agg (.int .i64 i::encT (tkk W i)).toArray)
def ifvG (W:Wld) (c:Int) (i:Int):Value:=.iface zeq (.agg (.int .i64 i::encS (shf W i c)).toArray)
def ifv (W:Wld) (c:Int) (i:Nat):Value:=if i<12 then ifvT W (i:Int) else ifvG W c ((i - 12:Nat):Int)
def encM (W:Wld) (c:Int):Option Nat->List Value
 | none=>[.nilIface]
 | some i=>[ifv W c i]
theorem zae7 (W:Wld) (c:Int) (x:Option Nat):(encM W c x).length=1:=by cases x <;> rfl
theorem zajp (W:Wld) (c:Int) (x:Option Nat):∃v r,encM W c x=v::r:=by cases x <;> exact ⟨_,_,rfl⟩
theorem z8u (W:Wld) (c:Int) (x:Option Nat):zbd (encM W c x)=true:=by
 cases x with
 | none=>rfl
 | some i=>
  show zbd [ifv W c i]=true
  by_cases h:i<12
  ·rw [show ifv W c i=ifvT W (i:Int) from if_pos h]; rfl
  ·rw [show ifv W c i=ifvG W c ((i - 12:Nat):Int) from if_neg h]; rfl
theorem zse (W:Wld) (c:Int):Elt Tryz.prog (encM W c) 1 zbe 16 none:=ztb (by kernel_rfl) (zae7 W c)
theorem zyu:Tryz.prog.underlying zbx=some (.slice zbe):=by kernel_rfl
theorem zah9 {W:Wld} {c:Int} {i:Nat} (h:i<12):ifv W c i=ifvT W (i:Int):=if_pos h
theorem zah8 {W:Wld} {c:Int} {i:Nat}:ifv W c (12+i)=ifvG W c (i:Int):=by
 unfold ifv
 rw [if_neg (by omega),show 12+i - 12=i by omega]
theorem zaez {bs:List Nat} {w:World} {o:Option Addr} {n:Nat} {vs:List Value} (h:zaa bs w o n vs):zaa bs w (o.map (·.add n)) 0 vs:=zjn fun j v hj=>by
 obtain ⟨a,ha,hb,hc⟩:=h.get j v hj
 refine ⟨a.add n,by rw [ha]; rfl,by rw [zb2]; exact hb,?_⟩
 rw [zf6,Nat.zero_add]; exact hc
theorem zwy (p:Nat->Bool) (k:Nat) (h:p k=true):(List.range (k+1)).filter p=(List.range k).filter p++[k]:=by
 rw [List.range_succ,List.filter_append]; simp [h]
theorem zls (p:Nat->Bool) (k:Nat) (h:p k=false):(List.range (k+1)).filter p=(List.range k).filter p:=by
 rw [List.range_succ,List.filter_append]; simp [h]
theorem zwx (p:Nat->Bool) (k:Nat):((List.range k).filter p).length<=k:=by
 have:=List.length_filter_le p (List.range k)
 simpa using this
def memL (W:Wld) (g c:Int) (k:Nat):List Nat:=(List.range k).filter (memP W g c)
section
variable {W:Wld} {m:MW} {w:World} {bs:List Nat} {p:Option Addr}
theorem zzy {g c:Int} (h:WPt bs w p W m) (ha:WA W) (c0:0<=c) (c1:c<(W.cpus.length:Int)) (hb0:bs=[]) :
  Calls Tryz.prog zf0 #[.agg #[.pointer p,.int .i64 c],.int .i64 g] w fun e w'=>∃o cap,e = .returned (.slice o (memL W g c 20).length cap)/\Own (encM W c) 1 zbe w.heap.size w' o cap ((memL W g c 20).map some)/\ExtX [] w w':=by
 subst hb0
 refine (zpo p c g (R:=fun v w'=>∃o cap,v = .slice o (memL W g c 20).length cap/\Own (encM W c) 1 zbe w.heap.size w' o cap ((memL W g c 20).map some)/\ExtX [] w w') ?_).mono fun e w' ⟨v,he,o,cap,hv,h1⟩=>⟨o,cap,by rw [he,hv],h1⟩
 have htl:=ha.t
 have hgl:=ha.gl
 intro b hb
 refine ⟨h.some,_,_,_,h.tasks,?_⟩
 refine ⟨fun vs w1=>∃(k:Nat) (o:Option Addr) (c':Nat),vs=[.slice o ((memL W g c k).map some).length c',.int .i64 (k:Int)]/\k<=12/\Sc w [b] w1/\Ob (encM W c) 1 zbe w.heap.size [b] w1 o c' ((memL W g c k).map some),zd5 12 1,
  fun wr hx _=>⟨0,none,0,rfl,by omega,⟨hx,by simpa using hb⟩,⟨.inl ⟨rfl,rfl,rfl⟩,by simp [za9]⟩⟩,?_⟩
 rintro o1 L1 C1 x w1 hs1 ⟨k,o',c',he,hk,s1,hO⟩
 simp only [List.cons.injEq,Value.int.injEq,Value.slice.injEq,true_and,and_true] at he
 obtain ⟨⟨rfl,rfl,rfl⟩,rfl⟩:=he
 have hp1:=h.sc s1
 refine ⟨fun hlt => ?_,fun hge => ?_⟩
 ·have hlt:=of_decide_eq_true hlt
  have hk12:k<12:=by omega
  refine ⟨h.rd.t.ix zce (by omega) hlt,_,_,_,_,_,_,_,_,_,hp1.rd.t k (by omega) hlt,fun b1 hb1=>⟨_,zlz hp1 (by omega) hlt,fun q b2 hb2 wr1 hx1 hs2 hcell => ?_,fun q=>⟨⟨by omega,by omega⟩,fun wr3 hx3 _=>⟨⟨k+1,o1,C1,?_,by omega,s1.step hx3,?_⟩,zb0 (k:=k) rfl rfl hk12⟩⟩⟩⟩
  ·have q':memP W g c k=true:=by rw [zim hk12]; rwa [Int.toNat_natCast] at q
   have s2:=s1.put2 hx1 hb1 hb2
   have hO2:=hO.put2 hx1 hb1 hb2
   obtain ⟨o2,c2,w2,hrun,hk2,hO3,hx2⟩:=hO2.app1 (zse W c) zyu (x:=some k) hs2 s2.ext.size (by
    show _=some (Obj.cells [ifv W c k].toArray _ _)
    rw [zah9 hk12]; exact hcell) (z8u _ _ _) (by have:=zwx (memP W g c) k; simp [memL]; omega) (by decide) zbx #[false,false]
   have s3:=s2.call hx2 fun x hm=>(hO2.own.lt x hm).1
   have hL:(memL W g c k).map some++[some k]=(memL W g c (k+1)).map some:=by
    unfold memL; rw [zwy _ _ q',List.map_append]; rfl
   rw [hL] at hrun hO3
   exact ⟨_,_,_,w2,hrun,hk2,⟨by omega,by omega⟩,fun wr2 hx3 _=>⟨⟨k+1,o2,c2,by simp,by omega,(s3.step hx3).sub (by simp),(hO3.step hx3).sub (by simp)⟩,zb0 (k:=k) rfl rfl hk12⟩⟩
  ·have q':memP W g c k=false:=by rw [zim hk12]; rwa [Int.toNat_natCast] at q
   have hL:memL W g c (k+1)=memL W g c k:=zls _ _ q'
   rw [hL]; simp
  ·have q':memP W g c k=false:=by rw [zim hk12]; rwa [Int.toNat_natCast] at q
   have hL:memL W g c (k+1)=memL W g c k:=zls _ _ q'
   rw [hL]; exact hO.step hx3
 ·have hge:=of_decide_eq_false hge
  have:k=12:=by omega
  subst this
  refine ⟨h.some,_,_,_,hp1.groups,?_⟩
  refine ⟨fun vs w1=>∃(k:Nat) (o:Option Addr) (c':Nat),vs=[.slice o ((memL W g c (12+k)).map some).length c',.int .i64 (k:Int)]/\k<=8/\Sc w [b] w1/\Ob (encM W c) 1 zbe w.heap.size [b] w1 o c' ((memL W g c (12+k)).map some),zd5 8 1,
   fun wr hx _=>⟨0,o1,C1,rfl,by omega,s1.step hx,hO.step hx⟩,?_⟩
  rintro o3 L3 C3 x w3 hs3 ⟨k,o',c',he,hk,s3,hO3⟩
  simp only [List.cons.injEq,Value.int.injEq,Value.slice.injEq,true_and,and_true] at he
  obtain ⟨⟨rfl,rfl,rfl⟩,rfl⟩:=he
  have hp3:=h.sc s3
  refine ⟨fun hlt => ?_,fun hge2 wr hx => ?_⟩
  ·have hlt:=of_decide_eq_true hlt
   have hk8:k<8:=by omega
   have hk0:(0:Int)<=(k:Int):=by omega
   refine ⟨_,znb hp3 ha (by omega) hlt c0 c1,fun q => ?_,fun q=>⟨⟨by omega,by omega⟩,fun wr7 hx7 _=>⟨⟨k+1,o3,C3,?_,by omega,s3.step hx7,?_⟩,zb0 (k:=k) rfl rfl hk8⟩⟩⟩
   ·rw [Int.toNat_natCast] at q
    have q':memP W g c (12+k)=true:=by rw [zil]; exact q
    have hus:(gi W.groups (k:Int)).used=true:=by
     unfold actG at q
     simp only [Bool.and_eq_true] at q
     exact q.1.2.1
    have hkc:c<((gi W.groups (k:Int)).shelves.length:Int):=by rw [ha.sl (z4y hlt hus)]; exact c1
    refine ⟨_,zbh hp3 hk0 hlt c0 hkc,(hp3.sh hk0 hlt c0 hkc).1,_,_,_,_,_,zaez (hp3.rd.g.shelves _ hk0 hlt c c0 hkc),fun b3 hb3 wr5 hx5 hs5 hcell => ?_⟩
    have s5:=s3.put hx5 hb3
    have hO5:=hO3.put hx5 hb3
    obtain ⟨o2,c2,w2,hrun,hk2,hO6,hx2⟩:=hO5.app1 (zse W c) zyu (x:=some (12+k)) hs5 s5.ext.size (by
     show _=some (Obj.cells [ifv W c (12+k)].toArray _ _)
     rw [zah8]; exact hcell) (z8u _ _ _) (by have:=zwx (memP W g c) (12+k); simp [memL]; omega) (by decide) zbx #[false,false]
    have s6:=s5.call hx2 fun x hm=>(hO5.own.lt x hm).1
    have hL:(memL W g c (12+k)).map some++[some (12+k)]=(memL W g c (12+(k+1))).map some:=by
     unfold memL; rw [show 12+(k+1)=12+k+1 from rfl,zwy _ _ q',List.map_append]; rfl
    rw [hL] at hrun hO6
    exact ⟨_,_,_,w2,hrun,hk2,⟨by omega,by omega⟩,fun wr2 hx3 _=>⟨⟨k+1,o2,c2,by simp,by omega,(s6.step hx3).sub (by simp),(hO6.step hx3).sub (by simp)⟩,zb0 (k:=k) rfl rfl hk8⟩⟩
   ·rw [Int.toNat_natCast] at q
    have q':memP W g c (12+k)=false:=by rw [zil]; exact q
    have hL:memL W g c (12+(k+1))=memL W g c (12+k):=zls _ _ q'
    rw [hL]; simp
   ·rw [Int.toNat_natCast] at q
    have q':memP W g c (12+k)=false:=by rw [zil]; exact q
    have hL:memL W g c (12+(k+1))=memL W g c (12+k):=zls _ _ q'
    rw [hL]; exact hO3.step hx7
  ·have hge2:=of_decide_eq_false hge2
   have:k=8:=by omega
   subst this
   exact ⟨o3,C3,by simp,(hO3.step hx).own,(s3.step hx).ext⟩
theorem zafk {x:Int} {t:Tsk}:zad bs Tryz.prog zc6 #[.agg (.int .i64 x::encT t).toArray] w (.int .i64 t.v):=zmr x t.state t.group t.cpu t.nice t.mask t.v t.sum t.used t.load fun wr hx=>fun _ _=>rfl
theorem zafj {x:Int} {s:Shf}:zad bs Tryz.prog zcw #[.agg (.int .i64 x::encS s).toArray] w (.int .i64 s.v):=zl1 x s.floor s.on s.v s.w s.sum fun wr hx=>fun _ _=>rfl
theorem zahn (W : Wld) (i : Int) (w : World) : (z7i "loop.example/stint/impl.time" (ifvT W i) []).run Tryz.prog w = .ok (.enter zc6 #[.agg (.int .i64 i :: encT (tkk W i)).toArray]) w := by kernel_rfl
theorem zae3 (W : Wld) (c i : Int) (w : World) : (z7i "loop.example/stint/impl.time" (ifvG W c i) []).run Tryz.prog w = .ok (.enter zcw #[.agg (.int .i64 i :: encS (shf W i c)).toArray]) w := by kernel_rfl
theorem zag5 (c : Int) (i : Nat) : ∃ (F : FuncId) (aa : Array Value), (∀ w : World, (z7i "loop.example/stint/impl.time" (ifv W c i) []).run Tryz.prog w = .ok (.enter F aa) w) ∧ ∀ (bs : List Nat) (w : World), zad bs Tryz.prog F aa w (.int .i64 (memV W c i)) := by
 by_cases h:i<12
 ·rw [zah9 h,ztj h]
  refine ⟨zc6,#[.agg (.int .i64 (i:Int)::encT (tkk W (i:Int))).toArray],?_,?_⟩
  ·intro w; exact zahn W (i:Int) w
  ·intro bs w; exact zafk (x:=(i:Int)) (t:=tkk W (i:Int))
 ·have e:i=12+(i - 12):=by omega
  rw [e,zah8,zti]
  refine ⟨zcw,#[.agg (.int .i64 ((i - 12:Nat):Int)::encS (shf W ((i - 12:Nat):Int) c)).toArray],?_,?_⟩
  ·intro w; exact zae3 W c ((i - 12:Nat):Int) w
  ·intro bs w; exact zafj (x:=((i - 12:Nat):Int)) (s:=shf W ((i - 12:Nat):Int) c)
theorem zw6 {x:Int}:zad bs Tryz.prog zf8 #[.int .i64 x] w (.bool false):=zxu x fun wr hx=>by
 show Value.bool (x != x)=_
 simp
def cmpD (x y:Int):Int:=if x<y then -1 else if x>y then 1 else 0
theorem z3d {x y:Int}:zad bs Tryz.prog zgv #[.int .i64 x,.int .i64 y] w (.int .i64 (cmpD x y)):=zsi x y fun wr hx=>by
 refine ⟨_,zw6,_,zw6,fun g=>(by cases g),fun _=>⟨fun g=>(by cases g),fun _=>⟨fun g => ?_,fun g=>⟨fun g2 => ?_,fun g2 => ?_⟩⟩⟩⟩
 ·unfold cmpD; rw [if_pos (of_decide_eq_true g)]
 ·unfold cmpD; rw [if_neg (of_decide_eq_false g),if_pos (of_decide_eq_true g2)]
 ·unfold cmpD; rw [if_neg (of_decide_eq_false g),if_neg (of_decide_eq_false g2)]
theorem z8r {x y:Int}:cmpD x y<0↔x<y:=by
 unfold cmpD
 split
 ·rename_i h; exact ⟨fun _=>h,fun _=>by decide⟩
 ·rename_i h
  split <;> exact ⟨fun hc=>by omega,fun hc=>absurd hc h⟩
theorem zafi {c:Int} {i j:Nat}:zad bs Tryz.prog zci #[ifv W c i,ifv W c j] w (.int .i64 (cmpD (memV W c i) (memV W c j))):=by
 refine zri fun wr0 hx0=>zql (ifv W c i) (ifv W c j) (R:=fun v w'=>v = .int .i64 (cmpD (memV W c i) (memV W c j))/\ExtX [] wr0 w') ?_
 intro wr hx hs
 obtain ⟨F,aa,h1,h2⟩:=zag5 (W:=W) c i
 obtain ⟨F',aa',h1',h2'⟩:=zag5 (W:=W) c j
 exact ⟨F,aa,h1 wr,(h2 [] wr wr (ExtX.refl _ _)).mono fun e w1 ⟨he,hx1⟩=>⟨_,he,ze8,fun wr1 hy1 _=>⟨F',aa',h1' wr1,(h2' [] wr1 wr1 (ExtX.refl _ _)).mono fun e w2 ⟨he,hx2⟩=>⟨_,he,ze8,_,z3d,fun wr2 hy2=>⟨rfl,((((hx.trans hx1).trans hy1).trans hx2)).trans hy2⟩⟩⟩⟩⟩
theorem zacf {c:Int} {L:List Nat} {o:Option Addr} {cap:Nat} (h:Rd (encM W c) 1 [] w o (L.map some)) (hl:1<=L.length) (hl2:L.length<=100) :
  Calls Tryz.prog zbj #[.slice o L.length cap,.func (.func zci) #[] #[]] w fun e w'=>e = .returned (ifv W c (minL (memV W c) L).toNat)/\ExtX [] w w':=by
 refine (zfb o L.length cap (.func zci) #[] #[] (R:=fun v w'=>v=ifv W c (minL (memV W c) L).toNat/\ExtX [] w w') ?_).mono fun e w' ⟨v,he,hv,h1⟩=>⟨by rw [he,hv],h1⟩
 have hlm:((L.map some).length:Int)=(L.length:Int):=by simp
 have cell:∀{w1:World} {k:Nat},ExtX [] w w1->k<L.length->zaa [] w1 o (Int.toNat (k:Int)*1) [ifv W c (gi L (k:Int))]:=fun {w1 k} hx hk=>by
  have:=(h.ext hx) (k:Int) (by omega) (by omega)
  rwa [zajv some L (by omega) (by omega)] at this
 have ix:∀{k:Nat},k<L.length->Ix o L.length (k:Int):=fun {k} hk=>by
  have:=h.ix (zajp W c) (i:=(k:Int)) (by omega) (by omega)
  rwa [List.length_map] at this
 have take:∀{k:Nat},k<L.length->L.take (k+1)=L.take k++[gi L (k:Int)]:=fun {k} hk=>by
  rw [List.take_succ_eq_append_getElem hk,zkd hk]
 refine ⟨fun g=>by have:=of_decide_eq_true g; omega,fun _=>⟨ix (k:=0) (by omega),_,cell (k:=0) (ExtX.refl _ _) (by omega),?_⟩⟩
 refine ⟨fun vs w1=>∃k:Nat,vs=[ifv W c (minL (memV W c) (L.take k)).toNat,.int .i64 (k:Int)]/\1<=k/\k<=L.length/\ExtX [] w w1,zd5 L.length 1,fun wr hx _=>⟨1,?_,by omega,by omega,hx⟩,?_⟩
 ·rw [take (k:=0) (by omega),List.take_zero,zuu]
  rw [if_pos (by rfl)]
  simp
 rintro mv x w1 hs1 ⟨k,he,hk1,hk,hX⟩
 simp only [List.cons.injEq,Value.int.injEq,and_true] at he
 obtain ⟨rfl,_,rfl⟩:=he
 refine ⟨fun hlt => ?_,fun hge wr hx=>⟨?_,hX.trans hx⟩⟩
 ·have hlt:=of_decide_eq_true hlt
  have hkl:k<L.length:=by omega
  have hne:L.take k≠[]:=fun e=>by
   have h0:(L.take k).length=0:=by rw [e]; rfl
   rw [List.length_take] at h0
   omega
  have hmn:=zacu (memV W c) (L.take k) hne
  refine ⟨ix hkl,_,cell hX hkl,fun wr1 hx1 hs2=>.inl ⟨zci,#[ifv W c (gi L (k:Int)),ifv W c (minL (memV W c) (L.take k)).toNat],by rfl,(zafi (bs:=[]) wr1 (ExtX.refl _ _)).mono fun e w2 ⟨he,hx2⟩=>⟨_,he,ze8,fun g=>⟨ix hkl,_,cell ((hX.trans hx1).trans hx2) hkl,⟨by omega,by omega⟩,fun wr2 hx3 _=>⟨⟨k+1,?_,by omega,by omega,((hX.trans hx1).trans hx2).trans hx3⟩,zb0 (k:=k) rfl rfl hkl⟩⟩,fun g=>⟨⟨by omega,by omega⟩,fun wr3 hx3 _=>⟨⟨k+1,?_,by omega,by omega,((hX.trans hx1).trans hx2).trans hx3⟩,zb0 (k:=k) rfl rfl hkl⟩⟩⟩⟩⟩
  ·have g:=z8r.1 (of_decide_eq_true g)
   rw [take hkl,zuu,if_pos (by rw [decide_eq_true g,Bool.or_true]),Int.toNat_natCast]; simp
  ·have g:=of_decide_eq_false g
   have g:¬memV W c (gi L (k:Int))<memV W c (minL (memV W c) (L.take k)).toNat:=fun hc=>g (z8r.2 hc)
   rw [take hkl,zuu,if_neg (by rw [decide_eq_false g,decide_eq_false (show ¬minL (memV W c) (L.take k)<0 by omega)]; decide)]; simp
 ·have hge:=of_decide_eq_false hge
  have:k=L.length:=by omega
  subst this
  rw [List.take_length]
theorem zai5 (W:Wld) (i:Int) (w:World):(Instr.typeAssert (ifvT W i) zbe zd3 true).run Tryz.prog w = .ok (.tuple #[.agg (.int .i64 i::encT (tkk W i)).toArray,.bool true]) w:=by kernel_rfl
theorem zagh (W:Wld) (c i:Int) (w:World):(Instr.typeAssert (ifvG W c i) zbe zd3 true).run Tryz.prog w = .ok (.tuple #[.agg (.int .i64 0::encT zn6).toArray,.bool false]) w:=by kernel_rfl
theorem zagg (W:Wld) (c i:Int) (w:World):(Instr.typeAssert (ifvG W c i) zbe zeq true).run Tryz.prog w = .ok (.tuple #[.agg (.int .i64 i::encS (shf W i c)).toArray,.bool true]) w:=by kernel_rfl
theorem z7z {c:Int} (h:WPt bs w p W m) (ha:WA W) (cur1 : -1<=(gi W.cpus c).cur) (c0:0<=c) (c1:c<(W.cpus.length:Int)):zad bs Tryz.prog zhs #[.agg #[.pointer p,.int .i64 c]] w (.int .i64 (if (gi W.cpus c).up=true then zaf W c else -1)):=by
 refine zri fun wr0 hx0=>zt3 p c (R:=fun v w'=>v = .int .i64 (if (gi W.cpus c).up=true then zaf W c else -1)/\ExtX [] wr0 w') ?_
 have h:=(h.ext hx0).less (cs:=[]) (by simp)
 have hgl:=ha.gl
 have cc:=h.rd.c c c0 c1
 have sm:=zl6 (n:=Int.toNat c*5) cc
 intro b hb
 refine ⟨m.cO.map (fun a=>a.add (Int.toNat c*5)),by exact zhx h c0 c1,sm,_,zf7 cc (j:=0) rfl,fun g wr hx=>⟨?_,hx⟩,fun g=>⟨sm,_,zf7 cc (j:=1) rfl,fun _=>sm,_,fun _=>zf7 cc (j:=2) rfl,fun g2=>⟨sm,_,zf7 cc (j:=1) rfl,fun wr hx=>⟨?_,hx⟩⟩,fun g2 => ?_⟩⟩
 ·rw [if_neg (by simpa using g)]
 ·have gu:(gi W.cpus c).up=true:=by simpa using g
  simp only [Bool.and_eq_true,bne_iff_ne,decide_eq_true_eq] at g2
  rw [if_pos gu]
  unfold zaf
  rw [if_pos ⟨by omega,g2.2⟩]
 have gu:(gi W.cpus c).up=true:=by simpa using g
 have hpk:zaf W c=zor W 0 c:=by
  unfold zaf
  rw [if_neg]
  rintro ⟨e1,e2⟩
  rw [bne_iff_ne.2 (show (gi W.cpus c).cur≠-1 by omega),decide_eq_true e2] at g2
  cases g2
 rw [if_pos gu,hpk]
 refine ⟨fun vs w1=>∃x:Int,vs=[.int .i64 x]/\zae W.groups x=true/\zor W x c=zor W 0 c/\Sc wr0 [b] w1,fun vs _=>(3 - dep 3 W.groups (zef 0 vs)).toNat,fun wr hx _=>⟨0,rfl,ha.root,rfl,⟨hx,by simpa using hb⟩⟩,?_⟩
 rintro x w1 hs1 ⟨x',he,hux,hI,s1⟩ wr3 hx3 hs3
 simp only [List.cons.injEq,Value.int.injEq,true_and,and_true] at he
 subst he
 have s3:=s1.step hx3
 have hp3:WPt [] wr3 p W m:=(h.sc s3).less (by simp)
 have hst:=zq7 ha hux (c:=c)
 have hmin:minL (memV W c) (memL W x c 20)=zax W x c:=zpu _ _ _
 refine (zzy hp3 ha c0 c1 rfl).mono fun e w4 ⟨o,cap,he,hO,hx4⟩=>⟨_,_,_,he,zaz hx4 hs3,fun q wr4 hx5=>⟨?_,((s3.call0 hx4).step hx5).ext⟩,fun q wr5 hx5 hs5 => ?_⟩
 ·have hn : memL W x c 20 = [] := List.eq_nil_of_length_eq_zero (by have:(((memL W x c 20).length:Nat):Int)=0:=by simpa using q
                                                                    omega)
  have:zax W x c = -1:=by rw [<-hmin,hn]; rfl
  rw [<-hI,hst,if_pos (by omega)]
 have hne:memL W x c 20≠[]:=fun e=>by rw [e] at q; simp at q
 have hlen:1<=(memL W x c 20).length:=by
  rcases Nat.eq_zero_or_pos (memL W x c 20).length with h0 | h0
  ·exact absurd (List.eq_nil_of_length_eq_zero h0) hne
  ·exact h0
 have hF:0<=zax W x c:=by rw [<-hmin]; exact zacu _ _ hne
 have s5:=(s3.call0 hx4).step hx5
 have hO5:=(Ob.of hO hs3).step hx5
 have hlt20:=zwx (memP W x c) 20
 refine (zacf (hO5.rd0 (zse W c).len) hlen (by unfold memL; omega)).mono fun e w6 ⟨he,hx6⟩=>⟨_,he,zaz hx6 hs5,?_⟩
 rw [hmin]
 by_cases h12:zax W x c<12
 ·have hi:(zax W x c).toNat<12:=by omega
  rw [zah9 hi]
  refine ⟨_,_,_,_,_,_,_,_,_,_,_,fun wq=>zai5 W _ wq,fun _ b1 hb1 wr6 hx7=>⟨?_,((s5.call0 hx6).step hx7).ext⟩,fun g=>by cases g⟩
  rw [<-hI,hst,if_neg (by omega),if_pos h12,show (((zax W x c).toNat:Nat):Int)=zax W x c by omega]
 ·have e:(zax W x c).toNat=12+((zax W x c).toNat - 12):=by omega
  rw [e,zah8]
  have ei:(((zax W x c).toNat - 12:Nat):Int)=zax W x c - 12:=by omega
  obtain ⟨k1,k2,k3,_⟩:=zmz ha hux (c:=c) (by omega)
  have hdk:=zqh ha k1
  rw [ei]
  refine ⟨_,_,_,_,_,_,_,_,_,_,_,fun wq=>zagh W c _ wq,fun g=>(by cases g),fun _=>⟨_,_,_,_,_,_,_,fun wq=>zagg W c _ wq,fun _ b2 hb2 wr7 hx7 _=>⟨⟨zax W x c - 12,rfl,k1,?_,(s5.call0 hx6).step hx7⟩,?_⟩,fun g=>by cases g⟩⟩
  ·rw [<-hI,hst,if_neg (by omega),if_neg h12]
  ·show (3 - dep 3 W.groups (zax W x c - 12)).toNat<(3 - dep 3 W.groups x).toNat
   omega
end
section
variable {base pb:Nat} {W:Wld} {m:MW} {w:World}
def RunM (base pb b:Nat) (w0:World) (m:MW) (c n:Int) (W:Wld) (f:Nat) (vs:List Value) (w2:World):Prop:=
 ∃(V:Wld) (left:Int),vs=[.int .i64 left]/\Mp base pb [b] w0 m w2 V m/\RunI f c W V left/\runN c f V left=runW W c n
set_option maxHeartbeats 4000000 in
theorem zzx {c n:Int} {tf:Fn} {ta tk0:Array Value} (h:PW base pb w W m) (hI0:RunI 400 c W W n)
  (ht:∀(t u:Int) (w1:World),zmh Tryz.prog (.func tf ta tk0) [.int .i64 t,.int .i64 u] w1 fun e w2=>e = .returned (.tuple #[])/\ExtX [] w1 w2) :
  Calls Tryz.prog zit #[.agg #[.pointer (pA pb),.int .i64 c],.int .i64 n,.func tf ta tk0] w fun e w'=>e = .returned (.tuple #[])/\Mp base pb [] w m w' (runW W c n) m:=by
 refine (zwj (pA pb) c n tf ta tk0 (R:=fun v w'=>v = .tuple #[]/\Mp base pb [] w m w' (runW W c n) m) ?_).mono fun e w' ⟨v,he,hv,h3⟩=>⟨by rw [he,hv],h3⟩
 intro b hb
 have c0:=hI0.c0
 have hst:stlB=173430457200:=rfl
 have hlg:lagB=34686091440:=rfl
 have hh0:(0:Int)<=zbr:=by decide
 have hM0:=Mp.start h
 have hp0:=hM0.wpt
 refine ⟨_,zhx hp0 c0 hI0.c1,fun vs w2=>∃f,RunM base pb b w m c n W f vs w2,fun vs w2=>lstF fun f=>RunM base pb b w m c n W f vs w2,fun wr hx _=>⟨400,W,n,rfl,(hM0.add hb).call0 hx,hI0,rfl⟩,?_⟩
 intro left w2 hs2 hinv
 obtain ⟨f0,hf0⟩:∃f0,f0=lstF fun f=>RunM base pb b w m c n W f [.int .i64 left] w2:=⟨_,rfl⟩
 have hS:=z54 hinv
 simp only [<-hf0] at hS ⊢
 clear hf0 hinv
 obtain ⟨V,left',hv,hM2,hI,hN⟩:=hS
 simp only [List.cons.injEq,Value.int.injEq,true_and,and_true] at hv
 subst hv
 obtain ⟨f,rfl⟩:=z9g hI
 have hnext:∀{vs:List Value} {w9:World},RunM base pb b w m c n W f vs w9->(∃f,RunM base pb b w m c n W f vs w9)/\(lstF fun f=>RunM base pb b w m c n W f vs w9)<f+1:=fun hh=>⟨⟨f,hh⟩,Nat.lt_succ_of_le (zacn hh)⟩
 have hp2:=hM2.wpt
 have hf:=hI.f2
 have hKu:=zi4 hf
 have hSu:=zyf hf
 have c1V:=hI.c1
 have hs:=zl6 (n:=Int.toNat c*5) (hp2.rd.c c c0 c1V)
 refine ⟨fun hlt => ?_,fun hge => ?_⟩
 ·have hlt:=of_decide_eq_true hlt
  have hpk:=z7z hp2 hI.sw.a (hI.sw.cu c c0 c1V).1 c0 c1V
  rw [if_pos hI.up] at hpk
  refine ⟨_,hpk,fun gp => ?_,fun gp => ?_⟩
  ·have gp:=of_decide_eq_true gp
   rw [zli (by omega) gp] at hN
   obtain ⟨i1,i2,i3,i4⟩:=z5s hI
   have e1:MWd 8 base _ (setCp V c (idlC V c left)) m:=hM2.own.stoC c0 c1V (j:=4) (vs:=[.int .i64 ((gi V.cpus c).idle+left)]) (x:=idlC V c left) rfl (by simp)
   have hM3:=hM2.deed e1 subC (z7o _ _ _ _)
   refine ⟨hs,_,zf7 (hp2.rd.c c c0 c1V) (j:=4) rfl,⟨by omega,by omega⟩,hs,zmb.2 (wrC hM2.own hM2.nb c0 c1V (by decide)),?_⟩
   rw [zj7]
   intro wr1 hx1 hs1
   have hM4:=hM3.step hx1
   refine Calls.mono (zgh hM4.pw c0 (by show c<((V.cpus.set c.toNat (idlC V c left)).length:Int); rw [List.length_set]; exact c1V)) ?_
   rintro e3 wv3 ⟨he3,hy3⟩
   refine ⟨he3,hM4.kept hy3 hs1,fun wr4 hx4 hs4 => ?_⟩
   have hM5:=(hM4.call hy3 hs1).step hx4
   refine Calls.mono (zfu hM5.pw i1 (by omega) (by omega)) ?_
   rintro e5 wv5 ⟨he5,hy5⟩
   rw [hN] at hy5
   exact ⟨he5,hM5.kept hy5 hs4,fun wr6 hx6=>⟨by trivial,((hM5.call hy5 hs4).step hx6).close⟩⟩
  ·have gp:=of_decide_eq_false gp
   rw [zj6 (by omega) gp] at hN
   have hR:=zrk hI hlt gp
   have t0:=hR.line.t0
   have t1:=hR.line.t1
   obtain ⟨q1,q2,q3,q4,q5,q6⟩:=zpy hI.sw hI.rb c0 c1V hI.up t0 t1
   have eC:(tkW V c).1.cpus=(zbu V c (zaf V c)).cpus:=hR.tk.o.c
   have lT:(tkW V c).1.cpus.length=V.cpus.length:=by rw [eC]; exact q6
   have cT:c<((tkW V c).1.cpus.length:Int):=by rw [lT]; exact c1V
   have rT:RB (runS (f+1)) (tkW V c).1:=hR.r1.sum hR.tk.su hR.tk.o.g (by rw [eC])
   have eT:(tkW V c).1.tasks=V.tasks:=hR.tk.o.t
   have eG:zb6 V.groups (tkW V c).1.groups:=hR.tk.o.g
   have pT:pthR (tkW V c).1 (zaf V c)=pthR V (zaf V c):=z4q eT eG _
   have uT:zae (tkW V c).1.groups (tkk (tkW V c).1 (zaf V c)).group=true:=by rw [eG.usd,zd7 eT]; exact hR.us
   have upT:(gi (tkW V c).1.cpus c).up=true:=by rw [eC]; exact q3
   have ranT:(gi (tkW V c).1.cpus c).ran<50:=by rw [eC]; exact hR.ran
   have hnx:=hR.nx
   have hl1:=hI.l1
   have hTk:tkL c (pthR V (zaf V c)) (zbu V c (zaf V c))=tkW V c:=rfl
   have hmE:mstL (tkW V c).1 c (pthR V (zaf V c)) left=rndM V c left:=rfl
   refine ⟨hs,_,zf7 (hp2.rd.c c c0 c1V) (j:=1) rfl,fun _=>hs,_,fun _=>zf7 (hp2.rd.c c c0 c1V) (j:=2) rfl,fun g5 => ?_,fun g5 wr4 hx4 hs4 => ?_⟩
   ·have g5:zaf V c≠(gi V.cpus c).cur\/(gi V.cpus c).ran>=50:=by simpa using g5
    have hS:zdb V c (zaf V c)={ gi V.cpus c with cur:=zaf V c,ran:=0 }:=by unfold zdb; rw [if_pos g5]
    have e1:=hM2.own.stoC c0 c1V (j:=1) (vs:=[.int .i64 (zaf V c)]) (x:={ gi V.cpus c with cur:=zaf V c }) rfl (by simp)
    have hl1':(V.cpus.set c.toNat { gi V.cpus c with cur:=zaf V c }).length=V.cpus.length:=List.length_set
    have hg1:gi (V.cpus.set c.toNat { gi V.cpus c with cur:=zaf V c }) c={ gi V.cpus c with cur:=zaf V c }:=(za4 _ _ c0 c1V c0).trans (if_pos rfl)
    have e2:=e1.stoC c0 (by simpa using c1V) (j:=2) (vs:=[.int .i64 0]) (x:=zdb V c (zaf V c)) (by rw [hg1,hS]; rfl) (by simp)
    have hW2:({ V with cpus:=(V.cpus.set c.toNat { gi V.cpus c with cur:=zaf V c }).set c.toNat (zdb V c (zaf V c)) }:Wld)=zbu V c (zaf V c):=by
     unfold zbu setCp
     rw [List.set_set]
    have hM3:Mp base pb [b] w m _ ({ V with cpus:=V.cpus.set c.toNat { gi V.cpus c with cur:=zaf V c } }:Wld) m:=hM2.deed e1 subC (by simp [encW])
    have hM3':Mp base pb [b] w m _ ({ V with cpus:=(V.cpus.set c.toNat { gi V.cpus c with cur:=zaf V c }).set c.toNat (zdb V c (zaf V c)) }:Wld) m:=hM3.deed e2 subC (by simp [encW])
    rw [hW2] at hM3'
    refine ⟨hs,zmb.2 (wrC hM2.own hM2.nb c0 c1V (by decide)),hs,?_⟩
    rw [zj7]
    refine ⟨zmb.2 (wrC e1 hM2.nb c0 (by show c<((V.cpus.set c.toNat { gi V.cpus c with cur:=zaf V c }).length:Int); rw [hl1']; exact c1V) (by decide)),?_⟩
    rw [zj7]
    intro wr4 hx4 hs4
    have hM4:=hM3'.step hx4
    refine Calls.mono (zme (t:=zaf V c) hM4.pw q1 c0 (by rw [q6]; exact c1V) t0 t1 hR.us hR.dr) ?_
    rintro e3 wv3 ⟨he3,hy3⟩
    have hpS:pthR (zbu V c (zaf V c)) (zaf V c)=pthR V (zaf V c):=rfl
    rw [hpS,hTk] at he3 hy3
    have hM5:=hM4.call hy3 hs4
    refine ⟨_,he3,hM4.kept hy3 hs4,fun gt wr5 hx5 hs5 => ?_,fun gt wr5 hx5 hs5 => ?_⟩
    ·have gt:¬(tkW V c).2=true:=by simpa using gt
     have hRW:rndW V c left=(zah (endW (tkW V c).1 c),left):=by unfold rndW; rw [if_neg gt]
     rw [hRW] at hnx hN
     have hM6:=hM5.step hx5
     refine Calls.mono (zgh hM6.pw c0 cT) ?_
     rintro e6 wv6 ⟨he6,hy6⟩
     refine ⟨he6,hM6.kept hy6 hs5,fun wr7 hx7 hs7 => ?_⟩
     have hM7:=(hM6.call hy6 hs5).step hx7
     refine Calls.mono (zfu hM7.pw (hR.tk.sw.endW c0 cT) (by omega) (by omega)) ?_
     rintro e8 wv8 ⟨he8,hy8⟩
     generalize zah (endW (tkW V c).1 c)=V9 at hy8 hnx hN
     exact ⟨he8,hM7.kept hy8 hs7,fun wr9 hx9 _=>hnext ⟨V9,left,rfl,(hM7.call hy8 hs7).step hx9,hnx,hN⟩⟩
    ·have gt:(tkW V c).2=true:=by simpa using gt
     have hRW:rndW V c left=(zah (chW (tkW V c).1 c (zaf V c) (rndM V c left)),left - rndM V c left):=by unfold rndW; rw [if_pos gt]
     rw [hRW] at hnx hN
     obtain ⟨m1,m2'⟩:=hR.m gt
     have sC:=(hR.ch gt).1
     have hM6:=hM5.step hx5
     have hcG:=ztc (t:=zaf V c) (left:=left) hM6.pw hR.tk.sw rT ⟨by omega,by omega⟩ ⟨by omega,by omega⟩ c0 cT upT ranT t0 t1 uT (by rw [pT,hmE]; omega) (by rw [pT,hmE]; omega)
     rw [pT,hmE] at hcG
     refine Calls.mono hcG ?_
     rintro e6 wv6 ⟨he6,hy6⟩
     refine ⟨_,he6,hM6.kept hy6 hs5,fun wr7 hx7 hs7 => ?_⟩
     have hM7:=(hM6.call hy6 hs5).step hx7
     refine zmh.mono (ht _ _ wr7) ?_
     rintro e8 wv8 ⟨he8,hy8⟩
     refine ⟨he8,zaz hy8 hs7,fun wr9 hx9 hs9 => ?_⟩
     have hM9:=(hM7.call0 hy8).step hx9
     refine Calls.mono (zfu hM9.pw sC (by omega) (by omega)) ?_
     rintro e10 wv10 ⟨he10,hy10⟩
     generalize zah (chW (tkW V c).1 c (zaf V c) (rndM V c left))=V9 at hy10 hnx hN
     exact ⟨he10,hM9.kept hy10 hs9,⟨by show _<=left - rndM V c left; omega,by show left - rndM V c left<=_; omega⟩,fun wr11 hx11 _=>hnext ⟨V9,left - rndM V c left,rfl,(hM9.call hy10 hs9).step hx11,hnx,hN⟩⟩
   ·have g5:¬(zaf V c≠(gi V.cpus c).cur\/(gi V.cpus c).ran>=50):=by simpa using g5
    have hS:zbu V c (zaf V c)=V:=by
     unfold zbu zdb setCp
     rw [if_neg g5,zyk c0 c1V]
    have hM4:Mp base pb [b] w m wr4 (zbu V c (zaf V c)) m:=by rw [hS]; exact hM2.step hx4
    refine Calls.mono (zme (t:=zaf V c) hM4.pw q1 c0 (by rw [q6]; exact c1V) t0 t1 hR.us hR.dr) ?_
    rintro e3 wv3 ⟨he3,hy3⟩
    have hpS:pthR (zbu V c (zaf V c)) (zaf V c)=pthR V (zaf V c):=rfl
    rw [hpS,hTk] at he3 hy3
    have hM5:=hM4.call hy3 hs4
    refine ⟨_,he3,hM4.kept hy3 hs4,fun gt wr5 hx5 hs5 => ?_,fun gt wr5 hx5 hs5 => ?_⟩
    ·have gt:¬(tkW V c).2=true:=by simpa using gt
     have hRW:rndW V c left=(zah (endW (tkW V c).1 c),left):=by unfold rndW; rw [if_neg gt]
     rw [hRW] at hnx hN
     have hM6:=hM5.step hx5
     refine Calls.mono (zgh hM6.pw c0 cT) ?_
     rintro e6 wv6 ⟨he6,hy6⟩
     refine ⟨he6,hM6.kept hy6 hs5,fun wr7 hx7 hs7 => ?_⟩
     have hM7:=(hM6.call hy6 hs5).step hx7
     refine Calls.mono (zfu hM7.pw (hR.tk.sw.endW c0 cT) (by omega) (by omega)) ?_
     rintro e8 wv8 ⟨he8,hy8⟩
     generalize zah (endW (tkW V c).1 c)=V9 at hy8 hnx hN
     exact ⟨he8,hM7.kept hy8 hs7,fun wr9 hx9 _=>hnext ⟨V9,left,rfl,(hM7.call hy8 hs7).step hx9,hnx,hN⟩⟩
    ·have gt:(tkW V c).2=true:=by simpa using gt
     have hRW:rndW V c left=(zah (chW (tkW V c).1 c (zaf V c) (rndM V c left)),left - rndM V c left):=by unfold rndW; rw [if_pos gt]
     rw [hRW] at hnx hN
     obtain ⟨m1,m2'⟩:=hR.m gt
     have sC:=(hR.ch gt).1
     have hM6:=hM5.step hx5
     have hcG:=ztc (t:=zaf V c) (left:=left) hM6.pw hR.tk.sw rT ⟨by omega,by omega⟩ ⟨by omega,by omega⟩ c0 cT upT ranT t0 t1 uT (by rw [pT,hmE]; omega) (by rw [pT,hmE]; omega)
     rw [pT,hmE] at hcG
     refine Calls.mono hcG ?_
     rintro e6 wv6 ⟨he6,hy6⟩
     refine ⟨_,he6,hM6.kept hy6 hs5,fun wr7 hx7 hs7 => ?_⟩
     have hM7:=(hM6.call hy6 hs5).step hx7
     refine zmh.mono (ht _ _ wr7) ?_
     rintro e8 wv8 ⟨he8,hy8⟩
     refine ⟨he8,zaz hy8 hs7,fun wr9 hx9 hs9 => ?_⟩
     have hM9:=(hM7.call0 hy8).step hx9
     refine Calls.mono (zfu hM9.pw sC (by omega) (by omega)) ?_
     rintro e10 wv10 ⟨he10,hy10⟩
     generalize zah (chW (tkW V c).1 c (zaf V c) (rndM V c left))=V9 at hy10 hnx hN
     exact ⟨he10,hM9.kept hy10 hs9,⟨by show _<=left - rndM V c left; omega,by show left - rndM V c left<=_; omega⟩,fun wr11 hx11 _=>hnext ⟨V9,left - rndM V c left,rfl,(hM9.call hy10 hs9).step hx11,hnx,hN⟩⟩
 ·have hge:=of_decide_eq_false hge
  rw [zl4 (by omega)] at hN
  intro wr4 hx4 hs4
  have hM4:=hM2.step hx4
  refine Calls.mono (zfu hM4.pw hI.sw (by omega) (by omega)) ?_
  rintro e5 wv5 ⟨he5,hy5⟩
  rw [hN] at hy5
  exact ⟨he5,hM4.kept hy5 hs4,fun wr6 hx6=>⟨by trivial,((hM4.call hy5 hs4).step hx6).close⟩⟩
theorem z5z {cap cap1 cap2:Option Addr} {c n:Int} {tf:Fn} {ta tk0:Array Value} (h:PW base pb w W m) (hW:zbi W=true) (h0:zaa [] w cap 0 [.int .i64 n]) (h1:zaa [] w cap1 0 [.int .i64 c]) (h2:zaa [] w cap2 0 [.func tf ta tk0])
  (ht:∀(t u:Int) (w1:World),zmh Tryz.prog (.func tf ta tk0) [.int .i64 t,.int .i64 u] w1 fun e w2=>e = .returned (.tuple #[])/\ExtX [] w1 w2) :
  Calls Tryz.prog ze6 #[.pointer (pA pb),.pointer cap,.pointer cap1,.pointer cap2] w fun e w2=>(runB W c n≠0/\e = .returned (.iface zb5 (.agg #[.int .i64 (runB W c n)]))/\ExtX [] w w2)\/(runB W c n=0/\e = .returned .nilIface/\∃m2,Done base pb [] w m w2 (runW W c n) m2):=by
 have wp:=zbp.1 hW
 have hM:=Mp.start h
 have hp:=hM.wpt
 have hm0:=zcx
 have hc2:=wp.a.c2
 refine (zsa (pA pb) cap cap1 cap2 (R:=fun v w2=>(runB W c n≠0/\v = .iface zb5 (.agg #[.int .i64 (runB W c n)])/\ExtX [] w w2)\/(runB W c n=0/\v = .nilIface/\∃m2,Done base pb [] w m w2 (runW W c n) m2)) ?_).mono fun e w' ⟨v,he,h3⟩=>by
  rw [he]
  rcases h3 with ⟨a,b,c⟩ | ⟨a,b,c⟩
  ·exact .inl ⟨a,by rw [b],c⟩
  ·exact .inr ⟨a,by rw [b],c⟩
 refine ⟨n,h0,_,zap,c,fun _=>h1,zwd W c,fun _=>by exact zw7 hp (by omega),fun g wr hx=>.inl ?_,fun g => ?_⟩
 ·have hb:runB W c n=1:=by
   unfold runB; rw [if_pos]
   simpa using g
  rw [hb]
  exact ⟨by decide,rfl,hx⟩
 have g:inB n 1 100=true/\zwd W c=true:=by simpa using g
 have hn1:¬(inB n 1 100=false\/zwd W c=false):=by rw [g.1,g.2]; simp
 obtain ⟨c0,c1⟩:=z7k g.2
 refine ⟨hp.some,_,_,_,hp.cpus,c,h1,hp.rd.c.ix zeg c0 c1,_,hp.rd.c.f c0 c1 (j:=0) rfl,fun g2 wr hx=>.inl ?_,fun g2=>⟨_,z5w hp wp.a,fun g3 wr hx=>.inl ?_,fun g3 => ?_⟩⟩
 ·have hb:runB W c n=6:=by unfold runB; rw [if_neg hn1,if_pos (by simpa using g2)]
  rw [hb]
  exact ⟨by decide,rfl,hx⟩
 ·have g2:(gi W.cpus c).up=true:=by simpa using g2
  have hb:runB W c n=10:=by unfold runB; rw [if_neg hn1,if_neg (by rw [g2]; decide),if_pos (by simpa using g3)]
  rw [hb]
  exact ⟨by decide,rfl,hx⟩
 have g2:(gi W.cpus c).up=true:=by simpa using g2
 have g3:zhh W=true:=by simpa using g3
 have hb:runB W c n=0:=by unfold runB; rw [if_neg hn1,if_neg (by rw [g2]; decide),if_neg (by rw [g3]; decide)]
 refine ⟨c,h1,_,_,zgn,n,h0,_,_,_,h2,fun wr3 hx3 _ => ?_⟩
 have hM3:=hM.nil hx3
 refine Calls.mono (zzx hM3.pw (zyh hW hb).2.2.2.2 ht) ?_
 rintro e wv ⟨he,hy⟩
 exact ⟨he,ze8,fun wr4 hx4=>.inr ⟨hb,rfl,m,((hM3.call hy (by simp)).nil hx4).done⟩⟩
theorem zaif {t u:Int} {bs:List Nat}:zad bs Tryz.prog zdr #[.int .i64 t,.int .i64 u] w (.tuple #[]):=zsj t u fun _ _=>rfl
theorem zajy (t u:Int) (w1:World):zmh Tryz.prog (.func (.func zdr) #[] #[]) [.int .i64 t,.int .i64 u] w1 fun e w2=>e = .returned (.tuple #[])/\ExtX [] w1 w2:=
 .inl ⟨zdr,_,rfl,(zaif (bs:=[]) w1 (ExtX.refl _ _)).mono fun e w2 ⟨he,hx⟩=>⟨he,hx⟩⟩
theorem zaai {c n:Int} {tf:Fn} {ta tk0:Array Value} (h:RdW [] w W m) (hl:LenW W) (hg:zp2 w)
  (ht:∀(t u:Int) (w1:World),zmh Tryz.prog (.func tf ta tk0) [.int .i64 t,.int .i64 u] w1 fun e w2=>e = .returned (.tuple #[])/\ExtX [] w1 w2) :
  Calls Tryz.prog ziu #[.agg (encW W m).toArray,.int .i64 c,.int .i64 n,.func tf ta tk0] w fun e w'=>∃v,e = .returned v/\AnsW (ansD W (runB W c n) (runW W c n)) w v w':=by
 refine zwk W.now m.cO W.cpus.length m.cC m.tO W.tasks.length m.tC m.gO W.groups.length m.gC c n tf ta tk0 (R:=fun v w'=>AnsW (ansD W (runB W c n) (runW W c n)) w v w') ?_
 intro x hx b1 wb hx1 hb1 hc1 hn1 b2 wb1 hx2 hb2 hc2 hn2 b3 wb2 hx3 hb3 hc3 hn3 b4 hb4 wr hx4 hs
 have hX1:ExtX [] w wb1:=hx1.fresh hx2 fun y hy=>.inl (z72 hy hx)
 have hX2:ExtX [] w wb2:=hX1.fresh hx3 fun y hy=>.inl (z72 hy hx)
 have hX:ExtX [] w wr:=hX2.fresh hx4 fun y hy=>.inl (z72 hy hx)
 have k1:=za0 (za0 (za0 hc1 hx2 hn1) hx3 hn1) hx4 hn1
 have k2:=za0 (za0 hc2 hx3 hn2) hx4 hn2
 have k3:=za0 hc3 hx4 hn3
 have cell:∀{b:Nat} {v:Value} {t:TypeId} {w1:World},wr.heap[b]? = some (Obj.cells ([v]:List Value).toArray t (0,0))->ExtX [] wr w1->zaa [] w1 (some ⟨b,0,none⟩) 0 [v]:=fun hb hx=>zij (za0 hb hx (by simp)) (by simp) (k0:=0) rfl
 refine Calls.mono (zacg (bar:=runB W c n) (W':=runW W c n) (h.ext hX) hl (hg.ext hX) fun w1 pb m1 hW hy3 hpb hP=>.inl ⟨ze6,_,rfl,z5z hP hW (cell k2 hy3) (cell k1 hy3) (cell k3 hy3) ht⟩) ?_
 rintro e wv ⟨v,he,n',m',hv,hM,hy⟩
 subst hv
 refine ⟨_,_,_,_,_,_,_,_,_,_,_,he,zaz hy hs,fun wr1 hx5=>⟨n',m',rfl,(hM.ext hx5 fun y hy hm => ?_).mono hX.size,(hX.trans hy).fresh hx5 fun y hm => ?_⟩⟩
 ·have:=(hM.lt y hy).1
  have:=hs y hm
  omega
 ·simp only [List.mem_cons,List.not_mem_nil,or_false] at hm
  rcases hm with rfl | rfl
  ·exact .inl hx
  ·exact .inl (Nat.le_trans hX2.size hb4)
theorem zm9 {c n:Int} (h:RdW [] w W m) (hl:LenW W) (hg:zp2 w) :
  Calls Tryz.prog zga #[.agg (encW W m).toArray,.int .i64 c,.int .i64 n] w fun e w'=>∃v,e = .returned v/\AnsW (ansD W (runB W c n) (runW W c n)) w v w':=by
 refine zwh W.now m.cO W.cpus.length m.cC m.tO W.tasks.length m.tC m.gO W.groups.length m.gC c n (R:=fun v w'=>AnsW (ansD W (runB W c n) (runW W c n)) w v w') ?_
 intro x hx b1 hb1 wr hx1 hs
 refine Calls.mono (zaai (c:=c) (n:=n) (h.ext hx1) hl (hg.ext hx1) zajy) ?_
 rintro e wv ⟨v,he,n',m',hv,hM,hy⟩
 subst hv
 refine ⟨_,_,_,_,_,_,_,_,_,_,_,he,zaz hy hs,fun wr1 hx4=>⟨n',m',rfl,(hM.ext hx4 fun y hy hm => ?_).mono hx1.size,(hx1.trans hy).fresh hx4 fun y hm=>.inl (zl9 hx hb1 y hm)⟩⟩
 have:=(hM.lt y hy).1
 have:=hs y hm
 omega
end
theorem zaab {W:Wld} {g c:Int} (h:¬zax W g c<0):zc4 W g c 20=true/\zby W g c 20=memV W c (zax W g c).toNat:=by
 unfold zc4 zby
 unfold zax at h ⊢
 rw [if_neg h]
 exact ⟨decide_eq_true (by omega),rfl⟩
theorem zafw {W:Wld} (ha:WA W) (fl:Flo W) {c:Int} (c0:0<=c) (c1:c<(W.cpus.length:Int)) (f:Nat):∀g:Int,zae W.groups g=true->(4 - dep 3 W.groups g).toNat=f->(∀x∈zbk W.groups g,(shf W x c).v<=(shf W (gi W.groups x).parent c).floor)->0<=zor W g c->
  (tkk W (zor W g c)).v<=(shf W (tkk W (zor W g c)).group c).floor/\∀x∈zbk W.groups (tkk W (zor W g c)).group,(shf W x c).v<=(shf W (gi W.groups x).parent c).floor:=by
 induction f with
 | zero=>
  intro g hu hf
  have:=zqh ha hu
  omega
 | succ f ih=>
  intro g hu hf hp h
  rw [zq7 ha hu] at h ⊢
  by_cases h1:zax W g c<0
  ·rw [if_pos h1] at h; omega
  ·rw [if_neg h1] at h ⊢
   obtain ⟨b1,b2⟩:=zaab h1
   have hfl:=fl g c hu c0 c1 b1
   rw [b2] at hfl
   by_cases h2:zax W g c<12
   ·rw [if_pos h2] at h ⊢
    have hm:memP W g c (zax W g c).toNat=true:=by
     rcases zbz (memP W g c) (memV W c) 20 with ⟨a,_⟩ | ⟨_,_,a,_⟩
     ·unfold zax at h1; omega
     ·exact a
    rw [zim (by omega)] at hm
    unfold actT at hm
    rw [show (((zax W g c).toNat:Nat):Int)=zax W g c by omega] at hm
    simp only [Bool.and_eq_true,beq_iff_eq] at hm
    unfold memV at hfl
    rw [if_pos (by omega),show (((zax W g c).toNat:Nat):Int)=zax W g c by omega] at hfl
    rw [show (tkk W (zax W g c)).group=g from hm.1.2]
    exact ⟨hfl,hp⟩
   ·rw [if_neg h2] at h ⊢
    obtain ⟨k1,k2,k3,k4⟩:=zmz ha hu (g:=g) (c:=c) (by omega)
    have hm:memP W g c (zax W g c).toNat=true:=by
     rcases zbz (memP W g c) (memV W c) 20 with ⟨a,_⟩ | ⟨_,_,a,_⟩
     ·unfold zax at h1; omega
     ·exact a
    rw [show (zax W g c).toNat=12+(zax W g c - 12).toNat by omega,zil] at hm
    unfold actG at hm
    rw [show (((zax W g c - 12).toNat:Nat):Int)=zax W g c - 12 by omega] at hm
    simp only [Bool.and_eq_true,beq_iff_eq] at hm
    unfold memV at hfl
    rw [if_neg (by omega),show (((zax W g c).toNat - 12:Nat):Int)=zax W g c - 12 by omega] at hfl
    refine ih _ k1 (by omega) (fun x hx => ?_) h
    rw [zcf ha.tree k1 k2] at hx
    rcases List.mem_cons.1 hx with e | e
    ·rw [e,hm.1.2.2]; exact hfl
    ·rw [hm.1.2.2] at e; exact hp x e
structure Base (W:Wld) (c t ran:Int):Prop where
 r0:0<=ran
 r1:ran<50
 t1:(tkk W t).v - (shf W (tkk W t).group c).floor<=zbn ran (zai (tkk W t).nice)
 t2:(shf W (tkk W t).group c).floor<=(tkk W t).v
 p1:∀x∈zbk W.groups (tkk W t).group,(shf W x c).v - (shf W (gi W.groups x).parent c).floor<=zbn ran (shf W x c).w
 p2:∀x∈zbk W.groups (tkk W t).group,(shf W (gi W.groups x).parent c).floor<=(shf W x c).v
theorem zahh {W:Wld} (iv:Inv W) {c:Int} (c0:0<=c) (c1:c<(W.cpus.length:Int)) (hl:zaei W (zaf W c) c) (hp:¬zaf W c<0):Base W c (zaf W c) (gi (zbu W c (zaf W c)).cpus c).ran:=by
 have wp:=iv.wp
 have p:=zyd wp
 have h:=z8b p hl.t0 hl.t1 (by rw [hl.st]; decide)
 have e:gi (zbu W c (zaf W c)).cpus c=zdb W c (zaf W c):=(za4 _ _ c0 c1 c0).trans (if_pos rfl)
 have t2:(shf W (tkk W (zaf W c)).group c).floor<=(tkk W (zaf W c)).v:=by
  have:=(h.f hl.st).1
  rwa [hl.cpu] at this
 have p2:∀x∈zbk W.groups (tkk W (zaf W c)).group,(shf W (gi W.groups x).parent c).floor<=(shf W x c).v:=fun x hx=>by
  obtain ⟨xu,xz⟩:=zen wp.a.tree _ h.g x hx
  exact ((p.s x c xu c0 c1).st xz (hl.on x hx)).1
 rw [e]
 by_cases hc:(gi W.cpus c).cur>=0/\(gi W.cpus c).ran<50
 ·have hpk:zaf W c=(gi W.cpus c).cur:=by unfold zaf; rw [if_pos hc]
  have hs:zdb W c (zaf W c)=gi W.cpus c:=by
   unfold zdb
   rw [if_neg]
   rintro (h | h)
   ·exact h hpk
   ·omega
  rw [hs]
  have hy:=(p.c c c0 c1).yes hc.1
  have hq:=(p.c c c0 c1).q hc.1 (by rw [<-hpk]; exact hl.st) (by rw [<-hpk]; exact hl.cpu)
  rw [<-hpk] at hq
  exact ⟨by omega,hc.2,hq.1,t2,fun x hx=>(hq.2 x hx).2,p2⟩
 ·have hpk:zaf W c=zor W 0 c:=by unfold zaf; rw [if_neg hc]
  have hs:(zdb W c (zaf W c)).ran=0:=by
   unfold zdb
   rw [if_pos]
   by_cases h0:(gi W.cpus c).cur>=0
   ·exact .inr (by omega)
   ·exact .inl (by omega)
  rw [hs]
  have hn:=zafw wp.a iv.fl c0 c1 _ 0 wp.a.root rfl (fun x hx=>by rw [show zbk W.groups 0=[] from zbm _ _] at hx; cases hx) (by rw [<-hpk]; omega)
  rw [<-hpk] at hn
  have v0:∀w:Int,0<=zbn 0 w:=fun w=>(zp0 0 w).1
  refine ⟨Int.le_refl _,by decide,?_,t2,fun x hx => ?_,p2⟩
  ·have:=v0 (zai (tkk W (zaf W c)).nice)
   have:=hn.1
   omega
  ·have:=v0 (shf W x c).w
   have:=hn.2 x hx
   omega
theorem zafx {gs:List Grp} (ht:zeb gs):∀g:Int,zae gs g=true->∀x∈zbk gs g,dep 3 gs x<=dep 3 gs g:=
 zob ht (fun x hx=>by rw [show zbk gs 0=[] from zbm _ _] at hx; cases hx) fun h hu hz ih x hx=>by
  rw [zcf ht hu hz] at hx
  rcases List.mem_cons.1 hx with e | e
  ·subst e; exact Int.le_refl _
  ·obtain ⟨_,_,_,d,e1,e2,_⟩:=zd4 ht hu hz
   have:=ih x e
   omega
theorem zaiq {gs:List Grp} (ht:zeb gs):∀g:Int,zae gs g=true->(zbk gs g++[0]).Nodup:=
 zob ht (by rw [show zbk gs 0=[] from zbm _ _]; simp) fun h hu hz ih=>by
  rw [zcf ht hu hz,List.cons_append,List.nodup_cons]
  refine ⟨fun hm => ?_,ih⟩
  rcases List.mem_append.1 hm with hm | hm
  ·obtain ⟨hp,_,_,d,e1,e2,_⟩:=zd4 ht hu hz
   have:=zafx ht _ hp h hm
   omega
  ·exact hz (List.mem_singleton.1 hm)
theorem zahl {W:Wld} {c n g:Int} (hgl:W.groups.length=8) (u0:0<=g) (u1:g<8) (c0:0<=c) (cs:c<((gi W.groups g).shelves.length:Int)) (i d:Int) (hi:0<=i) (hd:0<=d):shf (chG W c n g) i d=if g=i/\c=d then chS W c n g else shf W i d:=by
 rw [<-zhj (W:=W) (s:=chS W c n g) u0 (by omega) c0 cs hi hd]
 have hl2:g<((chA W c n g).groups.length:Int):=by rw [zpk]; omega
 have hl1:g<((setGr (chA W c n g) g (chU W c n g)).groups.length:Int):=by simp only [setGr,List.length_set]; rw [zpk]; omega
 unfold shf
 show gi (gi (chG W c n g).groups i).shelves d=gi (gi (chA W c n g).groups i).shelves d
 unfold chG setBd
 rw [zex u0 hl1 hi,zex u0 hl2 hi,zex u0 hl2 u0,if_pos rfl]
 split
 ·rename_i e
  subst e
  rfl
 ·rfl
theorem zahm {K S c n:Int} (c0:0<=c) (n0:0<=n) (n1:n<=100):∀(l:List Int) {W:Wld},l.Nodup->SW K W->RB S W->S+100*(l.length:Int)<=100000000000000000->c<(W.cpus.length:Int)->(∀g∈l,zae W.groups g=true)->
  ∀i d:Int,0<=i->0<=d->shf (chL c n l W) i d=if i∈l/\c=d then chS W c n i else shf W i d:=by
 intro l
 induction l generalizing K S with
 | nil=>
  intro W _ _ _ _ _ _ i d _ _
  rw [if_neg (by simp)]; rfl
 | cons g l ih=>
  intro W nd sw rb hS c1 hu i d hi hd
  rw [List.length_cons] at hS
  have hug:=hu g List.mem_cons_self
  obtain ⟨u0,u1,_⟩:=sw.a.u hug
  have hsl:=sw.a.sl hug
  have h1:=z8p sw rb (by omega) c0 c1 hug n0 n1
  obtain ⟨hng,ndl⟩:=List.nodup_cons.1 nd
  have e:=zahl (n:=n) sw.a.gl u0 u1 c0 (by omega)
  rw [z2x,ih ndl h1.sw (h1.rb.mono (show S+n<=S+100 by omega)) (by omega) (by rw [h1.cp]; exact c1) (fun x hx=>by rw [h1.g.usd]; exact hu x (List.mem_cons_of_mem _ hx)) i d hi hd]
  by_cases hil:i∈l
  ·have hgi:g≠i:=fun h=>hng (h▸hil)
   by_cases hcd:c=d
   ·rw [if_pos ⟨hil,hcd⟩,if_pos ⟨List.mem_cons_of_mem _ hil,hcd⟩]
    unfold chS
    rw [e i c hi c0,if_neg fun h=>hgi h.1]
   ·rw [if_neg fun h=>hcd h.2,if_neg fun h=>hcd h.2,e i d hi hd,if_neg fun h=>hcd h.2]
  ·rw [if_neg fun h=>hil h.1,e i d hi hd]
   by_cases hgi:g=i
   ·subst hgi
    by_cases hcd:c=d
    ·rw [if_pos ⟨rfl,hcd⟩,if_pos ⟨List.mem_cons_self,hcd⟩]
    ·rw [if_neg fun h=>hcd h.2,if_neg fun h=>hcd h.2]
   ·rw [if_neg fun h=>hgi h.1,if_neg]
    rintro ⟨hm,_⟩
    rcases List.mem_cons.1 hm with h | h
    ·exact hgi h.symm
    ·exact hil h
theorem zaef {a b w:Int} (ha:0<=a) (hb:0<=b) (h:a+b<=149) (w1:1<=w) (w2:w<=20):zbn (a+b) w=zbn a w+zbn b w/\zbn a w+zbn b w<=zcq w:=by
 have e1:=z69 ha hb (by omega) w1 w2
 have e2:=z69 (a:=a+b) (b:=149 - (a+b)) (w:=w) (by omega) (by omega) (by omega) w1 w2
 rw [show a+b+(149 - (a+b))=149 by omega] at e2
 have:=(zp0 (149 - (a+b)) w).1
 unfold zcq
 omega
structure MidW (V T:Wld) (c t:Int):Prop where
 tk:T.tasks=V.tasks
 g:zb6 V.groups T.groups
 s:∀i:Int,0<=i->(gi T.groups i).shelves=(gi V.groups i).shelves
 cp:∀d:Int,0<=d->gi T.cpus d=if c=d then zdb V c t else gi V.cpus d
 l:T.cpus.length=V.cpus.length
set_option maxHeartbeats 1000000 in
theorem zajl {K S:Int} {V T:Wld} {c t m:Int} (iv:Inv V) (hM:MidW V T c t) (sw:SW K T) (rb:RB S T) (hS:0<=S/\S+500<=100000000000000000) (c0:0<=c) (c1:c<(V.cpus.length:Int)) (up:(gi V.cpus c).up=true) (t0:0<=t) (t1:t<12) (hst:(tkk V t).state=1) (hcp:(tkk V t).cpu=c) (hcur:(zdb V c t).cur=t) (hb:Base V c t (zdb V c t).ran) (m0:1<=m) (m1:m<=100):Pre (chW T c t m):=by
 have wp:=iv.wp
 have p:=zyd wp
 have hht:=z8b p t0 t1 (by rw [hst]; decide)
 have hgl:=wp.a.gl
 have htl:=wp.a.t
 have c1T:c<(T.cpus.length:Int):=by rw [hM.l]; exact c1
 have eTc:gi T.cpus c=zdb V c t:=(hM.cp c c0).trans (if_pos rfl)
 have upT:(gi T.cpus c).up=true:=by rw [eTc]; unfold zdb; split <;> exact up
 have ranT:(gi T.cpus c).ran<50:=by rw [eTc]; exact hb.r1
 have hg:zae V.groups (tkk V t).group=true:=hht.g
 have huT:zae T.groups (tkk T t).group=true:=by rw [hM.g.usd,zd7 hM.tk]; exact hg
 have pT:pthR T t=pthR V t:=z4q hM.tk hM.g t
 obtain ⟨sE,rE,_,_,hlE,_,s1,r1,cp1⟩:=zwc sw rb hS.2 c0 c1T upT ranT t0 t1 huT (by omega) m1
 obtain ⟨pin,plen⟩:=zye sw.a huT
 have hTG:zb6 V.groups (chW T c t m).groups:=hM.g.trans cp1.g
 have shT:∀i d:Int,0<=i->shf T i d=shf V i d:=fun i d hi=>by unfold shf; rw [hM.s i hi]
 have hnd:(pthR T t).Nodup:=by rw [pT]; exact zaiq wp.a.tree _ hg
 have eS:∀i d:Int,0<=i->0<=d->shf (chW T c t m) i d=if i∈pthR V t/\c=d then chS V c m i else shf V i d:=fun i d hi hd=>by
  have e:=zahm c0 (by omega) m1 (pthR T t) hnd s1 r1 (by omega) c1T pin i d hi hd
  have e':shf (chW T c t m) i d=if i∈pthR T t/\c=d then chS T c m i else shf T i d:=e
  rw [e',pT,shT i d hi]
  have:chS T c m i=chS V c m i:=by unfold chS; rw [shT i c hi]
  rw [this]
 have fF:∀i d:Int,0<=i->0<=d->(shf (chW T c t m) i d).floor=(shf V i d).floor:=fun i d hi hd=>by
  rw [eS i d hi hd]; split
  ·rename_i h; rw [<-h.2]; rfl
  ·rfl
 have fO:∀i d:Int,0<=i->0<=d->(shf (chW T c t m) i d).on=(shf V i d).on:=fun i d hi hd=>by
  rw [eS i d hi hd]; split
  ·rename_i h; rw [<-h.2]; rfl
  ·rfl
 have fW:∀i d:Int,0<=i->0<=d->(shf (chW T c t m) i d).w=(shf V i d).w:=fun i d hi hd=>by
  rw [eS i d hi hd]; split
  ·rename_i h; rw [<-h.2]; rfl
  ·rfl
 have fV:∀i d:Int,0<=i->0<=d->¬(i∈zbk V.groups (tkk V t).group/\c=d)->(shf (chW T c t m) i d).v=(shf V i d).v:=fun i d hi hd hn=>by
  rw [eS i d hi hd]; split
  ·rename_i h
   have hz:¬i≠0:=fun hz=>by
    rcases List.mem_append.1 h.1 with h' | h'
    ·exact hn ⟨h',h.2⟩
    ·exact hz (List.mem_singleton.1 h')
   rw [<-h.2]
   show (if i≠0 then _ else _)=_
   rw [if_neg hz]
  ·rfl
 have fP:∀i:Int,i∈zbk V.groups (tkk V t).group->(shf (chW T c t m) i c).v=(shf V i c).v+zbn m (shf V i c).w:=fun i hi=>by
  obtain ⟨iu,iz⟩:=zen wp.a.tree _ hg i hi
  rw [eS i c (zac.1 iu).1 c0,if_pos ⟨List.mem_append_left _ hi,rfl⟩]
  show (if i≠0 then _ else _)=_
  rw [if_pos iz]
 have eK:∀i:Int,0<=i->tkk (chW T c t m) i=if t=i then chT V t m else tkk V i:=fun i hi=>by
  have h1:tkk (chW T c t m) i=gi (T.tasks.set t.toNat (chT T t m)) i:=by
   show gi (chL c m (pthR T t) (setTk T t (chT T t m))).tasks i=_
   rw [cp1.t]; rfl
  have h2:chT T t m=chT V t m:=by unfold chT; rw [zd7 hM.tk]
  rw [h1,za4 _ _ t0 (by rw [hM.tk]; omega) hi,h2]
  split
  ·rfl
  ·exact zd7 hM.tk i
 have eC:∀d:Int,0<=d->gi (chW T c t m).cpus d=if c=d then chC T c m else gi V.cpus d:=fun d hd=>by
  have h1:gi (chW T c t m).cpus d=gi (T.cpus.set c.toNat (chC T c m)) d:=by
   show gi ((chL c m (pthR T t) (setTk T t (chT T t m))).cpus.set c.toNat (chC T c m)) d=_
   rw [cp1.cp]; rfl
  rw [h1,za4 _ _ c0 c1T hd]
  split
  ·rfl
  ·rename_i h
   rw [hM.cp d hd,if_neg h]
 have wn:1<=zai (tkk V t).nice/\zai (tkk V t).nice<=20:=by
  have:=z0o (tkk V t).nice
  have:=hht.n
  omega
 have hv0:∀w:Int,0<=zbn m w:=fun w=>(zp0 m w).1
 have hw20:∀i d:Int,zae V.groups i=true->0<=d->d<(V.cpus.length:Int)->1<=(shf V i d).w/\(shf V i d).w<=20:=fun i d hu d0 d1=>by
  have:=zyl wp hu d0 d1
  exact ⟨this.w1,this.w2⟩
 have vt:=zaef hb.r0 (show 0<=m by omega) (by have:=hb.r1; omega) wn.1 wn.2
 have vp:∀i:Int,i∈zbk V.groups (tkk V t).group->zbn ((zdb V c t).ran+m) (shf V i c).w=zbn (zdb V c t).ran (shf V i c).w+zbn m (shf V i c).w/\zbn (zdb V c t).ran (shf V i c).w+zbn m (shf V i c).w<=zcq (shf V i c).w:=fun i hi=>by
  have h:=hw20 i c (zen wp.a.tree _ hg i hi).1 c0 c1
  exact zaef hb.r0 (show 0<=m by omega) (by have:=hb.r1; omega) h.1 h.2
 have par0:∀i:Int,zae V.groups i=true->i≠0->0<=(gi V.groups i).parent:=fun i hu hz=>(zac.1 (zd4 wp.a.tree hu hz).1).1
 have hstd:∀i:Int,i∈zbk V.groups (tkk V t).group->stnd (chW T c t m) i c:=fun i hi=>by
  obtain ⟨iu,iz⟩:=zen wp.a.tree _ hg i hi
  have i0:=(zac.1 iu).1
  unfold stnd
  rw [hTG.p,fF _ c (par0 i iu iz) c0,fP i hi,fW i c i0 c0]
  have h1:=hb.p1 i hi
  have h2:=hb.p2 i hi
  have h3:=vp i hi
  have:=hv0 (shf V i c).w
  omega
 refine ⟨⟨sE.a,fun i a b => ?_,fun i a b n => ?_,fun k d hk d0 d1 => ?_⟩,fun d d0 d1 => ?_⟩
 ·have hrt:=rE.t i a b
  rw [eK i a] at hrt ⊢
  split
  ·rename_i he
   rw [if_pos he] at hrt
   refine .inr ⟨by show (tkk V t).state≠0; rw [hst]; decide,hht.st,by rw [hTG.usd]; exact hg,hht.n,hht.m,hht.m0,ze9.2 ⟨hrt.1,by omega⟩,ze9.2 ⟨hrt.2.2.1,by omega⟩,hht.l1,hht.l2,fun _ => ?_⟩
   show (shf (chW T c t m) (tkk V t).group (tkk V t).cpu).floor<=(tkk V t).v+zbn m (zai (tkk V t).nice)/\(tkk V t).v+zbn m (zai (tkk V t).nice) - (shf (chW T c t m) (tkk V t).group (tkk V t).cpu).floor<=zcq (zai (tkk V t).nice)
   rw [hcp,fF _ c (zac.1 hg).1 c0]
   have:=hb.t1
   have:=hb.t2
   have:=hv0 (zai (tkk V t).nice)
   omega
  ·rcases p.t i a b with h | ⟨h1,h2⟩
   ·exact .inl h
   ·refine .inr ⟨h1,h2.st,by rw [hTG.usd]; exact h2.g,h2.n,h2.m,h2.m0,h2.s,h2.u,h2.l1,h2.l2,fun hs => ?_⟩
    rw [fF _ _ (zac.1 h2.g).1 (p.l i a b h1).1]
    exact h2.f hs
 ·rw [hlE,hM.l]
  rw [eK i a] at n ⊢
  split
  ·show 0<=(tkk V t).cpu/\(tkk V t).cpu<_
   rw [hcp]; exact ⟨c0,c1⟩
  ·rename_i he
   rw [if_neg he] at n
   exact p.l i a b n
 ·have hrs:=rE.s k d hk d0 d1
  rw [hTG.usd] at hk
  rw [hlE,hM.l] at d1
  have k0:=(zac.1 hk).1
  have hp:=p.s k d hk d0 d1
  refine ⟨ze9.2 ⟨hrs.1,by omega⟩,fun hz => ?_,fun hz ho => ?_⟩
  ·have h:=hp.root hz
   rw [fO k d k0 d0,fW k d k0 d0,fV k d k0 d0 fun h=>(zen wp.a.tree _ hg k h.1).2 hz]
   exact h
  ·rw [fO k d k0 d0] at ho
   by_cases hin:k∈zbk V.groups (tkk V t).group/\c=d
   ·obtain ⟨h1,rfl⟩:=hin
    exact hstd k h1
   ·have h:=hp.st hz ho
    unfold stnd at h ⊢
    rw [hTG.p,fF _ d (par0 k hk hz) d0,fV k d k0 d0 hin,fW k d k0 d0]
    exact h
 ·have hrc:=rE.c d d0 d1
  rw [hlE,hM.l] at d1
  by_cases hd:c=d
  ·subst hd
   have e:=(eC c c0).trans (if_pos rfl)
   have ecur:(gi (chW T c t m).cpus c).cur=t:=by rw [e]; show (gi T.cpus c).cur=t; rw [eTc]; exact hcur
   have eran:(gi (chW T c t m).cpus c).ran=(zdb V c t).ran+m:=by rw [e]; show (gi T.cpus c).ran+m=_; rw [eTc]
   have hr0:=hb.r0
   have hr1:=hb.r1
   refine ⟨ze9.2 ⟨hrc.1,by omega⟩,ze9.2 ⟨hrc.2.2.1,by have:=hrc.2.2.2.1; omega⟩,by omega,by omega,fun h0=>by omega,fun _=>⟨by rw [e]; exact upT,by omega,by omega⟩,fun _ _ _ => ?_⟩
   rw [ecur,eran,eK t t0,if_pos rfl]
   refine ⟨?_,fun x hx => ?_⟩
   ·show (tkk V t).v+zbn m (zai (tkk V t).nice) - (shf (chW T c t m) (tkk V t).group c).floor<=zbn ((zdb V c t).ran+m) (zai (tkk V t).nice)
    rw [fF _ c (zac.1 hg).1 c0,vt.1]
    have:=hb.t1
    omega
   ·have hx:x∈zbk (chW T c t m).groups (tkk V t).group:=hx
    rw [zi3 hTG] at hx
    obtain ⟨xu,xz⟩:=zen wp.a.tree _ hg x hx
    refine ⟨hstd x hx,?_⟩
    rw [hTG.p,fF _ c (par0 x xu xz) c0,fP x hx,fW x c (zac.1 xu).1 c0,(vp x hx).1]
    have:=hb.p1 x hx
    omega
  ·have e:=(eC d d0).trans (if_neg hd)
   have h:=p.c d d0 d1
   refine ⟨by rw [e]; exact h.b,by rw [e]; exact h.i,by rw [e]; exact h.c1,by rw [e]; exact h.c2,by rw [e]; exact h.no,by rw [e]; exact h.yes,?_⟩
   rw [e]
   intro h0 h1 h2
   rw [eK _ h0] at h1 h2 ⊢
   by_cases ht:t=(gi V.cpus d).cur
   ·rw [if_pos ht] at h2
    have h2:(tkk V t).cpu=d:=h2
    exact absurd (hcp.symm.trans h2) hd
   ·rw [if_neg ht] at h1 h2 ⊢
    obtain ⟨q1,q2⟩:=h.q h0 h1 h2
    have hgu:=(z8b p h0 h.c2 (by rw [h1]; decide)).g
    refine ⟨by rw [fF _ d (zac.1 hgu).1 d0]; exact q1,fun x hx => ?_⟩
    rw [zi3 hTG] at hx
    obtain ⟨xu,xz⟩:=zen wp.a.tree _ hgu x hx
    have x0:=(zac.1 xu).1
    have:=q2 x hx
    unfold stnd at this ⊢
    rw [hTG.p,fF _ d (par0 x xu xz) d0,fV x d x0 d0 fun h=>hd h.2,fW x d x0 d0]
    exact this
theorem zai0 (W:Wld) (c n g:Int):Sta W (chG W c n g):=
 ((z60 W g c (chS W c n g)).trans (zadw (W:=chA W c n g) (g:=g) (x:=chU W c n g) rfl rfl rfl rfl rfl)).trans (zadu _ _ _)
theorem zadv (c n:Int):∀(l:List Int) (W:Wld),Sta W (chL c n l W)
 | [],W=>Sta.refl _
 | g::l,W=>(zai0 W c n g).trans (zadv c n l _)
theorem zady (W:Wld) (c g:Int):Sta W (tkG W c g).1:=by
 unfold tkG
 split
 ·exact Sta.refl _
 ·exact zadu _ _ _
theorem zadz (c:Int):∀(l:List Int) (W:Wld),Sta W (tkL c l W).1
 | [],W=>Sta.refl _
 | g::l,W=>by
  simp only [tkL]
  split
  ·exact (zady W c g).trans (zadz c l _)
  ·exact zady W c g
theorem zaf9 (W:Wld) (c t:Int):Sta W (zbu W c t):=z9p (by unfold zdb; split <;> rfl)
theorem zabr (W:Wld) (c t:Int):endC (zdb W c t)=endC (gi W.cpus c):=by unfold zdb; split <;> rfl
theorem zah7 {f:Nat} {c left:Int} {W0 V:Wld} (h:RunI f c W0 V left) (iv:Inv V):Inv (zah (endW (setCp V c (idlC V c left)) c)):=by
 have p:=zyd iv.wp
 have c0:=h.c0
 have c1:=h.c1
 have hK:=zi4 h.f2
 have hh0:(0:Int)<=zbr:=by decide
 have hst:stlB=173430457200:=rfl
 obtain ⟨sE,s1,i3,i4⟩:=z5s h
 have hl:(setCp V c (idlC V c left)).cpus.length=V.cpus.length:=List.length_set
 have hP:Pre (setCp V c (idlC V c left)):=by
  refine ⟨⟨s1.a,fun t t0 t1=>(p.t t t0 t1).imp id fun h=>⟨h.1,h.2.gr rfl⟩,fun t t0 t1 n => ?_,fun k d hk d0 d1 => ?_⟩,fun d d0 d1 => ?_⟩
  ·rw [hl]; exact p.l t t0 t1 n
  ·rw [hl] at d1; exact (p.s k d hk d0 d1).cong rfl fun _=>rfl
  ·rw [hl] at d1
   have hd:=p.c d d0 d1
   have e:gi (setCp V c (idlC V c left)).cpus d=if c=d then idlC V c left else gi V.cpus d:=za4 _ _ c0 c1 d0
   by_cases he:c=d
   ·subst he
    have e:=e.trans (if_pos rfl)
    exact ⟨by rw [e]; exact hd.b,by rw [e]; exact ze9.2 ⟨i3,by show (gi V.cpus c).idle+left<=_; omega⟩,by rw [e]; exact hd.c1,by rw [e]; exact hd.c2,by rw [e]; exact hd.no,by rw [e]; exact hd.yes,by rw [e]; exact hd.q⟩
   ·have e:=e.trans (if_neg he)
    exact ⟨by rw [e]; exact hd.b,by rw [e]; exact hd.i,by rw [e]; exact hd.c1,by rw [e]; exact hd.c2,by rw [e]; exact hd.no,by rw [e]; exact hd.yes,by rw [e]; exact hd.q⟩
 exact zjh sE (by omega) (by omega) (hP.endW c0 (by rw [hl]; exact c1)) (((z9p (W:=V) (c:=c) (x:=idlC V c left) rfl).loc rfl (z53 iv.wp)).endW _)
theorem zaiv {f:Nat} {c left:Int} {W0 V:Wld} (h:RunI (f+1) c W0 V left) (iv:Inv V) (hl:0<left) (hp:¬zaf V c<0):Inv (rndW V c left).1:=by
 have hR:=zrk h hl hp
 have c0:=h.c0
 have c1:=h.c1
 have hK:=zi4 h.f2
 have hSu:=zyf h.f2
 have hh0:(0:Int)<=zbr:=by decide
 have hst:stlB=173430457200:=rfl
 have hlg:lagB=34686091440:=rfl
 have t0:=hR.line.t0
 have t1:=hR.line.t1
 obtain ⟨q1,q2,q3,q4,q5,q6⟩:=zpy h.sw h.rb c0 c1 h.up t0 t1
 have eC:(tkW V c).1.cpus=(zbu V c (zaf V c)).cpus:=hR.tk.o.c
 have lT:(tkW V c).1.cpus.length=V.cpus.length:=by rw [eC]; exact q6
 have cT:c<((tkW V c).1.cpus.length:Int):=by rw [lT]; exact c1
 have rT:RB (runS (f+1)) (tkW V c).1:=hR.r1.sum hR.tk.su hR.tk.o.g (by rw [eC])
 have eT:(tkW V c).1.tasks=V.tasks:=hR.tk.o.t
 have eG:zb6 V.groups (tkW V c).1.groups:=hR.tk.o.g
 have eN:(tkW V c).1.now=V.now:=hR.tk.o.n
 have eSh:∀i:Int,0<=i->(gi (tkW V c).1.groups i).shelves=(gi V.groups i).shelves:=hR.tk.o.s
 have sT:Sta V (tkW V c).1:=(zaf9 V c (zaf V c)).trans (zadz c _ _)
 have lcT:Loc (tkW V c).1:=sT.loc eT (z53 iv.wp)
 have eCp:∀d:Int,0<=d->gi (tkW V c).1.cpus d=if c=d then zdb V c (zaf V c) else gi V.cpus d:=fun d hd=>by
  rw [eC]; exact za4 _ _ c0 c1 hd
 have hRW:rndW V c left=if (tkW V c).2=true then (zah (chW (tkW V c).1 c (zaf V c) (rndM V c left)),left - rndM V c left) else (zah (endW (tkW V c).1 c),left):=rfl
 rw [hRW]
 by_cases gt:(tkW V c).2=true
 ·rw [if_pos gt]
  obtain ⟨m1,m2⟩:=hR.m gt
  obtain ⟨sC,rC⟩:=hR.ch gt
  have hl1:=h.l1
  have hb:=zahh iv c0 c1 hR.line hp
  have es:gi (zbu V c (zaf V c)).cpus c=zdb V c (zaf V c):=(za4 _ _ c0 c1 c0).trans (if_pos rfl)
  rw [es] at hb q5
  have hP:Pre (chW (tkW V c).1 c (zaf V c) (rndM V c left)):=zajl iv ⟨eT,eG,eSh,eCp,lT⟩ hR.tk.sw rT ⟨by omega,by omega⟩ c0 c1 h.up t0 t1 hR.line.st hR.line.cpu q5 hb m1 (by omega)
  refine zjh sC (by omega) (by omega) hP ?_
  have uT:zae (tkW V c).1.groups (tkk (tkW V c).1 (zaf V c)).group=true:=by rw [eG.usd,zd7 eT]; exact hR.us
  have upT:(gi (tkW V c).1.cpus c).up=true:=by rw [eC]; exact q3
  have ranT:(gi (tkW V c).1.cpus c).ran<50:=by rw [eC]; exact hR.ran
  have cp1:=(zwc (t:=zaf V c) (n:=rndM V c left) hR.tk.sw rT (by omega) c0 cT upT ranT t0 t1 uT (by omega) (by omega)).2.2.2.2.2.2.2.2
  have l1:Loc (setTk (tkW V c).1 (zaf V c) (chT (tkW V c).1 (zaf V c) (rndM V c left))):=lcT.setTk hR.tk.sw.a t0 t1 fun n=>lcT _ t0 t1 n
  have l2:=(zadv c (rndM V c left) (pthR (tkW V c).1 (zaf V c)) (setTk (tkW V c).1 (zaf V c) (chT (tkW V c).1 (zaf V c) (rndM V c left)))).loc cp1.t l1
  refine Sta.loc (z9p ?_) rfl l2
  show (gi (tkW V c).1.cpus c).up=(gi (chL c (rndM V c left) (pthR (tkW V c).1 (zaf V c)) (setTk (tkW V c).1 (zaf V c) (chT (tkW V c).1 (zaf V c) (rndM V c left)))).cpus c).up
  rw [cp1.cp]; rfl
 ·rw [if_neg gt]
  have hE:endW (tkW V c).1 c=endW { (tkW V c).1 with cpus:=V.cpus } c:=by
   have e1:=(eCp c c0).trans (if_pos rfl)
   show ({ (tkW V c).1 with cpus:=(tkW V c).1.cpus.set c.toNat (endC (gi (tkW V c).1.cpus c)) }:Wld)={ (tkW V c).1 with cpus:=V.cpus.set c.toNat (endC (gi V.cpus c)) }
   rw [e1,zabr,eC]
   show ({ (tkW V c).1 with cpus:=(V.cpus.set c.toNat (zdb V c (zaf V c))).set c.toNat (endC (gi V.cpus c)) }:Wld)=_
   rw [List.set_set]
  have ha:WA ({ (tkW V c).1 with cpus:=V.cpus }:Wld):=hR.tk.sw.a.cp lT.symm iv.wp.a.ups
  have p2:Pre ({ (tkW V c).1 with cpus:=V.cpus }:Wld):=(zyd iv.wp).onlyB ⟨eN,rfl,eT,eG,eSh⟩ ha
  have hloc:=lcT.endW c
  have sE:=hR.tk.sw.endW c0 cT
  rw [hE] at hloc sE ⊢
  exact zjh sE (by omega) (by omega) (p2.endW c0 c1) hloc
theorem z9h {c:Int} {W0:Wld}:∀(f:Nat) {V:Wld} {left:Int},RunI f c W0 V left->Inv V->Inv (runN c f V left)
 | 0,V,left,h,_=>by
  have:=h.f1
  have:=h.l0
  omega
 | f+1,V,left,h,iv=>by
  have hK:=zi4 h.f2
  have hh0:(0:Int)<=zbr:=by decide
  have hst:stlB=173430457200:=rfl
  by_cases hl:left<=0
  ·rw [zl4 hl]
   exact zjh h.sw (by omega) (by omega) (zyd iv.wp) (z53 iv.wp)
  ·by_cases hp:zaf V c<0
   ·rw [zli hl hp]
    exact zah7 h iv
   ·rw [zj6 hl hp]
    have hR:=zrk h (by omega) hp
    exact z9h f hR.nx (zaiv h iv (by omega) hp)
theorem zaia {W:Wld} {c n:Int} (iv:Inv W) (hb:runB W c n=0):Inv (runW W c n):=z9h 400 (zyh (zbp.2 iv.wp) hb).2.2.2.2 iv
def NoQ (W:Wld):Prop:=∀i:Int,0<=i->i<8->(gi W.groups i).band.quota=0
theorem zw4 {W:Wld} (hl:W.groups.length=8) (h:NoQ W):∀k:Nat,k<=8->zdm W k=W
 | 0,_=>rfl
 | k+1,hk=>by
  have ih:=zw4 hl h k (by omega)
  simp only [zdm]
  rw [ih,if_neg]
  rintro ⟨_,hq⟩
  exact hq (h (k:Int) (by omega) (by omega))
theorem NoQ.b {W W':Wld} (h:NoQ W) (hb:∀i:Int,0<=i->(gi W'.groups i).band.quota=(gi W.groups i).band.quota):NoQ W':=fun i a b=>(hb i a).trans (h i a b)
theorem zahv {W:Wld} (h:NoQ W) {k c:Int} (k0:0<=k) (k1:k<8):dryD W k c=false:=by
 unfold dryD
 rw [h k k0 k1]
 rfl
theorem z7c {p:Nat->Bool} {j:Nat}:∀{n:Nat},j<n->p j=true->anyB p n=true
 | 0,h,_=>absurd h (Nat.not_lt_zero j)
 | n+1,h,hp=>by
  simp only [anyB]
  by_cases e:j=n
  ·subst e; rw [hp]; simp
  ·rw [z7c (by omega) hp]; simp
theorem zaj9 {V:Wld} (ha:WA V) (hq:NoQ V) {c:Int} (hon:∀k:Int,zae V.groups k=true->k≠0->onEq V c k):∀g:Int,zae V.groups g=true->za5 V g c=true->∀x∈zbk V.groups g,(shf V x c).on=true:=
 zob ha.tree (fun _ x hx=>by rw [show zbk V.groups 0=[] from zbm _ _] at hx; cases hx) fun g hu hz ih hact x hx=>by
  have hgl:=ha.gl
  obtain ⟨u0,u1,ut⟩:=zac.1 hu
  have ho:(shf V g c).on=true:=by
   have:=hon g hu hz
   unfold onEq at this
   rw [this,hact,zahv hq u0 (by omega)]; rfl
  rw [zcf ha.tree hu hz] at hx
  rcases List.mem_cons.1 hx with e | e
  ·rw [e]; exact ho
  ·refine ih ?_ x e
   have hb:=(z0s ha hu hz ho).1
   have e2:actG V (gi V.groups g).parent c g.toNat=true:=by
    unfold actG
    rw [show ((g.toNat:Nat):Int)=g by omega,ut,ho,decide_eq_true (show 1<=g.toNat by omega)]
    simp
   unfold za5
   rw [Bool.or_eq_true]
   exact .inr (z7c (j:=g.toNat) (by omega) e2)
theorem zafp {V:Wld} (ha:WA V) (hq:NoQ V) {c t:Int} (t0:0<=t) (t1:t<12) (hs:(tkk V t).state=1) (hc:(tkk V t).cpu=c) (hu:zae V.groups (tkk V t).group=true) (hon:∀k:Int,zae V.groups k=true->k≠0->onEq V c k):ze3 V t=true:=by
 have hl:=ha.t
 have hact:za5 V (tkk V t).group c=true:=by
  have e2:actT V (tkk V t).group c t.toNat=true:=by
   unfold actT
   rw [show ((t.toNat:Nat):Int)=t by omega]
   show ((((tkk V t).state==1)&&((tkk V t).group==(tkk V t).group))&&((tkk V t).cpu==c))=true
   rw [hs,hc]; simp
  unfold za5
  rw [Bool.or_eq_true]
  exact .inl (z7c (j:=t.toNat) (by omega) e2)
 unfold ze3 zk7
 rw [hs,hc,List.all_eq_true.2 fun x hx=>zaj9 ha hq hon _ hu hact x hx]
 rfl
theorem zad0 {K:Int} {W:Wld} (sw:SW K W) (hq:NoQ W) {c t:Int} (c0:0<=c) (c1:c<(W.cpus.length:Int)) (t0:0<=t) (t1:t<12) (hcu:(gi W.cpus c).cur=t) (hs:(tkk W t).state=1) (hc:(tkk W t).cpu=c):(gi (zhl W c).cpus c).cur=t:=by
 obtain ⟨p1,os,hon⟩:=z52 sw.a c0 c1
 obtain ⟨f,hA,_⟩:=zqq p1 c0 (c:=c) (by rw [os.c]; exact c1) 8 (Nat.le_refl _)
 have f:FC c (zat W c) (za7 (zat W c) c):=f
 have hu:=(sw.t t t0 t1 (by rw [hs]; decide)).1
 have hT:=f.o.g
 have hbq:∀i:Int,0<=i->(gi (za7 (zat W c) c).groups i).band.quota=(gi W.groups i).band.quota:=fun i hi=>by rw [f.o.b i hi,os.b i hi]
 have honF:∀k:Int,zae (za7 (zat W c) c).groups k=true->k≠0->onEq (za7 (zat W c) c) c k:=fun k hu hz=>by
  rw [hT.usd] at hu
  have k0:=(zac.1 hu).1
  have:=hon k (by rwa [os.g.usd] at hu) hz
  unfold onEq at this ⊢
  rw [f.on k c k0 c0,zho f.o.t hT fun j _ _ _ _=>f.on _ c (by omega) c0,z5g (f.o.b k k0)]
  exact this
 have ht:∀i:Int,tkk (za7 (zat W c) c) i=tkk W i:=fun i=>by rw [zd7 f.o.t,zd7 os.t]
 have hcp:(za7 (zat W c) c).cpus=W.cpus:=by rw [f.cs,os.c]
 have hA:WA (za7 (zat W c) c):=hA
 have hl:=zafp hA (hq.b hbq) t0 t1 (by rw [ht]; exact hs) (by rw [ht]; exact hc) (by rw [hT.usd,os.g.usd,ht]; exact hu) honF
 unfold zhl
 rw [if_neg]
 ·rw [hcp]; exact hcu
 ·unfold zoq
  rw [hcp,hcu,ht,hc,hl]
  simp
theorem z1j {K:Int} {W:Wld} (sw:SW K W) (hK:0<=K) (hq:NoQ W) {c t:Int} (c0:0<=c) (c1:c<(W.cpus.length:Int)) (t0:0<=t) (t1:t<12) (hcu:(gi W.cpus c).cur=t) (hs:(tkk W t).state=1) (hc:(tkk W t).cpu=c):(gi (zah W).cpus c).cur=t:=by
 obtain ⟨s1,o1⟩:=zhe (F:=K) (K:=K+lagB) (sw.sf.mono (Int.le_refl _) (by simp only [lagB]; omega)) (Int.le_refl _) W.cpus.length (Nat.le_refl _)
 have hq1:NoQ (zbq W W.cpus.length):=hq.b fun i hi=>by rw [o1.b i hi]
 have hg:zop (zbq W W.cpus.length)=zbq W W.cpus.length:=zw4 s1.w.a.gl hq1 8 (Nat.le_refl _)
 show (gi (zeo (zop (zbq W W.cpus.length)) W.cpus.length).cpus c).cur=t
 rw [hg]
 have hcu1:(gi (zbq W W.cpus.length).cpus c).cur=t:=by rw [o1.c]; exact hcu
 have hs1:(tkk (zbq W W.cpus.length) t).state=1:=by rw [zd7 o1.t]; exact hs
 have hc1:(tkk (zbq W W.cpus.length) t).cpu=c:=by rw [zd7 o1.t]; exact hc
 have hl1:(zbq W W.cpus.length).cpus.length=W.cpus.length:=by rw [o1.c]
 have s1:=s1.w
 generalize zbq W W.cpus.length=V at s1 hq1 hcu1 hs1 hc1 hl1
 have key:∀k:Nat,k<=V.cpus.length->(gi (zeo V k).cpus c).cur=t/\NoQ (zeo V k):=by
  intro k
  induction k with
  | zero=>exact fun _=>⟨hcu1,hq1⟩
  | succ k ih=>
   intro hk
   obtain ⟨a,b⟩:=ih (by omega)
   obtain ⟨sk,fk⟩:=zl7 s1 (by simp only [lagB]; omega) k (by omega)
   have hk2:(k:Int)<((zeo V k).cpus.length:Int):=by rw [fk.c]; omega
   obtain ⟨o,_⟩:=z4r sk (c:=(k:Int)) (by omega) hk2
   refine ⟨?_,b.b fun i hi=>by rw [show zeo V (k+1)=zhl (zeo V k) (k:Int) from rfl,o.b i hi]⟩
   show (gi (zhl (zeo V k) (k:Int)).cpus c).cur=t
   by_cases e:c=(k:Int)
   ·subst e
    exact zad0 sk b (by omega) hk2 t0 t1 a (by rw [zd7 fk.t]; exact hs1) (by rw [zd7 fk.t]; exact hc1)
   ·rw [o.cp c c0 e]; exact a
 exact (key W.cpus.length (by omega)).1
theorem zlj {K:Int} {W:Wld} (sw:SW K W) (hK:0<=K) (hq:NoQ W):NoQ (zah W):=by
 obtain ⟨s1,o1⟩:=zhe (F:=K) (K:=K+lagB) (sw.sf.mono (Int.le_refl _) (by simp only [lagB]; omega)) (Int.le_refl _) W.cpus.length (Nat.le_refl _)
 have hq1:NoQ (zbq W W.cpus.length):=hq.b fun i hi=>by rw [o1.b i hi]
 have hg:zop (zbq W W.cpus.length)=zbq W W.cpus.length:=zw4 s1.w.a.gl hq1 8 (Nat.le_refl _)
 have hl1:(zbq W W.cpus.length).cpus.length=W.cpus.length:=by rw [o1.c]
 refine hq1.b fun i hi => ?_
 show (gi (zeo (zop (zbq W W.cpus.length)) W.cpus.length).groups i).band.quota=_
 rw [hg,zv8 s1.w (by simp only [lagB]; omega) i hi W.cpus.length (by omega)]
theorem z7g (b:Bnd) (op:QOp):(zdd b op).1.quota=b.quota:=by
 unfold zdd
 split
 ·rfl
 ·split
  ·rfl
  ·split
   ·unfold zdc; split <;> rfl
   ·split
    ·unfold zfn; split <;> rfl
    ·split <;> rfl
theorem zabk (W:Wld) (c n g i:Int):(gi (chG W c n g).groups i).band.quota=(gi W.groups i).band.quota:=by
 have e1:∀i:Int,(gi (chA W c n g).groups i).band.quota=(gi W.groups i).band.quota:=fun i=>zb8 (f:=fun G:Grp=>G.band.quota) W.groups g (x:={ gi W.groups g with shelves:=(gi W.groups g).shelves.set c.toNat (chS W c n g) }) rfl i
 have e2:∀i:Int,(gi (setGr (chA W c n g) g (chU W c n g)).groups i).band.quota=(gi W.groups i).band.quota:=fun i=>(zb8 (f:=fun G:Grp=>G.band.quota) (chA W c n g).groups g (x:=chU W c n g) rfl i).trans (e1 i)
 have e3:(chB W c n g).quota=(gi W.groups g).band.quota:=by
  unfold chB
  split
  ·exact z7g _ _
  ·rfl
 exact (zb8 (f:=fun G:Grp=>G.band.quota) (setGr (chA W c n g) g (chU W c n g)).groups g (x:={ gi (setGr (chA W c n g) g (chU W c n g)).groups g with band:=chB W c n g }) (e3.trans (e2 g).symm) i).trans (e2 i)
theorem zwb (c n:Int):∀(l:List Int) (W:Wld) (i:Int),(gi (chL c n l W).groups i).band.quota=(gi W.groups i).band.quota
 | [],_,_=>rfl
 | g::l,W,i=>(zwb c n l (chG W c n g) i).trans (zabk W c n g i)
theorem zad8 {c:Int}:∀(l:List Int) {W:Wld},NoQ W->(∀g∈l,0<=g/\g<8)->tkL c l W=(W,true)
 | [],_,_,_=>rfl
 | g::l,W,hq,hl=>by
  have h:=hl g List.mem_cons_self
  have hT:tkG W c g=(W,true):=by unfold tkG; rw [if_pos (hq g h.1 h.2)]
  rw [zrp,hT,if_pos rfl]
  exact zad8 l hq fun x hx=>hl x (List.mem_cons_of_mem _ hx)
theorem z9a {W:Wld} (hq:NoQ W) {c:Int}:∀(l:List Int) (n:Int),(∀g∈l,0<=g/\g<8)->mstL W c l n=n
 | [],_,_=>rfl
 | g::l,n,hl=>by
  have h:=hl g List.mem_cons_self
  have e:mstG W c g n=n:=by unfold mstG; rw [if_neg (by rw [hq g h.1 h.2]; decide)]
  show mstL W c l (mstG W c g n)=n
  rw [e]
  exact z9a hq l n fun x hx=>hl x (List.mem_cons_of_mem _ hx)
theorem z8c {f:Nat} {c left:Int} {W0 V:Wld} (h:RunI (f+1) c W0 V left) (hq:NoQ V) (hl:0<left) (hp:¬zaf V c<0):tkW V c=(zbu V c (zaf V c),true)/\rndM V c left=left/\rndW V c left=(zah (chW (zbu V c (zaf V c)) c (zaf V c) left),0)/\NoQ (rndW V c left).1:=by
 have hR:=zrk h hl hp
 have hgl:=h.sw.a.gl
 have hin:∀g∈pthR V (zaf V c),0<=g/\g<8:=fun g hg=>by
  have:=zac.1 (hR.pin g hg)
  omega
 have hqS:NoQ (zbu V c (zaf V c)):=hq
 have e1:tkW V c=(zbu V c (zaf V c),true):=zad8 _ hqS hin
 have e2:rndM V c left=left:=by
  unfold rndM
  rw [e1]
  exact z9a hqS _ _ hin
 have e3:rndW V c left=(zah (chW (zbu V c (zaf V c)) c (zaf V c) left),0):=by
  unfold rndW
  rw [e1,if_pos rfl,e2]
  simp
 refine ⟨e1,e2,e3,?_⟩
 have hch:=(hR.ch (by rw [e1])).1
 rw [e1,e2] at hch
 have hKn:0<=runK (f+1)+5*lagB:=by
  have h1:=zi4 h.f2
  have hh0:(0:Int)<=zbr:=by decide
  simp only [lagB]; omega
 rw [e3]
 refine zlj hch hKn (hqS.b fun i _ => ?_)
 exact zwb c left _ _ i
theorem z9j {c:Int} {W0:Wld}:∀(f:Nat) {V:Wld} {left:Int},RunI f c W0 V left->NoQ V->NoQ (runN c f V left)
 | 0,V,left,h,_=>by
  have:=h.f1
  have:=h.l0
  omega
 | f+1,V,left,h,hq=>by
  have hK:=zi4 h.f2
  have hh0:(0:Int)<=zbr:=by decide
  by_cases hl:left<=0
  ·rw [zl4 hl]
   exact zlj h.sw (by omega) hq
  ·by_cases hp:zaf V c<0
   ·rw [zli hl hp]
    exact zlj (z5s h).1 (by omega) hq
   ·rw [zj6 hl hp]
    exact z9j f (zrk h (by omega) hp).nx (z8c h hq (by omega) hp).2.2.2
theorem zaip {W:Wld} {c n:Int} (hW:zbi W=true) (hq:NoQ W) (hb:runB W c n=0):NoQ (runW W c n):=z9j 400 (zyh hW hb).2.2.2.2 hq
theorem zagb {W:Wld} {c n:Int} (hW:zbi W=true) (hq:NoQ W) (hb:runB W c n=0) (h0:0<=(gi W.cpus c).cur) (h50:(gi W.cpus c).ran<50):(gi (runW W c n).cpus c).cur=(gi W.cpus c).cur:=by
 obtain ⟨hn,_,_,_,hI⟩:=zyh hW hb
 have hn:=za6.1 hn
 have hpk:zaf W c=(gi W.cpus c).cur:=by unfold zaf; rw [if_pos ⟨h0,h50⟩]
 have hp:¬zaf W c<0:=by rw [hpk]; omega
 have hR:=zrk hI (by omega) hp
 obtain ⟨e1,e2,e3,hq2⟩:=z8c hI hq (by omega) hp
 have hK:=zi4 hI.f2
 have hh0:(0:Int)<=zbr:=by decide
 show (gi (runN c 400 W n).cpus c).cur=_
 rw [zj6 (by omega) hp,e3]
 rw [e3] at hq2
 have hnx:=hR.nx
 rw [e3] at hnx
 rw [zl4 (f:=398) (Int.le_refl 0)]
 have hS:zbu W c (zaf W c)=W:=by
  unfold zbu zdb setCp
  rw [if_neg,zyk hI.c0 hI.c1]
  rintro (h | h)
  ·exact h hpk
  ·omega
 have hch:=(hR.ch (by rw [e1])).1
 rw [e1,e2,hS] at hch
 have hKn:0<=runK (399+1)+5*lagB:=by
  have h1:=zi4 (f:=399+1) (by decide)
  simp only [lagB]; omega
 rw [hS] at hnx hq2 ⊢
 have t0:=hR.line.t0
 have t1:=hR.line.t1
 have hcs:=hI.sw.a.t
 have hx:=zwc (t:=zaf W c) (n:=n) hI.sw hI.rb (by have:=zyf hI.f2; omega) hI.c0 hI.c1 hI.up h50 t0 t1 hR.us (by omega) (by omega)
 have eT:tkk (chW W c (zaf W c) n) (zaf W c)=chT W (zaf W c) n:=by
  show gi (chL c n (pthR W (zaf W c)) (setTk W (zaf W c) (chT W (zaf W c) n))).tasks (zaf W c)=_
  rw [hx.2.2.2.2.2.2.2.2.t]
  exact zahd t0 (by omega)
 have eC:(gi (chW W c (zaf W c) n).cpus c).cur=zaf W c:=by
  show (gi ((chL c n (pthR W (zaf W c)) (setTk W (zaf W c) (chT W (zaf W c) n))).cpus.set c.toNat (chC W c n)) c).cur=_
  rw [hx.2.2.2.2.2.2.2.2.cp]
  rw [show gi ((setTk W (zaf W c) (chT W (zaf W c) n)).cpus.set c.toNat (chC W c n)) c=chC W c n from (za4 _ _ hI.c0 hI.c1 hI.c0).trans (if_pos rfl)]
  exact hpk.symm
 have hqC:NoQ (chW W c (zaf W c) n):=hq.b fun i _=>zwb c n _ _ i
 have c1C:c<((chW W c (zaf W c) n).cpus.length:Int):=by rw [hx.2.2.2.2.1]; exact hI.c1
 have r1:=z1j hch hKn hqC hI.c0 c1C t0 t1 eC (by rw [eT]; exact hR.line.st) (by rw [eT]; exact hR.line.cpu)
 have fr:=(zgq hch hKn).2
 have hK2:=zi4 hnx.f2
 have r2:=z1j hnx.sw (by omega) hq2 hI.c0 (by have:=hnx.c1; exact this) t0 t1 r1 (by rw [zd7 fr.t,eT]; exact hR.line.st) (by rw [zd7 fr.t,eT]; exact hR.line.cpu)
 rw [r2]
 exact hpk
def newS:Shf:=⟨0,false,0,10,0⟩
def newG (n:Nat) (p:Int) (name:ByteArray):Grp:=⟨true,p,name,10,15,0,0,0,⟨0,0,0,[],[]⟩,List.replicate n newS⟩
def zGrp:Grp:=⟨false,0,⟨[].toArray⟩,0,0,0,0,0,⟨0,0,0,[],[]⟩,[]⟩
def newW (n:Nat):Wld:=⟨0,List.replicate n ⟨true,-1,0,0,0⟩,List.replicate 12 zn6,(List.replicate 8 zGrp).set 0 (newG n (-1) ⟨[].toArray⟩)⟩
section
variable {n:Nat}
theorem znl (k:Int) (k0:0<=k) (k1:k<8):gi (newW n).groups k=if k=0 then newG n (-1) ⟨[].toArray⟩ else zGrp:=by
 have:=za4 (List.replicate 8 zGrp) (newG n (-1) ⟨[].toArray⟩) (i:=0) (j:=k) (Int.le_refl _) (by decide) k0
 show gi ((List.replicate 8 zGrp).set (0:Int).toNat _) k=_
 rw [this]
 by_cases h:k=0
 ·rw [if_pos h.symm,if_pos h]
 ·rw [if_neg fun e=>h e.symm,if_neg h,z00 _ _ k0 (by omega)]
theorem z9b:(newW n).groups.length=8:=by simp [newW]
theorem z09 (c:Int) (c0:0<=c) (c1:c<(n:Int)):gi (newW n).cpus c=⟨true,-1,0,0,0⟩:=z00 _ _ c0 c1
theorem z6f (t:Int) (t0:0<=t) (t1:t<12):tkk (newW n) t=zn6:=z00 12 _ t0 (by omega)
theorem zacz (k:Int):zae (newW n).groups k=true↔k=0:=by
 rw [zac,z9b]
 constructor
 ·rintro ⟨a,b,d⟩
  rw [znl k a b] at d
  split at d
  ·assumption
  ·cases d
 ·intro h
  subst h
  refine ⟨Int.le_refl _,by decide,?_⟩
  rw [znl 0 (Int.le_refl _) (by decide),if_pos rfl]; rfl
theorem zacx (c:Int) (c0:0<=c) (c1:c<(n:Int)):shf (newW n) 0 c=newS:=by
 unfold shf
 rw [znl 0 (Int.le_refl _) (by decide),if_pos rfl]
 exact z00 _ _ c0 c1
theorem zacy:zeb (newW n).groups:=by
 have g0:gi (newW n).groups 0=newG n (-1) ⟨[].toArray⟩:=by rw [znl 0 (Int.le_refl _) (by decide),if_pos rfl]
 have un:∀g:Int,1<=g->g<8->(gi (newW n).groups g).used=true->False:=fun g a b h=>by
  rw [znl g (by omega) b,if_neg (by omega)] at h; cases h
 exact ⟨z9b,by rw [g0]; rfl,by rw [g0]; rfl,by rw [g0]; rfl,fun g a b h=>(un g a b h).elim,fun g a b h=>(un g a b h).elim,fun g a b h=>(un g a b h).elim,fun g k a b d h=>(un g (by omega) d h).elim⟩
theorem zaio (n0:1<=n) (n1:n<=4):WA (newW n):=by
 have hcl:(newW n).cpus.length=n:=by simp [newW]
 refine ⟨Int.le_refl _,by show (0:Int)<=_; decide,by omega,by omega,by simp [newW],zacy,z68 (c:=0) (by omega) (Int.le_refl _) (by omega) (by rw [z09 0 (Int.le_refl _) (by omega)]),fun k k0 k1 => ?_⟩
 unfold GrpP
 rw [znl k k0 k1]
 split
 ·refine ⟨fun h=>(by cases h),fun _=>⟨show (1:Int)<=10 by decide,show (10:Int)<=20 by decide,show mOk 15=true by decide,show (15:Int)≠0 by decide,show tmOk 0=true by decide,by simp [newG,hcl],fun _=>⟨rfl,rfl,rfl⟩,fun _=>⟨show zpa ⟨0,0,0,[],[]⟩=true by decide,rfl,rfl⟩,fun h=>absurd rfl h⟩⟩
 ·exact ⟨fun _=>⟨rfl,rfl,rfl,rfl,rfl,rfl,rfl,rfl,by decide⟩,fun h=>by cases h⟩
theorem zacc (n0:1<=n) (n1:n<=4):Inv (newW n):=by
 have ha:=zaio n0 n1
 have hcl:(newW n).cpus.length=n:=by simp [newW]
 have hmt:∀(k c:Int) (j:Nat),j<12->actT (newW n) k c j=false:=fun k c j hj=>by
  unfold actT
  rw [show gi (newW n).tasks (j:Int)=zn6 from z6f (j:Int) (by omega) (by omega)]
  rfl
 have hmg:∀(k c:Int) (j:Nat),j<8->actG (newW n) k c j=false:=fun k c j hj=>by
  unfold actG
  rw [znl (j:Int) (by omega) (by omega)]
  by_cases h:(j:Int)=0
  ·rw [show decide (1<=j)=false from decide_eq_false (by omega)]; rfl
  ·rw [if_neg h]
   simp [zGrp]
 refine ⟨⟨ha,fun t t0 t1=>.inl ?_,fun k c k0 k1 c0 c1 => ?_,fun c c0 c1 => ?_⟩,fun k c hu c0 c1 hb => ?_⟩
 ·rw [z6f t t0 t1]; exact ⟨rfl,rfl⟩
 ·by_cases hk:k=0
  ·subst hk
   rw [znl 0 k0 k1,if_pos rfl] at c1
   have c1:c<(n:Int):=by simpa [newG] using c1
   have e:=zacx c c0 c1
   refine ⟨?_,?_,?_,?_,?_,fun _ => ?_,fun h=>absurd rfl h,fun h=>absurd rfl h⟩ <;> rw [e]
   ·decide
   ·decide
   ·decide
   ·decide
   ·decide
   ·exact ⟨rfl,rfl,rfl⟩
  ·rw [znl k k0 k1,if_neg hk] at c1
   have c1:c<0:=c1
   omega
 ·rw [hcl] at c1
  have e:=z09 c c0 c1
  refine ⟨by rw [e]; decide,by rw [e]; decide,by rw [e]; decide,by rw [e]; show (-1:Int)<((newW n).tasks.length:Int); simp [newW],fun _=>by rw [e],fun h => ?_⟩
  rw [e] at h
  have h:(0:Int)<=-1:=h
  omega
 ·unfold zc4 at hb
  have hb:=of_decide_eq_true hb
  rcases zbz (memP (newW n) k c) (memV (newW n) c) 20 with ⟨a,_⟩ | ⟨_,h2,h3,_⟩
  ·rw [a] at hb; omega
  ·exfalso
   have hlt:(zbb (memP (newW n) k c) (memV (newW n) c) 20).toNat<20:=by omega
   generalize (zbb (memP (newW n) k c) (memV (newW n) c) 20).toNat=j at h3 hlt
   by_cases hj:j<12
   ·rw [zim hj,hmt k c j hj] at h3; cases h3
   ·rw [show j=12+(j - 12) by omega,zil,hmg k c (j - 12) (by omega)] at h3; cases h3
end
theorem z8t {gs:List Grp} (ht:zeb gs):∀(f:Nat) (h:Int),zae gs h=true->dep 3 gs h<=(f:Int)->dep f gs h=dep 3 gs h
 | 0,h,hu,hd=>by
  by_cases hz:h=0
  ·subst hz; rw [zcv,zcv]
  ·obtain ⟨_,_,_,d,e,_⟩:=zd4 ht hu hz
   omega
 | f+1,h,hu,hd=>by
  by_cases hz:h=0
  ·subst hz; rw [zcv,zcv]
  ·obtain ⟨hp,_,_,d,e,e2,_⟩:=zd4 ht hu hz
   have ih:=z8t ht f _ hp (by omega)
   show (if h=0 then 0 else if dep f gs (gi gs h).parent<0 then -1 else dep f gs (gi gs h).parent+1)=_
   rw [if_neg hz,ih,e2,if_neg (by omega),e]
structure MkW (W:Wld) (a p:Int) (name:ByteArray):Prop where
 a1:1<=a
 a8:a<8
 fr:(gi W.groups a).used=false
 up:zae W.groups p=true
 nm:zin name=true
 no:∀h:Int,1<=h->h<8->(gi W.groups h).used=true->¬((gi W.groups h).parent=p/\(gi W.groups h).name=name)
 dp:dep 3 W.groups p≠3
def mkW (W:Wld) (a p:Int) (name:ByteArray):Wld:=setGr W a (newG W.cpus.length p name)
section
variable {W:Wld} {a p:Int} {name:ByteArray}
theorem z59 (ha:WA W) (h:MkW W a p name) {i:Int} (hi:0<=i):gi (mkW W a p name).groups i=if a=i then newG W.cpus.length p name else gi W.groups i:=zex (by have:=h.a1; omega) (by have:=ha.gl; have:=h.a8; omega) hi
theorem zaim (h:MkW W a p name) {k:Int} (hu:zae W.groups k=true):a≠k:=fun e=>by
 have:=(zac.1 hu).2.2
 rw [<-e,h.fr] at this
 cases this
theorem ztk (ha:WA W) (h:MkW W a p name) {k:Int} (hu:zae W.groups k=true):gi (mkW W a p name).groups k=gi W.groups k:=by
 rw [z59 ha h (zac.1 hu).1,if_neg (zaim h hu)]
theorem zq6 (ha:WA W) (h:MkW W a p name):gi (mkW W a p name).groups a=newG W.cpus.length p name:=by
 rw [z59 ha h (by have:=h.a1; omega),if_pos rfl]
theorem z89 (ha:WA W):(mkW W a p name).groups.length=8:=by
 have:=ha.gl
 simp [mkW,setGr]; omega
theorem zl0 (ha:WA W) (h:MkW W a p name) {k:Int}:zae (mkW W a p name).groups k=true↔zae W.groups k=true\/k=a:=by
 have hgl:=ha.gl
 have a1:=h.a1
 have a8:=h.a8
 rw [zac,zac,z89 ha,hgl]
 constructor
 ·rintro ⟨x,y,z⟩
  rw [z59 ha h x] at z
  by_cases e:a=k
  ·exact .inr e.symm
  ·rw [if_neg e] at z
   exact .inl ⟨x,y,z⟩
 ·rintro (⟨x,y,z⟩ | rfl)
  ·refine ⟨x,y,?_⟩
   rw [z59 ha h x,if_neg fun e=>by rw [<-e,h.fr] at z; cases z]
   exact z
  ·refine ⟨by omega,by omega,?_⟩
   rw [zq6 ha h]; rfl
theorem zacw (ha:WA W) (h:MkW W a p name):∀(f:Nat) (k:Int),zae W.groups k=true->dep f (mkW W a p name).groups k=dep f W.groups k
 | 0,_,_=>rfl
 | f+1,k,hu=>by
  by_cases hz:k=0
  ·subst hz; rw [zcv,zcv]
  ·have ih:=zacw ha h f _ (zd4 ha.tree hu hz).1
   simp only [dep]
   rw [ztk ha h hu,ih]
theorem z75 (ha:WA W) (h:MkW W a p name):∀(f:Nat) (k:Int),zae W.groups k=true->zl2 f (mkW W a p name).groups k=zl2 f W.groups k
 | 0,_,_=>rfl
 | f+1,k,hu=>by
  by_cases hz:k=0
  ·subst hz; rw [zbm,zbm]
  ·have ih:=z75 ha h f _ (zd4 ha.tree hu hz).1
   simp only [zl2]
   rw [ztk ha h hu,ih]
theorem zakz (ha:WA W) (h:MkW W a p name):dep 3 (mkW W a p name).groups a=dep 3 W.groups p+1/\0<=dep 3 W.groups p:=by
 have hr:=zqh ha h.up
 have hd:=h.dp
 have e:=z8t ha.tree 2 p h.up (by omega)
 refine ⟨?_,hr.1⟩
 show (if a=0 then 0 else if dep 2 (mkW W a p name).groups (gi (mkW W a p name).groups a).parent<0 then -1 else dep 2 (mkW W a p name).groups (gi (mkW W a p name).groups a).parent+1)=_
 rw [if_neg (by have:=h.a1; omega),zq6 ha h]
 show (if dep 2 (mkW W a p name).groups p<0 then -1 else dep 2 (mkW W a p name).groups p+1)=_
 rw [zacw ha h 2 p h.up,e,if_neg (by omega)]
theorem zain (ha:WA W) (h:MkW W a p name):zeb (mkW W a p name).groups:=by
 have ht:=ha.tree
 have hgl:=ha.gl
 have a1:=h.a1
 have r:=ztk ha h ha.root
 have sp:∀{g:Int},1<=g->g<8->(gi (mkW W a p name).groups g).used=true->g=a\/(zae W.groups g=true/\gi (mkW W a p name).groups g=gi W.groups g):=fun {g} b d hh=>by
  rcases (zl0 ha h).1 (zac.2 ⟨by omega,by rw [z89 ha]; omega,hh⟩) with e | e
  ·exact .inr ⟨e,ztk ha h e⟩
  ·exact .inl e
 refine ⟨z89 ha,by rw [r]; exact ht.ru,by rw [r]; exact ht.rp,by rw [r]; exact ht.rn,fun g b d hh => ?_,fun g b d hh => ?_,fun g b d hh => ?_,fun g k b d e hg hk => ?_⟩
 ·rcases sp b d hh with rfl | ⟨hu,e⟩
  ·rw [zq6 ha h]; exact h.nm
  ·rw [e] at hh ⊢; exact ht.nm g b d hh
 ·rcases sp b d hh with rfl | ⟨hu,e⟩
  ·rw [zq6 ha h]; exact (zl0 ha h).2 (.inl h.up)
  ·rw [e] at hh ⊢; exact (zl0 ha h).2 (.inl (ht.par g b d hh))
 ·rcases sp b d hh with rfl | ⟨hu,e⟩
  ·have:=zakz ha h; omega
  ·rw [zacw ha h 3 g hu]; exact ht.dp g b d (zac.1 hu).2.2
 ·rintro ⟨q1,q2⟩
  rcases sp (by omega) e hg with hga | ⟨hu,eg⟩
  ·rcases sp b (by omega) hk with hka | ⟨hu2,ek⟩
   ·omega
   ·rw [hga,zq6 ha h,ek] at q1 q2
    exact h.no k b (by omega) (zac.1 hu2).2.2 ⟨q1,q2⟩
  ·rcases sp b (by omega) hk with hka | ⟨hu2,ek⟩
   ·rw [hka,zq6 ha h,eg] at q1 q2
    exact h.no g (by omega) e (zac.1 hu).2.2 ⟨q1.symm,q2.symm⟩
   ·rw [eg,ek] at q1 q2
    exact ht.uniq g k b d e (zac.1 hu).2.2 (zac.1 hu2).2.2 ⟨q1,q2⟩
end
section
variable {W:Wld} {a p:Int} {name:ByteArray}
theorem znj (ha:WA W) (h:MkW W a p name) {k c:Int} (hu:zae W.groups k=true):shf (mkW W a p name) k c=shf W k c:=by
 unfold shf
 rw [ztk ha h hu]
theorem z30 (ha:WA W) (h:MkW W a p name) {c:Int} (c0:0<=c) (c1:c<(W.cpus.length:Int)):shf (mkW W a p name) a c=newS:=by
 unfold shf
 rw [zq6 ha h]
 exact z00 _ _ c0 c1
theorem zacv (ha:WA W) (h:MkW W a p name) {k c:Int} (c0:0<=c) (c1:c<(W.cpus.length:Int)) (j:Nat) (hj:j<8):actG (mkW W a p name) k c j=actG W k c j:=by
 have a1:=h.a1
 unfold actG
 by_cases e:a=(j:Int)
 ·rw [<-e,z30 ha h c0 c1,h.fr]
  show (_&&_&&newS.on)=_
  simp [newS]
 ·rw [z59 ha h (by omega),if_neg e]
  have:shf (mkW W a p name) (j:Int) c=shf W (j:Int) c:=by
   unfold shf
   rw [z59 ha h (by omega),if_neg e]
  rw [this]
theorem zag6 (ha:WA W) (h:MkW W a p name) {k c:Int} (c0:0<=c) (c1:c<(W.cpus.length:Int)):za5 (mkW W a p name) k c=za5 W k c:=by
 unfold za5
 rw [show anyB (actT (mkW W a p name) k c) (mkW W a p name).tasks.length=anyB (actT W k c) W.tasks.length from rfl,z89 ha,ha.gl]
 rw [zqd fun j hj=>zacv ha h c0 c1 j hj]
theorem z74 (wp:WldP W) (h:MkW W a p name) {c:Int} (j:Nat) (hj:j<20):memP W a c j=false:=by
 by_cases hj12:j<12
 ·rw [zim hj12]
  unfold actT
  rcases wp.t (j:Int) (by omega) (by omega) with hz | ⟨_,hx⟩
  ·have:(gi W.tasks (j:Int)).state=0:=hz.1
   rw [this]; rfl
  ·have hg:(gi W.tasks (j:Int)).group≠a:=fun e=>zaim h hx.g e.symm
   rw [show ((gi W.tasks (j:Int)).group==a)=false by simpa using hg]
   simp
 ·rw [show j=12+(j - 12) by omega,zil]
  unfold actG
  cases hu:(gi W.groups ((j - 12:Nat):Int)).used with
  | false=>simp
  | true=>
   have hl:=wp.a.gl
   have huu:zae W.groups ((j - 12:Nat):Int)=true:=zac.2 ⟨by omega,by omega,hu⟩
   by_cases h1:1<=j - 12
   ·have hpu:=(zd4 wp.a.tree huu (by omega)).1
    have hg:(gi W.groups ((j - 12:Nat):Int)).parent≠a:=fun e=>zaim h hpu e.symm
    rw [show ((gi W.groups ((j - 12:Nat):Int)).parent==a)=false by simpa using hg]
    simp
   ·rw [show decide (1<=j - 12)=false from decide_eq_false h1]; simp
theorem zv3 {p:Nat->Bool}:∀{n:Nat},(∀j,j<n->p j=false)->anyB p n=false
 | 0,_=>rfl
 | n+1,h=>by simp only [anyB]; rw [zv3 fun j hj=>h j (by omega),h n (by omega)]; rfl
theorem zail (wp:WldP W) (h:MkW W a p name) {c:Int}:za5 W a c=false:=by
 have hl:=wp.a.gl
 have ht:=wp.a.t
 unfold za5
 rw [zv3 fun j hj=>by have:=z74 wp h (c:=c) j (by omega); rwa [zim (by omega)] at this,zv3 fun j hj=>by have:=z74 wp h (c:=c) (12+j) (by omega); rwa [zil] at this]
 rfl
theorem z5q {α β:Type} {f g:β->α->β}:∀(l:List α) (s:β),(∀(s:β) (x:α),x∈l->f s x=g s x)->l.foldl f s=l.foldl g s
 | [],_,_=>rfl
 | y::l,s,hl=>by
  rw [List.foldl_cons,List.foldl_cons,hl s y List.mem_cons_self]
  exact z5q l _ fun s x hx=>hl s x (List.mem_cons_of_mem _ hx)
theorem zaj3 (ha:WA W) (h:MkW W a p name) {k:Int} (hu:zae W.groups k=true) (u:Int):pinD (mkW W a p name).groups k u=pinD W.groups k u:=by
 have e:zbk (mkW W a p name).groups k=zbk W.groups k:=z75 ha h 3 k hu
 unfold pinD
 rw [e]
 refine z5q _ _ fun s x hx => ?_
 have hxu:zae W.groups x=true:=by
  rcases List.mem_append.1 hx with hx | hx
  ·exact (zen ha.tree k hu x hx).1
  ·rw [List.mem_singleton.1 hx]; exact ha.root
 rw [ztk ha h hxu]
theorem zakn {W W':Wld} (e:W'.cpus=W.cpus) {k:Int} (hp:∀u:Int,pinD W'.groups k u=pinD W.groups k u) (m:Int):zch W' k m=zch W k m:=by
 unfold zch
 rw [e,hp]
theorem zak0 (ha:WA W) (h:MkW W a p name) {k:Int} (hu:zae W.groups k=true) (m:Int):zch (mkW W a p name) k m=zch W k m:=zakn (W:=W) (W':=mkW W a p name) rfl (zaj3 ha h hu) m
theorem zag0 (iv:Inv W) (h:MkW W a p name):Inv (mkW W a p name):=by
 have wp:=iv.wp
 have ha:=wp.a
 have a1:=h.a1
 have a8:=h.a8
 have hgl:=ha.gl
 have hpu:∀{k:Int},zae W.groups k=true->k≠0->zae W.groups (gi W.groups k).parent=true:=fun hu hz=>(zd4 ha.tree hu hz).1
 have hA:WA (mkW W a p name):=by
  refine ⟨ha.n1,ha.n2,ha.c1,ha.c2,ha.t,zain ha h,ha.ups,fun k k0 k1 => ?_⟩
  unfold GrpP
  rw [z59 ha h k0]
  split
  ·refine ⟨fun hh=>(by cases hh),fun _=>⟨show (1:Int)<=10 by decide,show (10:Int)<=20 by decide,show mOk 15=true by decide,show (15:Int)≠0 by decide,show tmOk 0=true by decide,by simp [newG]; rfl,fun _=>⟨rfl,rfl,rfl⟩,fun _=>⟨show zpa ⟨0,0,0,[],[]⟩=true by decide,rfl,rfl⟩,fun hh=>absurd rfl hh⟩⟩
  ·have:=ha.grp k k0 k1
   exact ⟨this.1,fun hu=>by have:=this.2 hu; exact ⟨this.w1,this.w2,this.m,this.m0,this.s,this.len,this.root,this.none,this.band⟩⟩
 refine ⟨⟨hA,fun t t0 t1 => ?_,fun k c k0 k1 c0 c1 => ?_,fun c c0 c1 => ?_⟩,fun k c hu c0 c1 hb => ?_⟩
 ·rcases wp.t t t0 t1 with hz | ⟨n,hx⟩
  ·exact .inl hz
  ·refine .inr ⟨n,hx.st,(zl0 ha h).2 (.inl hx.g),hx.n,hx.m,hx.m0,hx.v,hx.s,hx.u,hx.l1,hx.l2,?_,fun hs => ?_⟩
   ·rw [show (tkk (mkW W a p name) t)=tkk W t from rfl,zak0 ha h hx.g]; exact hx.c
   ·rw [show (tkk (mkW W a p name) t)=tkk W t from rfl,znj ha h hx.g]; exact hx.f hs
 ·by_cases e:a=k
  ·subst e
   rw [zq6 ha h] at c1
   have c1:c<(W.cpus.length:Int):=by simpa [newG] using c1
   have es:=z30 ha h c0 c1
   refine ⟨by rw [es]; decide,by rw [es]; decide,by rw [es]; decide,by rw [es]; decide,by rw [es]; decide,fun hz=>by omega,fun _ => ?_,fun _ ho => ?_⟩
   ·rw [es,zag6 ha h c0 c1,zail wp h]; rfl
   ·rw [es] at ho; cases ho
  ·have hg:gi (mkW W a p name).groups k=gi W.groups k:=by rw [z59 ha h k0,if_neg e]
   rw [hg] at c1
   have hu:zae W.groups k=true:=by
    cases hh:(gi W.groups k).used with
    | true=>exact zac.2 ⟨k0,by omega,hh⟩
    | false=>
     have:=((ha.grp k k0 k1).1 hh).l
     omega
   have cl:c<(W.cpus.length:Int):=by rw [<-ha.sl hu]; exact c1
   have hs:=wp.s k c k0 k1 c0 c1
   have es:=znj ha h (c:=c) hu
   refine ⟨by rw [es]; exact hs.f,by rw [es]; exact hs.v,by rw [es]; exact hs.s,by rw [es]; exact hs.w1,by rw [es]; exact hs.w2,fun hz=>by rw [es]; exact hs.root hz,fun hz => ?_,fun hz ho => ?_⟩
   ·rw [es,zag6 ha h c0 cl,show dryD (mkW W a p name) k c=dryD W k c by unfold dryD; rw [hg]]
    exact hs.on hz
   ·rw [es] at ho
    rw [es,hg,znj ha h (hpu hu hz)]
    exact hs.st hz ho
 ·have hc:=wp.c c c0 c1
  refine ⟨hc.b,hc.i,hc.c1,hc.c2,hc.no,fun h0 => ?_⟩
  have h0:0<=(gi W.cpus c).cur:=h0
  obtain ⟨y1,y2,y3,y4,y5,y6⟩:=hc.yes h0
  have hl:=ha.t
  have hgu:zae W.groups (tkk W (gi W.cpus c).cur).group=true:=by
   have hc2:=hc.c2
   rcases wp.t _ h0 (by omega) with hz | ⟨_,hx⟩
   ·unfold ze3 at y5
    rw [hz.1] at y5
    simp at y5
   ·exact hx.g
  have hpt:zbk (mkW W a p name).groups (tkk W (gi W.cpus c).cur).group=zbk W.groups (tkk W (gi W.cpus c).cur).group:=z75 ha h 3 _ hgu
  refine ⟨y1,y2,y3,y4,?_,?_⟩
  ·unfold ze3 zk7 at y5 ⊢
   rw [show (gi (mkW W a p name).cpus c).cur=(gi W.cpus c).cur from rfl,show tkk (mkW W a p name) (gi W.cpus c).cur=tkk W (gi W.cpus c).cur from rfl,hpt]
   rw [Bool.and_eq_true,List.all_eq_true] at y5 ⊢
   exact ⟨y5.1,fun x hx=>by rw [znj ha h (zen ha.tree _ hgu x hx).1]; exact y5.2 x hx⟩
  ·unfold zsx zny at y6 ⊢
   rw [show (gi (mkW W a p name).cpus c).cur=(gi W.cpus c).cur from rfl,show (gi (mkW W a p name).cpus c).ran=(gi W.cpus c).ran from rfl,show tkk (mkW W a p name) (gi W.cpus c).cur=tkk W (gi W.cpus c).cur from rfl,hpt,znj ha h hgu]
   rw [Bool.and_eq_true,List.all_eq_true] at y6 ⊢
   refine ⟨y6.1,fun x hx => ?_⟩
   obtain ⟨xu,xz⟩:=zen ha.tree _ hgu x hx
   rw [znj ha h xu,ztk ha h xu,znj ha h (hpu xu xz)]
   exact y6.2 x hx
 ·have cl:c<(W.cpus.length:Int):=c1
  have hmem:∀j,j<20->memP (mkW W a p name) k c j=memP W k c j:=fun j hj=>by
   by_cases hj12:j<12
   ·rw [zim hj12,zim hj12]; rfl
   ·rw [show j=12+(j - 12) by omega,zil,zil,zacv ha h c0 cl (j - 12) (by omega)]
  rcases (zl0 ha h).1 hu with hk | rfl
  ·have hv:∀j,j<20->memP (mkW W a p name) k c j=true->memV (mkW W a p name) c j=memV W c j:=fun j hj hm=>by
    unfold memV
    split
    ·rfl
    ·rename_i hj12
     rw [hmem j hj,show j=12+(j - 12) by omega,zil] at hm
     unfold actG at hm
     simp only [Bool.and_eq_true] at hm
     rw [znj ha h (zac.2 ⟨by omega,by omega,hm.1.2.1⟩)]
   have e:zbb (memP (mkW W a p name) k c) (memV (mkW W a p name) c) 20=zbb (memP W k c) (memV W c) 20:=zpt hmem hv
   have hfl:=iv.fl k c hk c0 cl (by unfold zc4 at hb ⊢; rwa [e] at hb)
   rw [znj ha h hk]
   refine Int.le_trans (Int.le_of_eq ?_) hfl
   unfold zc4 at hb
   have hb:=of_decide_eq_true hb
   rw [e] at hb
   unfold zby
   rw [e,if_neg (by omega),if_neg (by omega)]
   rcases zbz (memP W k c) (memV W c) 20 with ⟨q,_⟩ | ⟨_,q2,q3,_⟩
   ·omega
   ·have hlt:(zbb (memP W k c) (memV W c) 20).toNat<20:=by omega
    exact hv _ hlt (by rw [hmem _ hlt]; exact q3)
  ·exfalso
   unfold zc4 at hb
   have hb:=of_decide_eq_true hb
   rcases zbz (memP (mkW W k p name) k c) (memV (mkW W k p name) c) 20 with ⟨q,_⟩ | ⟨_,q2,q3,_⟩
   ·omega
   ·rw [hmem _ (by omega),z74 wp h _ (by omega)] at q3
    cases q3
end
set_option maxHeartbeats 1000000 in
theorem zo5 {n:Nat} {p:Int} {name:ByteArray} {w:World} (hn:n<=4) :
  Calls Tryz.prog zg6 #[.int .i64 (n:Int),.int .i64 p,.string name] w fun e w'=>∃mg,e = .returned (.agg (encG (newG n p name) mg).toArray)/\OwnM w.heap.size w' (newG n p name,mg)/\ExtX [] w w':=by
 refine (zzo (n:Int) p name (R:=fun v w'=>∃mg,v = .agg (encG (newG n p name) mg).toArray/\OwnM w.heap.size w' (newG n p name,mg)/\ExtX [] w w') ?_).mono fun e w' ⟨v,he,mg,hv,h3⟩=>⟨mg,by rw [he,hv],h3⟩
 intro b hb b1 hb1
 refine ⟨fun vs w2=>∃(k:Nat) (o:Option Addr) (cap:Nat),vs=[.int .i64 (k:Int),.bool true,.int .i64 p,.string name,.int .i64 10,.int .i64 15,.int .i64 0,.int .i64 0,.int .i64 0,.int .i64 0,.int .i64 0,.int .i64 0,.slice none 0 0,.slice none 0 0,.slice o k cap]/\k<=n/\Sc w [b,b1] w2/\Ob encS 5 zbv w.heap.size [b,b1] w2 o cap (List.replicate k newS),
  zd5 n 0,fun wr hx _=>⟨0,none,0,rfl,Nat.zero_le _,(((Sc.start w).add hb).add hb1).call0 hx,⟨.inl ⟨rfl,rfl,rfl⟩,by simp [za9]⟩⟩,?_⟩
 rintro c1 l l1 l2 l3 l4 l5 l6 l7 l8 l9 l10 l11O l11L l11C l12O l12L l12C l13O l13L l13C wv hs2 ⟨k,o,cap,he,hk,s1,hO⟩
 simp only [List.cons.injEq,Value.int.injEq,Value.bool.injEq,Value.string.injEq,Value.slice.injEq,true_and,and_true] at he
 obtain ⟨rfl,rfl,rfl,rfl,rfl,rfl,rfl,rfl,rfl,rfl,rfl,rfl,⟨rfl,rfl,rfl⟩,⟨rfl,rfl,rfl⟩,rfl,rfl,rfl⟩:=he
 refine ⟨fun hlt => ?_,fun hge => ?_⟩
 ·have hlt:=of_decide_eq_true hlt
  intro b3 hb3 wr3 hx3 hs3 hcell
  have s2:=s1.put hx3 hb3
  have hO2:=hO.put hx3 hb3
  obtain ⟨o2,c2,w2,hrun,hk2,hO3,hx2⟩:=hO2.app1 zld zkc (x:=newS) hs3 s2.ext.size hcell (oneS _) (by simp; omega) (by decide) za8 #[false,false]
  have s3:=s2.call hx2 fun x hm=>(hO2.own.lt x hm).1
  have hL:List.replicate l13L newS++[newS]=List.replicate (l13L+1) newS:=by rw [List.replicate_succ']
  rw [hL] at hrun hO3
  rw [List.length_replicate,List.length_replicate] at hrun
  exact ⟨_,_,_,w2,hrun,hk2,⟨by omega,by omega⟩,fun wr4 hx4 _=>⟨⟨l13L+1,o2,c2,by simp,by omega,(s3.step hx4).sub (by simp),(hO3.step hx4).sub (by simp)⟩,zb0 (k:=l13L) rfl rfl (by omega)⟩⟩
 ·have hge:=of_decide_eq_false hge
  have:l13L=n:=by omega
  subst this
  intro wr5 hx5
  refine ⟨⟨none,0,none,0,l13O,l13C⟩,?_,⟨.inl ⟨rfl,rfl,rfl⟩,.inl ⟨rfl,rfl,rfl⟩,(hO.step hx5).own⟩,(s1.step hx5).ext⟩
  simp [encG,newG,zdj]
theorem zak2:zau≠zba:=by decide
theorem zaj4:zaw≠zba:=by decide
theorem zak1:zaw≠zau:=by decide
theorem zuq {i:Int} (h0:0<=i) (h1:i<8):gi (List.replicate 8 zn5) i=zn5:=by
 obtain ⟨k,rfl⟩:=Int.eq_ofNat_of_zero_le h0
 rw [zkd (by rw [List.length_replicate]; omega)]
 exact List.getElem_replicate _
theorem zac3 {base:Nat} {w:World} {o:Option Addr} {cap:Nat} (h:Own encP 14 zaw base w o cap (List.replicate 8 zn5)):OwnG base w o cap (List.replicate 8 zn5):=by
 refine ⟨h,fun i h0 h1 => ?_,fun i j h0 h1 _ _ _ x hm => ?_⟩
 ·rw [zuq h0 (by simpa using h1)]
  exact ⟨.inl ⟨rfl,rfl,rfl⟩,.inl ⟨rfl,rfl,rfl⟩,.inl ⟨rfl,rfl,rfl⟩⟩
 ·rw [zuq h0 (by simpa using h1)] at hm
  simp [zam,zn5,za9] at hm
section
variable {w:World} {b:Nat}
def NewM (b:Nat) (w:World) (vs:List Value) (bs:List Nat) (w2:World):Prop:=
 ∃(bx:Nat) (tO gO:Option Addr) (tC gC:Nat),bs=[bx]/\vs=[.int .i64 0,.slice none 0 0,.slice tO 12 tC,.slice gO 8 gC]/\Sc w [b,bx] w2/\Ob encT 9 zau w.heap.size [b,bx] w2 tO tC (List.replicate 12 zn6)/\Ob encP 14 zaw w.heap.size [b,bx] w2 gO gC (List.replicate 8 zn5)
theorem mk_T {bs:List Nat} {w1:World} (s:Sc w bs w1) (hs:∀x∈bs,x<w1.heap.size):∃(o:Option Addr) (c:Nat) (w2:World),(Instr.makeSlice za2 (.int .i64 12) (.int .i64 12):Sem Value).run Tryz.prog w1 = .ok (.slice o 12 c) w2/\Kept bs w1 w2/\ExtX [] w1 w2/\Ob encT 9 zau w.heap.size bs w2 o c (List.replicate 12 zn6):=
 ⟨_,_,_,z1h zlr zla 12 (by decide) (by have:=zcx; omega) w1,zaz (zcp _ _) hs,zcp _ _,(Ob.of (zoa (enc:=encT) zlr.len zau 12 zn6 w1) hs).mono s.ext.size⟩
theorem mk_G {bs:List Nat} {w1:World} (s:Sc w bs w1) (hs:∀x∈bs,x<w1.heap.size):∃(o:Option Addr) (c:Nat) (w2:World),(Instr.makeSlice zal (.int .i64 8) (.int .i64 8):Sem Value).run Tryz.prog w1 = .ok (.slice o 8 c) w2/\Kept bs w1 w2/\ExtX [] w1 w2/\Ob encP 14 zaw w.heap.size bs w2 o c (List.replicate 8 zn5):=
 ⟨_,_,_,z1h zc1 zkb 8 (by decide) (by have:=zcx; omega) w1,zaz (zcp _ _) hs,zcp _ _,(Ob.of (zoa (enc:=encP) zc1.len zaw 8 zn5 w1) hs).mono s.ext.size⟩
set_option maxHeartbeats 2000000 in
theorem zxb {n:Nat} (n0:1<=n) (n1:n<=4) :
  Calls Tryz.prog ziv #[.int .i64 (n:Int)] w fun e w'=>∃m,e = .returned (.tuple #[.agg (encW (newW n) m).toArray,.bool true])/\MWd 8 w.heap.size w' (newW n) m/\ExtX [] w w':=by
 refine (zwm (n:Int) (R:=fun v w'=>∃m,v = .tuple #[.agg (encW (newW n) m).toArray,.bool true]/\MWd 8 w.heap.size w' (newW n) m/\ExtX [] w w') ?_).mono fun e w' ⟨v,he,m,hv,h3⟩=>⟨m,by rw [he,hv],h3⟩
 intro b hb
 have hin:inB (n:Int) 1 4=true:=za6.2 ⟨by omega,by omega⟩
 have s0:Sc w [b] w:=(Sc.start w).add hb
 refine ⟨_,za1,fun g=>(by rw [hin] at g; cases g),fun _=>⟨NewM b w,?_,?_⟩⟩
 ·refine ⟨fun wr1 hx1 hs1 => ?_,fun wr6 hx6 hs6 => ?_,fun b5 hb5=>⟨fun wr11 hx11 hs11 => ?_,fun wr14 hx14 hs14 => ?_⟩⟩
  ·have s1:=s0.call0 hx1
   obtain ⟨tO,tC,w2,hr,hk,he,hT⟩:=mk_T s1 hs1
   have s2:=s1.call0 he
   refine ⟨_,_,_,w2,hr,hk,fun wr2 hx2 hs2 => ?_,fun b2 hb2 wr4 hx4 hs4 => ?_⟩
   ·have s3:=s2.step hx2
    obtain ⟨gO,gC,w3,hr3,hk3,he3,hG⟩:=mk_G s3 hs2
    exact ⟨_,_,_,w3,hr3,hk3,fun b1 hb1 wr3 hx3 _=>⟨b1,tO,gO,tC,gC,rfl,rfl,(s3.call0 he3).put hx3 hb1,((hT.step hx2).call0 he3).put hx3 hb1,hG.put hx3 hb1⟩⟩
   ·have s3:=s2.put hx4 hb2
    obtain ⟨gO,gC,w3,hr3,hk3,he3,hG⟩:=mk_G s3 hs4
    exact ⟨_,_,_,w3,hr3,hk3,fun wr5 hx5 _=>⟨b2,tO,gO,tC,gC,rfl,rfl,(s3.call0 he3).step hx5,((hT.put hx4 hb2).call0 he3).step hx5,hG.step hx5⟩⟩
  ·have s1:=s0.call0 hx6
   obtain ⟨gO,gC,w2,hr,hk,he,hG⟩:=mk_G s1 hs6
   have s2:=s1.call0 he
   refine ⟨_,_,_,w2,hr,hk,fun wr2 hx2 hs2 => ?_,fun b2 hb2 wr4 hx4 hs4 => ?_⟩
   ·have s3:=s2.step hx2
    obtain ⟨tO,tC,w3,hr3,hk3,he3,hT⟩:=mk_T s3 hs2
    exact ⟨_,_,_,w3,hr3,hk3,fun b1 hb1 wr3 hx3 _=>⟨b1,tO,gO,tC,gC,rfl,rfl,(s3.call0 he3).put hx3 hb1,hT.put hx3 hb1,((hG.step hx2).call0 he3).put hx3 hb1⟩⟩
   ·have s3:=s2.put hx4 hb2
    obtain ⟨tO,tC,w3,hr3,hk3,he3,hT⟩:=mk_T s3 hs4
    exact ⟨_,_,_,w3,hr3,hk3,fun wr5 hx5 _=>⟨b2,tO,gO,tC,gC,rfl,rfl,(s3.call0 he3).step hx5,hT.step hx5,((hG.put hx4 hb2).call0 he3).step hx5⟩⟩
  ·have s1:=(s0.add hb5).call0 hx11
   obtain ⟨tO,tC,w2,hr,hk,he,hT⟩:=mk_T s1 hs11
   refine ⟨_,_,_,w2,hr,hk,fun wr2 hx2 hs2 => ?_⟩
   have s3:=(s1.call0 he).step hx2
   obtain ⟨gO,gC,w3,hr3,hk3,he3,hG⟩:=mk_G s3 hs2
   exact ⟨_,_,_,w3,hr3,hk3,fun wr5 hx5 _=>⟨b5,tO,gO,tC,gC,rfl,rfl,(s3.call0 he3).step hx5,((hT.step hx2).call0 he3).step hx5,hG.step hx5⟩⟩
  ·have s1:=(s0.add hb5).call0 hx14
   obtain ⟨gO,gC,w2,hr,hk,he,hG⟩:=mk_G s1 hs14
   refine ⟨_,_,_,w2,hr,hk,fun wr2 hx2 hs2 => ?_⟩
   have s3:=(s1.call0 he).step hx2
   obtain ⟨tO,tC,w3,hr3,hk3,he3,hT⟩:=mk_T s3 hs2
   exact ⟨_,_,_,w3,hr3,hk3,fun wr5 hx5 _=>⟨b5,tO,gO,tC,gC,rfl,rfl,(s3.call0 he3).step hx5,hT.step hx5,((hG.step hx2).call0 he3).step hx5⟩⟩
 ·rintro l l1O l1L l1C l2O l2L l2C l3O l3L l3C b6 wv10 hs10 ⟨bx,tO,gO,tC,gC,hbx,hv,s1,hT,hG⟩
  simp only [List.cons.injEq,Value.int.injEq,Value.slice.injEq,true_and,and_true] at hbx hv
  subst hbx
  obtain ⟨rfl,⟨rfl,rfl,rfl⟩,⟨rfl,rfl,rfl⟩,rfl,rfl,rfl⟩:=hv
  refine ⟨fun vs w2=>∃(k:Nat) (o:Option Addr) (cap:Nat),vs=[.int .i64 (k:Int),.int .i64 0,.slice o k cap,.slice l2O 12 l2C,.slice l3O 8 l3C]/\k<=n/\Sc w [b,b6] w2/\Ob encC 5 zba w.heap.size [b,b6] w2 o cap (List.replicate k (⟨true,-1,0,0,0⟩:Cpu))/\Ob encT 9 zau w.heap.size [b,b6] w2 l2O l2C (List.replicate 12 zn6)/\Ob encP 14 zaw w.heap.size [b,b6] w2 l3O l3C (List.replicate 8 zn5),
   zd5 n 0,fun wr hx _=>⟨0,none,0,rfl,Nat.zero_le _,s1.step hx,⟨.inl ⟨rfl,rfl,rfl⟩,by simp [za9]⟩,hT.step hx,hG.step hx⟩,?_⟩
  rintro c1 l4 l5O l5L l5C l6O l6L l6C l7O l7L l7C wv hs2 ⟨k,o,cap,he,hk,s2,hC,hT2,hG2⟩
  simp only [List.cons.injEq,Value.int.injEq,Value.slice.injEq,true_and,and_true] at he
  obtain ⟨rfl,rfl,⟨rfl,rfl,rfl⟩,⟨rfl,rfl,rfl⟩,rfl,rfl,rfl⟩:=he
  clear hT hG
  refine ⟨fun hlt => ?_,fun hge => ?_⟩
  ·have hlt:=of_decide_eq_true hlt
   intro b3 hb3 wr3 hx3 hs3 hcell
   have s3:=s2.put hx3 hb3
   have hC2:=hC.put hx3 hb3
   obtain ⟨o2,c2,w2,hrun,hk2,hC3,hx2⟩:=hC2.app1 zsd zma (x:=(⟨true,-1,0,0,0⟩:Cpu)) hs3 s3.ext.size hcell (oneC _) (by simp; omega) (by decide) zbf #[false,false]
   have s4:=s3.call hx2 fun x hm=>(hC2.own.lt x hm).1
   have hT3:=(hT2.put hx3 hb3)
   have hT4:Ob encT 9 zau w.heap.size [b,b6,b3] w2 l6O l6C (List.replicate 12 zn6):=⟨hT3.own.ext hx2 (hT3.own.ty_ne hC2.own zak2),hT3.nb⟩
   have hG3:=(hG2.put hx3 hb3)
   have hG4:Ob encP 14 zaw w.heap.size [b,b6,b3] w2 l7O l7C (List.replicate 8 zn5):=⟨hG3.own.ext hx2 (hG3.own.ty_ne hC2.own zaj4),hG3.nb⟩
   have hL:List.replicate l5L (⟨true,-1,0,0,0⟩:Cpu)++[⟨true,-1,0,0,0⟩]=List.replicate (l5L+1) (⟨true,-1,0,0,0⟩:Cpu):=by rw [List.replicate_succ']
   rw [hL] at hrun hC3
   rw [List.length_replicate,List.length_replicate] at hrun
   exact ⟨_,_,_,w2,hrun,hk2,⟨by omega,by omega⟩,fun wr4 hx4 _=>⟨⟨l5L+1,o2,c2,by simp,by omega,(s4.step hx4).sub (by simp),(hC3.step hx4).sub (by simp),(hT4.step hx4).sub (by simp),(hG4.step hx4).sub (by simp)⟩,zb0 (k:=l5L) rfl rfl (by omega)⟩⟩
  ·have hge:=of_decide_eq_false hge
   have:l5L=n:=by omega
   subst this
   intro wr5 hx5 hs5
   have s3:=s2.step hx5
   have hC3:=hC.step hx5
   have hT3:=hT2.step hx5
   have hG3:=hG2.step hx5
   refine (zo5 n1).mono fun e w3 ⟨mg,he,hM,hx3⟩ => ?_
   have s4:=s3.call0 hx3
   have hC4:=hC3.call0 hx3
   have hT4:=hT3.call0 hx3
   have hG4:=hG3.call0 hx3
   have G:=zac3 hG4.own
   have hmb:∀x∈zam mg,x∉[b,b6]:=fun x hm hx=>by
    have h1:=(hM.lt x hm).1
    have h2:=hs5 x hx
    omega
   have P:=G.put (i:=0) (Int.le_refl _) (by simp) (p:=(newG l5L (-1) ⟨[].toArray⟩,mg)) (hM.mono s3.ext.size) fun j j0 j1 _ x hm=>by
    rw [zuq j0 (by simpa using j1)] at hm
    simp [zam,zn5,za9] at hm
   have hxs:=hG4.own.stoX (Int.toNat 0*14) (encP (newG l5L (-1) ⟨[].toArray⟩,mg))
   have s5:Sc w [b,b6] (sto w3 l7O (Int.toNat 0*14) (encP (newG l5L (-1) ⟨[].toArray⟩,mg))):=⟨hG4.own.stoB _ _ s4.ext (Nat.le_refl _),s4.new⟩
   have hC5:=hC4.own.ext hxs (hC4.own.ty_ne hG4.own zaj4.symm)
   have hT5:=hT4.own.ext hxs (hT4.own.ty_ne hG4.own zak1.symm)
   refine ⟨_,_,_,_,_,_,_,_,_,_,_,_,_,_,_,_,_,_,_,_,he,zaz hx3 hs5,rfl,hG4.own.ix (Int.le_refl _) (by simp),hG4.own.wr zc1.len hG4.nb (i:=0) (j:=0) (Int.le_refl _) (by simp) (by decide),fun wr hx=>⟨⟨l5O,l5C,l6O,l6C,l7O,l7C,fun k=>if k=0 then mg else zn5.2⟩,?_,⟨?_,?_,?_,rfl⟩,(s5.step hx).ext⟩⟩
   ·simp [encW,newW]
   ·exact hC5.ext hx hC4.nb
   ·exact hT5.ext hx hT4.nb
   ·have hps:psW (newW l5L) ⟨l5O,l5C,l6O,l6C,l7O,l7C,fun k=>if k=0 then mg else zn5.2⟩=(List.replicate 8 zn5).set (Int.toNat 0) (newG l5L (-1) ⟨[].toArray⟩,mg):=rfl
    rw [hps]
    refine ⟨P.row.ext hx hG4.nb,fun i i0 i1=>(P.each i i0 i1).ext hx fun x hm => ?_,P.dj⟩
    have hi8:i<8:=by simpa using i1
    have:=za4 (List.replicate 8 zn5) (newG l5L (-1) ⟨[].toArray⟩,mg) (i:=0) (j:=i) (Int.le_refl _) (by simp) i0
    rw [this] at hm
    split at hm
    ·exact hmb x hm
    ·rw [zuq i0 hi8] at hm
     simp [zam,zn5,za9] at hm
end
def zle (W:Wld) (j:Nat):Bool:=decide (1<=j) && !(gi W.groups (j:Int)).used
def zlv (W:Wld):Int:=fstN (zle W) 8
def DupG (W:Wld) (p:Int) (name:ByteArray):Prop:=∃h:Int,1<=h/\h<8/\(gi W.groups h).used=true/\(gi W.groups h).parent=p/\(gi W.groups h).name=name
open Classical in
noncomputable def makB (W:Wld) (p:Int) (name:ByteArray):Int:=if zin name=false then 1 else if zae W.groups p=false then 2 else if DupG W p name then 7 else if dep 3 W.groups p=3 then 9 else if zlv W<0 then 3 else if zhh W=false then 10 else 0
def makW (W:Wld) (p:Int) (name:ByteArray):Wld:=mkW W (zlv W) p name
theorem z7s (W:Wld):(zlv W = -1/\∀h:Int,1<=h->h<8->(gi W.groups h).used=true)\/(1<=zlv W/\zlv W<8/\(gi W.groups (zlv W)).used=false):=by
 rcases zm2 (zle W) 8 with ⟨h1,h2⟩ | ⟨h1,h2,h3,_⟩
 ·refine .inl ⟨h1,fun h a b => ?_⟩
  have:=h2 h.toNat (by omega)
  unfold zle at this
  rw [show ((h.toNat:Nat):Int)=h by omega,decide_eq_true (by omega:1<=h.toNat)] at this
  simpa using this
 ·have e:(((zlv W).toNat:Nat):Int)=zlv W:=by unfold zlv; omega
  have h3:zle W (zlv W).toNat=true:=h3
  unfold zle at h3
  rw [e,Bool.and_eq_true,decide_eq_true_eq,Bool.not_eq_true'] at h3
  refine .inr ⟨by omega,by unfold zlv; omega,h3.2⟩
theorem zacr {W:Wld} {p:Int} {name:ByteArray} (hb:makB W p name=0):MkW W (zlv W) p name/\zhh W=true:=by
 unfold makB at hb
 split at hb
 ·cases hb
 rename_i h1
 split at hb
 ·cases hb
 rename_i h2
 split at hb
 ·cases hb
 rename_i h3
 split at hb
 ·cases hb
 rename_i h4
 split at hb
 ·cases hb
 rename_i h5
 split at hb
 ·cases hb
 rename_i h6
 rcases z7s W with ⟨a,_⟩ | ⟨a,b,c⟩
 ·omega
 ·exact ⟨⟨a,b,c,by simpa using h2,by simpa using h1,fun h a1 a2 u e=>h3 ⟨h,a1,a2,u,e.1,e.2⟩,h4⟩,by simpa using h6⟩
section
variable {W:Wld} {m:MW} {w:World}
set_option maxHeartbeats 1000000 in
theorem zuc {p:Int} {name:ByteArray} (h:RdW [] w W m) (hl:LenW W) :
  Calls Tryz.prog zav #[.agg (encW W m).toArray,.int .i64 p,.string name] w fun e w'=>∃v,e = .returned v/\Ans3 (zol W (makB W p name) (makW W p name) (zlv W)) w v w':=by
 refine zt6 W.now m.cO W.cpus.length m.cC m.tO W.tasks.length m.tC m.gO W.groups.length m.gC p name (R:=fun v w'=>Ans3 (zol W (makB W p name) (makW W p name) (zlv W)) w v w') ?_
 intro y hy y1 hy1 wr hx2 hs2
 refine Calls.mono (zj2 (h.ext hx2) hl) ?_
 rintro e wv (⟨hW,he,hy2⟩ | ⟨hW,m',he,hM,hy2⟩)
 ·exact ⟨_,_,_,_,_,_,_,_,_,_,_,he,zaz hy2 hs2,true,fun g=>by simp at g,fun _ wr1 hx3=>Ans3.bad hW ((hx2.trans hy2).fresh hx3 fun z hm=>.inl (zl9 hy hy1 z hm)),fun g=>by simp at g⟩
 have hK:=Wk.begin hy hy1 hx2 hs2 hM hy2
 have hr:=hK.rd
 have wp:=zbp.1 hW
 have hgl:=wp.a.gl
 have hc1:((if zhh W=true then 0 else 10:Int)==1)=false:=by split <;> rfl
 refine ⟨_,_,_,_,_,_,_,_,_,_,_,he,zaz hy2 hs2,_,fun _=>zq0,fun g1 wr1 hx3 => ?_,fun g1=>⟨_,zel hr.g,fun g2 wr2 hx3 => ?_,fun g2 => ?_⟩⟩
 ·rw [hc1] at g1
  have hb:makB W p name=1:=by unfold makB; rw [if_pos (by simpa using g1)]
  exact Ans3.no hW (by rw [hb]; decide) (hK.step hx3) hb
 ·rw [hc1] at g1
  have n1:¬zin name=false:=by simpa using g1
  have hb:makB W p name=2:=by unfold makB; rw [if_neg n1,if_pos (by simpa using g2)]
  exact Ans3.no hW (by rw [hb]; decide) (hK.step hx3) hb
 rw [hc1] at g1
 have n1:¬zin name=false:=by simpa using g1
 have hu:zae W.groups p=true:=by simpa using g2
 have n2:¬zae W.groups p=false:=by rw [hu]; decide
 refine ⟨fun vs w1=>∃k:Nat,vs=[.int .i64 (k:Int),.int .i64 0,.slice none 0 0,.slice none 0 0,.slice none 0 0]/\1<=k/\k<=8/\(∀q:Int,1<=q->q<(k:Int)->(gi W.groups q).used=true->¬((gi W.groups q).parent=p/\(gi W.groups q).name=name))/\ExtX [y,y1] wv w1,
  zd5 8 0,fun w1 hx0 _=>⟨1,rfl,by omega,by omega,fun q a b=>by omega,hx0⟩,?_⟩
 rintro h1 l l1O l1L l1C l2O l2L l2C l3O l3L l3C wv2 hs3 ⟨k,he2,hk1,hk8,hno,hxw⟩
 simp only [List.cons.injEq,Value.int.injEq,Value.slice.injEq,true_and,and_true] at he2
 obtain ⟨rfl,rfl,⟨rfl,rfl,rfl⟩,⟨rfl,rfl,rfl⟩,rfl,rfl,rfl⟩:=he2
 have hK1:=hK.step hxw
 have hr1:=hK1.rd
 refine ⟨fun hlt => ?_,fun hge => ?_⟩
 ·have hlt:=of_decide_eq_true hlt
  have hk0:(0:Int)<=(k:Int):=by omega
  refine ⟨hr1.g.ix hk0 hlt,_,hr1.g.used hk0 hlt,fun _=>hr1.g.ix hk0 hlt,_,fun _=>hr1.g.parent hk0 hlt,fun _=>hr1.g.ix hk0 hlt,_,fun _=>hr1.g.name hk0 hlt,fun g3 wr5 hx5 => ?_,fun g3=>⟨⟨by omega,by omega⟩,fun wr6 hx6 _=>⟨⟨k+1,by simp,by omega,by omega,fun q q1 q2 qu => ?_,hxw.trans hx6⟩,zb0 (k:=k) rfl rfl (by omega)⟩⟩⟩
  ·rw [Bool.and_eq_true,Bool.and_eq_true,zf5,beq_iff_eq] at g3
   have hb:makB W p name=7:=by unfold makB; rw [if_neg n1,if_neg n2,if_pos ⟨k,by omega,by omega,g3.1.1,g3.1.2,g3.2⟩]
   exact Ans3.no hW (by rw [hb]; decide) (hK1.step hx5) hb
  ·by_cases e:q<(k:Int)
   ·exact hno q q1 e qu
   ·have:q=(k:Int):=by omega
    subst this
    rintro ⟨c1,c2⟩
    rw [qu,beq_iff_eq.2 c1,zf5.2 c2] at g3
    cases g3
 have hge:=of_decide_eq_false hge
 have:k=8:=by omega
 subst this
 have n3:¬DupG W p name:=fun ⟨q,a,b,c,d,e⟩=>hno q a (by omega) c ⟨d,e⟩
 refine ⟨_,zk6 hr1.g (by rw [hgl]; have:=zcx; omega),fun g4 wr7 hx7 => ?_,fun g4=>⟨⟨by omega,by omega⟩,?_⟩⟩
 ·rw [z8s wp.a.tree hu,beq_iff_eq] at g4
  have hb:makB W p name=9:=by unfold makB; rw [if_neg n1,if_neg n2,if_neg n3,if_pos g4]
  exact Ans3.no hW (by rw [hb]; decide) (hK1.step hx7) hb
 rw [z8s wp.a.tree hu,beq_eq_false_iff_ne] at g4
 refine ⟨fun vs w1=>∃a t:Int,vs=[.int .i64 a,.int .i64 t]/\0<=t/\t<8/\(a = -1/\(∀j:Nat,t<(j:Int)->j<8->zle W j=false)\/t<a/\a<8/\zle W a.toNat=true/\∀j:Nat,t<(j:Int)->(j:Int)<a->zle W j=false)/\ExtX [y,y1] wv2 w1,
  fun vs _=>(zef 1 vs+1).toNat,fun w1 hx0 _=>⟨-1,_,rfl,by omega,by omega,.inl ⟨rfl,fun j h1 h2=>by omega⟩,hx0⟩,?_⟩
 rintro av tv wv3 hs4 ⟨a,t,he2,ht0,ht1,hcond,hxw2⟩
 simp only [List.cons.injEq,Value.int.injEq,true_and,and_true] at he2
 obtain ⟨rfl,rfl⟩:=he2
 have hK2:=hK1.step hxw2
 have hr2:=hK2.rd
 refine ⟨fun hlt => ?_,fun hge2 => ?_⟩
 ·have hlt:=of_decide_eq_true hlt
  have e:((tv.toNat:Nat):Int)=tv:=by omega
  have hst:zle W tv.toNat = !(gi W.groups tv).used:=by unfold zle; rw [e,decide_eq_true (by omega:1<=tv.toNat)]; rfl
  refine ⟨hr2.g.ix (by omega) (by omega),_,hr2.g.used (by omega) (by omega),fun g3=>⟨⟨by omega,by omega⟩,fun wr5 hx5 _=>⟨⟨tv,tv - 1,rfl,by omega,by omega,.inr ⟨by omega,ht1,by rw [hst]; exact g3,fun j h1 h2=>by omega⟩,hxw2.trans hx5⟩,?_⟩⟩,fun g3=>⟨⟨by omega,by omega⟩,fun wr6 hx6 _=>⟨⟨av,tv - 1,rfl,by omega,by omega,?_,hxw2.trans hx6⟩,?_⟩⟩⟩
  ·simp only [zef,List.getElem?_cons_zero,List.getElem?_cons_succ]; omega
  ·have g3:zle W tv.toNat=false:=by rw [hst]; exact g3
   have one:∀j:Nat,tv - 1<(j:Int)->¬tv<(j:Int)->zle W j=false:=fun j h1 h2=>by
    have:j=tv.toNat:=by omega
    rw [this]; exact g3
   rcases hcond with ⟨h1,h2⟩ | ⟨h1,h2,h3,h4⟩
   ·exact .inl ⟨h1,fun j j1 j2=>if h:tv<(j:Int) then h2 j h j2 else one j j1 h⟩
   ·exact .inr ⟨by omega,h2,h3,fun j j1 j2=>if h:tv<(j:Int) then h4 j h j2 else one j j1 h⟩
  ·simp only [zef,List.getElem?_cons_zero,List.getElem?_cons_succ]; omega
 have hge2:=of_decide_eq_false hge2
 have ht:tv=0:=by omega
 subst ht
 have hz:zle W 0=false:=rfl
 have hfree:av=zlv W:=by
  rcases hcond with ⟨h1,h2⟩ | ⟨h1,h2,h3,h4⟩
  ·rw [h1]; exact (zab2 fun j hj=>if e:j=0 then by rw [e]; exact hz else h2 j (by omega) hj).symm
  ·exact (zab1 (by omega) h2 h3 fun j hj=>if e:j=0 then by rw [e]; exact hz else h4 j (by omega) hj).symm
 subst hfree
 refine ⟨fun g5 wr7 hx7 => ?_,fun g5=>⟨fun g6 wr8 hx8 => ?_,fun g6 wr13 hx13 hs13 => ?_⟩⟩
 ·have g5:=of_decide_eq_true g5
  have hb:makB W p name=3:=by unfold makB; rw [if_neg n1,if_neg n2,if_neg n3,if_neg g4,if_pos g5]
  exact Ans3.no hW (by rw [hb]; decide) (hK2.step hx7) hb
 ·have g5:=of_decide_eq_false g5
  have hr0:¬zhh W=true:=fun hr=>by rw [if_pos hr] at g6; simp at g6
  have hb:makB W p name=10:=by unfold makB; rw [if_neg n1,if_neg n2,if_neg n3,if_neg g4,if_neg g5,if_pos (by simpa using hr0)]
  rw [if_neg hr0]
  exact Ans3.no hW (by rw [hb]; decide) (hK2.step hx8) hb
 have g5:=of_decide_eq_false g5
 have hr0:zhh W=true:=Decidable.byContradiction fun hr=>by rw [if_neg hr] at g6; simp at g6
 have hb:makB W p name=0:=by unfold makB; rw [if_neg n1,if_neg n2,if_neg n3,if_neg g4,if_neg g5,if_neg (by rw [hr0]; decide)]
 obtain ⟨hf,_⟩:=zacr hb
 have a1:=hf.a1
 have a8:=hf.a8
 have hK3:=hK2.step hx13
 refine (zo5 (n:=W.cpus.length) wp.a.c2).mono fun e1 wv4 ⟨mg,he1,hMg,hx4⟩ => ?_
 have hK4:=hK3.call0 hx4
 have hold:∀x∈zbc 8 m',x<wr13.heap.size:=fun x hx=>(hK3.own.lt x hx).2
 have hnew:∀x∈zam mg,wr13.heap.size<=x:=fun x hx=>(hMg.lt x hx).1
 have hset:Wk 8 [y,y1] w (sto wv4 m'.gO (Int.toNat (zlv W)*14) (encG (newG W.cpus.length p name) mg)) (makW W p name) (setM m' (zlv W).toNat mg):=
  ⟨hK4.s.call subG fun x hx=>(hK4.own.lt x hx).1,⟨hK4.own.stoG (by omega) a8 (g:=newG W.cpus.length p name) (p:=mg) (j:=0) (vs:=encG (newG W.cpus.length p name) mg) (hMg.mono hK3.base) (fun x hx=>.inl fun hx'=>by have:=hold x hx'; have:=hnew x hx; omega) (by simp [encG,zdj]) (by simp [encG,zdj]),fun x hx hm=>by
   rcases znx x hx with h1 | h1
   ·exact hK4.nb x h1 hm
   ·have:=hnew x h1
    have:=hs13 x hm
    omega⟩⟩
 refine ⟨_,_,_,_,_,_,_,_,_,_,_,_,_,_,_,_,_,_,_,_,he1,zaz hx4 hs13,rfl,hr2.g.ix (by omega) (by omega),wrG hK4.own hK4.nb (by omega) a8 (j:=0) (k:=14) (by decide),fun wr14 hx14 => ?_⟩
 have hfin:=Ans3.ok (a:=zlv W) hW hb (hset.step hx14)
 have ew:encW (makW W p name) (setM m' (zlv W).toNat mg)=encW W m':=by simp [encW,makW,mkW,setGr,setM]
 rw [ew] at hfin
 exact hfin
end
end Go.Proofs.YtclpmgfpjeaibaaGreatDoor
