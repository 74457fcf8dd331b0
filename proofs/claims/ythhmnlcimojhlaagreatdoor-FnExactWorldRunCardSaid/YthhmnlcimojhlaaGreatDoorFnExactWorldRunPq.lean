/- Part 17 of what the law FnExactWorldRun needs: the engine, the functions' propositions, the contracts. -/
import Derived.Test.YthhmnlcimojhlaaGreatDoorFnExactWorldRunPp
import Derived.Recover
import Derived.Tactics2
import Derived.Laws.Pointers
namespace Go.Proofs.YthhmnlcimojhlaaGreatDoor
open Go.RowKit
set_option linter.unusedVariables false
set_option linter.unusedSimpArgs false
set_option maxRecDepth 10000
theorem zakp (g:Int) (w:World):(Instr.typeAssert (.iface 215 (.agg #[.int .i64 g])) 20 215 true).run Tryz.prog w = .ok (.tuple #[.agg #[.int .i64 g],.bool true]) w:=by kernel_rfl
theorem zab7 (p:Addr) (x:Bool) (g:Int) (older:List PanicEntry) (w:World) (hc:w.cell? p=some (.bool x)) (hz:w.frozen? p=false) :
  CallsD Tryz.prog zcn #[.pointer (some p)] (.panicking ({ v:=.iface 215 (.agg #[.int .i64 g]),recovered:=false }::older)) w fun e u' w' =>
   e = .returned (.tuple #[])∧u' = .panicking ({ v:=.iface 215 (.agg #[.int .i64 g]),recovered:=true }::older)∧w'=w.setCell p (.bool true):=by
 have ht:=zakp g
 refine callsD_of_wpS Tryz.func267 rfl fun c₀ cs hu => ?_
 apply wpS_seq
 apply wpS_region
 simp [wpOpsS,go_sem,recoverD,hu,Tryz.ntmps267,Exit.thenS]
 apply wpS_seq
 apply wpS_region
 simp [wpOpsS,go_sem,recoverD,hu,Tryz.ntmps267,Exit.thenS]
 refine wpS_cond (t:=true) (by simp [Act.eval,Array.replicate]) ?_
 simp only [if_true]
 apply wpS_seq
 apply wpS_region
 simp [wpOpsS,go_sem,hc,hz,ht,Exit.thenS,Array.replicate]
 apply wpS_seq
 apply wpS_region
 simp [wpOpsS,go_sem,hc,hz,ht,Exit.thenS,Array.replicate]
 refine wpS_cond (t:=false) (by simp [Act.eval,Array.replicate]) ?_
 simp only [Bool.false_eq_true,if_false]
 refine wpS_of_wp (wp_skip ?_)
 cases c₀
 simp_all [bodyPostS,results,Tryz.results267]
theorem zafv (p:Addr) (w:World) :
  CallsD Tryz.prog zcn #[.pointer (some p)] .returning w fun e u' w'=>e = .returned (.tuple #[])∧u' = .returning∧w'=w:=by
 refine callsD_of_wpS Tryz.func267 rfl fun c₀ cs hu => ?_
 apply wpS_seq
 apply wpS_region
 simp [wpOpsS,go_sem,recoverD,hu,Tryz.ntmps267,Exit.thenS]
 apply wpS_seq
 apply wpS_region
 simp [wpOpsS,go_sem,recoverD,hu,Tryz.ntmps267,Exit.thenS]
 refine wpS_cond (t:=false) (by simp [Act.eval,Array.replicate]) ?_
 simp only [Bool.false_eq_true,if_false]
 refine wpS_of_wp (wp_skip ?_)
 cases c₀
 simp_all [bodyPostS,results,Tryz.results267]
theorem z59 {P:Program} {f:FuncId} {fn:Func} {body:Code} {n:Nat} {args:List Value} {w:World} {R:Ending→World→Prop} (hf:P.funcs[f]? = some fn) (hb:fn.body=some body) (hn:fn.ntmps=n) (hl:args.length≤n)
  (h:∀a:Act,a.tmps.size=n→(∀(i:Nat) v,args[i]? = some v→a.tmps.getD i undef=v)→a.defers=[]→body.wpIn (fnc none) 0 P (bodyPostD P fn R) a w):Calls P f args.toArray w R:=by
 refine calls_of_wp_defers hf hb (wpIn_wide (n:=0).1 (h _ ?_ ?_ rfl))
 ·simp [hn]; omega
 ·intro i v hv
  rw [Array.getD_eq_getD_getElem?,Array.getElem?_append_left (by simpa using (List.getElem?_eq_some_iff.1 hv).1)]
  simp [hv]
noncomputable def zaad:Code:=zmz Tryz.f237
noncomputable def zaez:Code:=cL (cR zaad)
noncomputable def zaex:Code:=cR (cR (cB (cL (cR (cO (cB (cR (cL (cR (cR zaad))))))))))
theorem z81:zaad = .seq zdr (.seq zaez (.seq (.seq zds (.block 0 (.loop (.seq zdx (.seq (.block 1 (seqs zcg zaex)) zch))))) zb4)):=by kernel_rfl
def zace (b:Nat):Deferred:={ target:=.fn (.func zcn) #[.pointer (some ⟨b,0,none⟩)],args := #[] }
theorem zae0 {Q:Exit→Act→World→Prop} {a:Act} {w:World} {b:Nat} (hn:a.tmps.size=52) (h4:a.tmps.getD 4 undef = .pointer (some ⟨b,0,none⟩))
  (h:∀a':Act,a'.tmps.size=52→a'.defers=zace b::a.defers→(∀i,i≠7→a'.tmps.getD i undef=a.tmps.getD i undef)→Q .normal a' w):zaez.wpIn (fnc none) 0 Tryz.prog Q a w:=by
 have hmf:∀(fn:Fn) (first cap:Array Value) (w:World),(Instr.makeFunc fn first cap).run Tryz.prog w = .ok (.func fn first cap) w:=fun _ _ _ _=>rfl
 show Code.wpIn Fence.wide 0 Tryz.prog zaez Q a w
 refine wpIn_wide.2 (wp_region (id:=1) ?_)
 simp [wpOps,go_sem,hmf,hn]
 have h4':a.tmps[4] = .pointer (some ⟨b,0,none⟩):=by simpa [Array.getD,hn] using h4
 refine .inl (.inl ?_)
 rw [h4']
 exact h _ (by simp [hn]) rfl fun i hi=>zh6 (Ne.symm hi)
theorem zaey {Q:Exit→Act→World→Prop} {a:Act} {w:World} {d:Bool} {g:Int} (hn:a.tmps.size=52) (h48:a.tmps.getD 48 undef = .bool d) (h5:a.tmps.getD 5 undef = .int .i64 g)
  (h0:d=false→Q .normal a w) (h1:d=true→∀a':Act,a'.tmps.size=52→a'.defers=a.defers→(∀i,i<49→a'.tmps.getD i undef=a.tmps.getD i undef)→Q (.panic [{ v:=.iface 215 (.agg #[.int .i64 g]),recovered:=false }]) a' w):zaex.wpIn (fnc none) 0 Tryz.prog Q a w:=by
 show Code.wpIn Fence.wide 0 Tryz.prog zaex Q a w
 have h48':a.tmps[48] = .bool d:=by simpa [Array.getD,hn] using h48
 have h5':a.tmps[5] = .int .i64 g:=by simpa [Array.getD,hn] using h5
 refine wpIn_wide.2 (wp_cond (t:=d) (by simp [Act.eval,hn,h48']) ?_)
 cases d with
 | false=>exact wp_skip (h0 rfl)
 | true =>
  simp only [if_true]
  refine wp_region (id:=7) ?_
  have hp:(Instr.panic (.iface 215 (.agg #[.int .i64 g]))).run Tryz.prog w = .halt (.panic (.iface 215 (.agg #[.int .i64 g]))) w:=rfl
  simp [wpOps,go_sem,hn,h5',hp]
  repeat refine Or.inl ?_
  exact h1 rfl _ (by simp [hn]) rfl fun i hi=>by
   show (((a.tmps.setIfInBounds 49 _).setIfInBounds 50 _).setIfInBounds 51 _).getD i undef=_
   rw [zh6 (by omega),zh6 (by omega),zh6 (by omega)]
theorem zaho:zkw tbl za2=some ⟨false,[.bool],.bool⟩:=by kernel_rfl
theorem zrl {fn:Func} {p:Tmp} (h:fn.results = #[.cell p za2]) {tmps:Array Value} {b:Nat} {n:Bool} {w:World} {t:TypeId} (hp:tmps.getD p undef = .pointer (some ⟨b,0,none⟩)) (hb:w.heap[b]? = some (.cells ([.bool n]:List Value).toArray t (0,0))) :
  (results fn tmps).run Tryz.prog w = .ok (.bool n) w:=by
 have hl:=zhx tok zaho (vs:=[.bool n]) (v:=.bool n) rfl rfl (a:=⟨b,0,none⟩) (w:=w) (fun j x hx=>by rw [Addr.add_lit,zi8 hb]; simpa using hx)
 have hp':tmps[p]?.getD undef = .pointer (some ⟨b,0,none⟩):=by simpa using hp
 simp [results,h,hp',asAddr,hl]
theorem zahq {K c:Int} {V:Wld} (sw:SW K V):tkL c [0] V=(V,true):=by
 obtain ⟨_,_,hg⟩:=sw.a.u sw.a.root
 have:tkG V c 0=(V,true):=by unfold tkG; rw [if_pos (hg.root rfl).2.2]
 rw [zu2,this,if_pos rfl]; rfl
section
variable {base pb:Nat} {W:Wld} {m:MW} {w:World}
theorem Mp.far {w0 w':World} {m0:MW} {b1:Nat} (h:Mp base pb [] w0 m0 w W m) (hx:ExtX [b1] w w') (hb:w0.heap.size≤b1) (hn:b1∉zax 8 m) (hp:b1≠pb):Mp base pb [] w0 m0 w' W m :=
 ⟨⟨h.own.ext hx fun x hx hm => hn (by have:x=b1:=by simpa using hm
                                      exact this ▸ hx), h.v.ext.fresh hx fun x hm => .inl (by have:x=b1:=by simpa using hm
                                                                                              omega),h.v.sub,h.v.hd,by simp,by simp⟩,zat h.pt hx (by simpa using Ne.symm hp),h.pn,by simp⟩
structure TkS (K:Int) (base pb b b1:Nat) (c:Int) (w0:World) (m:MW) (W:Wld) (t:Int) (a:Act) (w2:World) (g:Int) (V:Wld):Prop where
 sz:a.tmps.size=52
 df:a.defers=[zace b1]
 a2:a.tmps.getD 2 undef = .pointer (some ⟨b,0,none⟩)
 a4:a.tmps.getD 4 undef = .pointer (some ⟨b1,0,none⟩)
 a5:a.tmps.getD 5 undef = .int .i64 g
 bx:w2.heap[b]? = some (.cells ([.pointer (pA pb),.int .i64 c]:List Value).toArray zil (0,0))
 dr:w2.heap[b1]? = some (.cells ([.bool false]:List Value).toArray za2 (0,0))
 nb:b∉zax 8 m
 nd:b1∉zax 8 m
 nw:w0.heap.size≤b1
 mp:Mp base pb [] w0 m w2 V m
 sw:SW K V
 o:zlu W V
 u:zad V.groups g=true
 e:tkL c (pthR W t) W=tkL c (zdb V.groups g++[0]) V
 wet:∀x∈zdb V.groups g,(gi V.groups x).band.quota≠0→gi (gi V.groups x).band.dry c=false
theorem zm1 {K c t:Int} (h:PW base pb w W m) (sw:SW K W) (c0:0≤c) (c1:c<(W.cpus.length:Int)) (t0:0≤t) (t1:t<12) (hu:zad W.groups (tkk W t).group=true) (hd:∀g∈pthR W t,(gi W.groups g).band.quota≠0→gi (gi W.groups g).band.dry c=false) :
  Calls Tryz.prog zgs #[.agg #[.pointer (pA pb),.int .i64 c],.int .i64 t] w fun e w'=>e = .returned (.bool (!(tkL c (pthR W t) W).2))∧Mp base pb [] w m w' (tkL c (pthR W t) W).1 m:=by
 have hM:=Mp.start h
 have htl:=sw.a.t
 refine z59 (args:=[.agg #[.pointer (pA pb),.int .i64 c],.int .i64 t]) (n:=52) Tryz.func237 (body:=zaad) rfl (by kernel_rfl) (by simp) fun a hn ha hd0 => ?_
 rw [z81]
 have a0:=ha 0 _ rfl
 have a1:=ha 1 _ rfl
 refine wpIn_seq (znt none (pA pb) c (R:=fun e vs w1=>e = .normal∧∃b b1:Nat,vs=[.pointer (some ⟨b,0,none⟩),.pointer (some ⟨b1,0,none⟩)]∧w.heap.size≤b∧w.heap.size≤b1∧w1.heap[b]? = some (.cells ([.pointer (pA pb),.int .i64 c]:List Value).toArray zil (0,0))∧w1.heap[b1]? = some (.cells ([.bool false]:List Value).toArray za2 (0,0))∧ExtX [] w w1) hn (fun p hp => ?_) ?_ fun e vs a1' w1 hR fo => ?_)
 ·simp only [List.mem_cons,List.not_mem_nil,or_false] at hp
  subst hp
  exact ⟨Nat.le_of_ble_eq_true rfl,a0⟩
 ·intro b wb hx hb0 hcell _ b1 wb1 hx1 hb1 hcell1 _ wr hx2
  exact ⟨rfl,b,b1,rfl,hb0,Nat.le_trans hx.size hb1,zat (zat hcell hx1 (by simp)) hx2 (by simp),zat hcell1 hx2 (by simp),(hx.trans hx1).trans hx2⟩
 obtain ⟨rfl,b,b1,rfl,hb,hb1,hcb,hcd,hX1⟩:=hR
 have oo:=fo.out
 simp only [List.map_cons,List.map_nil,List.cons.injEq,and_true] at oo
 have o1:a1'.tmps.getD 1 undef = .int .i64 t:=(fo.kept 1 (by decide +kernel)).trans a1
 refine wpIn_seq (zae0 (b:=b1) (by rw [fo.size,hn]) oo.2 fun a2 hn2 hdf2 hk2 => ?_)
 have hdf:a2.defers=[zace b1]:=by rw [hdf2,fo.defers,hd0]
 have q1:a2.tmps.getD 1 undef = .int .i64 t:=(hk2 1 (by decide)).trans o1
 have q2:a2.tmps.getD 2 undef = .pointer (some ⟨b,0,none⟩):=(hk2 2 (by decide)).trans oo.1
 have q4:a2.tmps.getD 4 undef = .pointer (some ⟨b1,0,none⟩):=(hk2 4 (by decide)).trans oo.2
 have hM1:=hM.nil hX1
 have hbn:b∉zax 8 m:=fun hm=>by have:=(h.own.lt b hm).2; omega
 have hb1n:b1∉zax 8 m:=fun hm=>by have:=(h.own.lt b1 hm).2; omega
 have hbox:∀{w2:World},w2.heap[b]? = some (.cells ([.pointer (pA pb),.int .i64 c]:List Value).toArray zil (0,0))→zaa [] w2 (some ⟨b,0,none⟩) 0 [.pointer (pA pb)]∧zaa [] w2 (some ⟨b,0,none⟩) 1 [.int .i64 c]:=fun hc =>
  ⟨zhl hc (by simp) (k0:=0) fun j v hj=>by rcases j with _ | j <;> simp at hj ⊢ <;> exact hj,zhl hc (by simp) (k0:=0) fun j v hj=>by rcases j with _ | j <;> simp at hj ⊢ <;> exact hj⟩
 refine wpIn_seq (wpIn_seq (znv none t (some ⟨b,0,none⟩) (R:=fun e vs w2=>e = .normal∧vs=[.int .i64 (tkk W t).group]∧ExtX [] w1 w2) hn2 (fun p hp => ?_) ?_ fun e vs a3 w3 hR fo3 => ?_))
 ·simp only [List.mem_cons,List.not_mem_nil,or_false] at hp
  rcases hp with rfl | rfl
  ·exact ⟨Nat.le_of_ble_eq_true rfl,q1⟩
  ·exact ⟨Nat.le_of_ble_eq_true rfl,q2⟩
 ·have hp:=hM1.wpt
  exact ⟨rfl,_,(hbox hcb).1,hp.some,_,_,_,hp.tasks,hp.rd.t.ix zc6 t0 (by omega),_,hp.rd.t.f t0 (by omega) (j:=1) rfl,fun wr hx=>⟨rfl,rfl,hx⟩⟩
 obtain ⟨rfl,rfl,hX3⟩:=hR
 have o5:=fo3.out
 simp only [List.map_cons,List.map_nil,List.cons.injEq,and_true] at o5
 have hpath:zdb W.groups (tkk W t).group++[0]=pthR W t:=rfl
 refine wpIn_block (zop (I:=fun k a2 w2=>∃g V,k=(dep 3 W.groups g).toNat∧TkS K base pb b b1 c w m W t a2 w2 g V)
  ⟨(tkk W t).group,W,rfl,⟨by rw [fo3.size,hn2],by rw [fo3.defers,hdf],(fo3.kept 2 (by decide +kernel)).trans q2,(fo3.kept 4 (by decide +kernel)).trans q4,o5,zat hcb hX3 (by simp),zat hcd hX3 (by simp),hbn,hb1n,hb1,hM1.nil hX3,sw,zlu.refl _,hu,rfl,fun x hx=>hd x (List.mem_append_left _ hx)⟩⟩ ?_)
 rintro k a4 w4 ⟨g,V,rfl,hS⟩
 refine wpIn_seq (zo4 none g (R:=fun e vs w5=>(g≠0∧e = .normal∨g=0∧e = .exit 0)∧ExtX [] w4 w5) hS.sz (fun p hp => ?_) ⟨fun g1 wr hx=>⟨.inl ⟨by simpa using g1,rfl⟩,hx⟩,fun g1 wr hx=>⟨.inr ⟨by simpa using g1,rfl⟩,hx⟩⟩ fun e vs a5 w5 hR fo5 => ?_)
 ·simp only [List.mem_cons,List.not_mem_nil,or_false] at hp
  subst hp
  exact ⟨Nat.le_of_ble_eq_true rfl,hS.a5⟩
 obtain ⟨hE,hX5⟩:=hR
 have hS5:TkS K base pb b b1 c w m W t a5 w5 g V:=⟨by rw [fo5.size,hS.sz],by rw [fo5.defers,hS.df],(fo5.kept 2 (by decide +kernel)).trans hS.a2,(fo5.kept 4 (by decide +kernel)).trans hS.a4,(fo5.kept 5 (by decide +kernel)).trans hS.a5,zat hS.bx hX5 (by simp),zat hS.dr hX5 (by simp),hbn,hb1n,hb1,hS.mp.nil hX5,hS.sw,hS.o,hS.u,hS.e,hS.wet⟩
 clear hS fo5
 rcases hE with ⟨hz,rfl⟩ | ⟨hz,rfl⟩
 ·
  obtain ⟨u0,u1,hgg⟩:=hS5.sw.a.u hS5.u
  have hgl:=hS5.sw.a.gl
  have hlt2:g<(V.groups.length:Int):=by omega
  have hcV:c<(V.cpus.length:Int):=by rw [hS5.o.c]; exact c1
  obtain ⟨hup,_,_,d,hd1,hd2,_⟩:=zgj hS5.sw.a.tree hS5.u hz
  have hps:=zdz hS5.sw.a.tree hS5.u hz
  have hwet:=hS5.wet
  have hE:=hS5.e
  rw [hps] at hwet hE
  rw [List.cons_append,zu2] at hE
  obtain ⟨tk,tk2,_⟩:=zae1 hS5.sw c0 hcV hS5.u (hwet g List.mem_cons_self)
  have hp:=hS5.mp.wpt
  refine wpIn_seq (wpIn_block (zns none (some ⟨b,0,none⟩) g (R:=fun e vs w6=>e = .normal∧vs=[.bool (!(tkG V c g).2)]∧Mp base pb [] w m w6 (tkG V c g).1 m∧w6.heap[b]? = some (.cells ([.pointer (pA pb),.int .i64 c]:List Value).toArray zil (0,0))∧w6.heap[b1]? = some (.cells ([.bool false]:List Value).toArray za2 (0,0))) hS5.sz (fun p hp => ?_) ?_ ?_ (fun e vs a6 w6 hne hR _=>absurd hR.1 hne)))
  ·simp only [List.mem_cons,List.not_mem_nil,or_false] at hp
   rcases hp with rfl | rfl
   ·exact ⟨Nat.le_of_ble_eq_true rfl,hS5.a2⟩
   ·exact ⟨Nat.le_of_ble_eq_true rfl,hS5.a5⟩
  ·refine ⟨rfl,_,(hbox hS5.bx).1,hp.some,_,_,_,hp.groups,hp.rd.g.ix u0 hlt2,_,hp.rd.g.quo u0 hlt2,fun _=>rfl,c,fun _=>(hbox hS5.bx).2,fun gq wr hx _ => ?_,fun gq wr hx => ?_⟩
   ·have gq:(gi V.groups g).band.quota>0:=of_decide_eq_true gq
    have hq0:(gi V.groups g).band.quota≠0:=by omega
    obtain ⟨hb3,hbl,_⟩:=hgg.band hq0
    have hM5:=hS5.mp.nil hx
    have hown:MWd 8 base wr (setBd V g (gi V.groups g).band) m:=by rw [zou u0 hlt2]; exact hM5.own
    have hcl:c<((gi V.groups g).band.locals.length:Int):=by omega
    refine Calls.mono (zxd (op:=⟨1,c,0⟩) hown u0 u1 hb3) ?_
    rintro e1 wv5 ⟨he1,hB,hX⟩
    rw [zahy c0 hcl] at he1 hB
    have hT:tkG V c g=(setBd V g (zc1 (gi V.groups g).band c).1,decide ((zc1 (gi V.groups g).band c).2≠2)):=by unfold tkG; rw [if_neg hq0]
    refine ⟨_,he1,zby,fun wr1 hx1=>⟨rfl,?_,?_,?_,?_⟩⟩
    ·rw [hT,decide_eq_true gq]
     by_cases h2:(zc1 (gi V.groups g).band c).2=2 <;> simp [h2]
    ·rw [hT]
     exact (hM5.deed hB hX (zmg (zrc u0 hlt2).fr)).nil hx1
    ·exact zat (zat (zat hS5.bx hx (by simp)) hX hbn) hx1 (by simp)
    ·exact zat (zat (zat hS5.dr hx (by simp)) hX hb1n) hx1 (by simp)
   ·have gq:¬(gi V.groups g).band.quota>0:=fun h=>gq (decide_eq_true h)
    have hq0:(gi V.groups g).band.quota=0:=Decidable.byContradiction fun hn=>by have:=(hgg.band hn).1.q1; omega
    have hT:tkG V c g=(V,true):=by unfold tkG; rw [if_pos hq0]
    refine ⟨rfl,?_,?_,zat hS5.bx hx (by simp),zat hS5.dr hx (by simp)⟩
    ·rw [hT]; rfl
    ·rw [hT]; exact hS5.mp.nil hx
  rintro vs a6 w6 ⟨_,rfl,hM6,hb6,hd6⟩ fo6
  have o48:=fo6.out
  simp only [List.map_cons,List.map_nil,List.cons.injEq,and_true] at o48
  have s6:a6.tmps.size=52:=by rw [fo6.size,hS5.sz]
  have k2:=(fo6.kept 2 (by decide +kernel)).trans hS5.a2
  have k4:=(fo6.kept 4 (by decide +kernel)).trans hS5.a4
  have k5:=(fo6.kept 5 (by decide +kernel)).trans hS5.a5
  have d6:a6.defers=[zace b1]:=by rw [fo6.defers,hS5.df]
  refine zaey s6 o48 k5 (fun hf => ?_) (fun hf a7 s7 hd7 hk7 => ?_)
  ·have ht:(tkG V c g).2=true:=by simpa using hf
   rw [if_pos ht] at hE
   show zch.wpIn (fnc none) 0 Tryz.prog _ a6 w6
   have hp6:=hM6.wpt
   have hgl6:(tkG V c g).1.groups.length=8:=tk.sw.a.gl
   refine znu none (some ⟨b,0,none⟩) g (R:=fun e vs w7=>e = .normal∧vs=[.int .i64 (gi (tkG V c g).1.groups g).parent]∧ExtX [] w6 w7) s6 (fun p hp => ?_) ⟨rfl,_,(hbox hb6).1,hp6.some,_,_,_,hp6.groups,hp6.rd.g.ix u0 (by omega),_,hp6.rd.g.parent u0 (by omega),fun wr hx=>⟨rfl,rfl,hx⟩⟩ fun e vs a7 w7 hR fo7 => ?_
   ·simp only [List.mem_cons,List.not_mem_nil,or_false] at hp
    rcases hp with rfl | rfl
    ·exact ⟨Nat.le_of_ble_eq_true rfl,k2⟩
    ·exact ⟨Nat.le_of_ble_eq_true rfl,k5⟩
   obtain ⟨rfl,rfl,hX7⟩:=hR
   have o5:=fo7.out
   simp only [List.map_cons,List.map_nil,List.cons.injEq,and_true] at o5
   rw [tk.o.g.p] at o5
   have hpq:zdb (tkG V c g).1.groups (gi V.groups g).parent=zdb V.groups (gi V.groups g).parent:=z5f tk.o.g _
   refine ⟨_,?_,(gi V.groups g).parent,(tkG V c g).1,rfl,⟨by rw [fo7.size,s6],by rw [fo7.defers,d6],(fo7.kept 2 (by decide +kernel)).trans k2,(fo7.kept 4 (by decide +kernel)).trans k4,o5,zat hb6 hX7 (by simp),zat hd6 hX7 (by simp),hbn,hb1n,hb1,hM6.nil hX7,tk.sw,hS5.o.trans tk.o,by rw [tk.o.g.usd]; exact hup,by rw [hpq]; exact hE,fun x hx hq => ?_⟩⟩
   ·rw [hS5.o.g.dep] at hd1 hd2
    rw [hd1,hd2]; omega
   ·rw [hpq] at hx
    have x0:=(zac.1 (zym hS5.sw.a.tree _ hup x hx).1).1
    rw [tk.q x x0] at hq
    exact (tk2 ht).2 x x0 (hwet x (List.mem_cons_of_mem _ hx)) hq
  ·have ht:¬(tkG V c g).2=true:=by simpa using hf
   rw [if_neg ht] at hE
   show Leaves _ _ a7.tmps _ a7.defers (.panicking [_]) w6
   rw [hd7,d6]
   refine leaves_cons (f:=zcn) (args:=#[.pointer (some ⟨b1,0,none⟩)]) (by simp) (by simp [go_sem]; rfl) ((zab7 ⟨b1,0,none⟩ false g [] _ (by rw [zi8 hd6]; rfl) (by simp [World.frozen?,hd6])).mono ?_)
   rintro e u' w'' ⟨rfl,rfl,rfl⟩
   have hb9:(w6.setCell ⟨b1,0,none⟩ (.bool true)).heap[b1]? = some (.cells ([.bool true]:List Value).toArray za2 (0,0)):=by
    have:=zqa (k:=0) (n:=0) (vs:=[.bool true]) hd6
    exact this
   refine ⟨.bool true,zrl (by kernel_rfl) ((hk7 4 (by decide)).trans k4) hb9,?_,?_⟩
   ·rw [hE]; rfl
   ·rw [hE]
    exact hM6.far ((ExtX.refl [] w6).of_nil.setCell (p:=⟨b1,0,none⟩) (.inr (by simp)) _) hb1 hb1n (by have:=zkn h.pt; omega)
 ·
  subst hz
  have hE:=hS5.e
  rw [show zdb V.groups 0=[] from zcf _ _,List.nil_append,zahq hS5.sw] at hE
  show zb4.wpIn (fnc none) 0 Tryz.prog _ a5 w5
  refine zna none (some ⟨b1,0,none⟩) (R:=fun e vs w6=>e = .ret∧ExtX [b1] w5 w6∧w6.heap[b1]? = some (.cells ([.bool false]:List Value).toArray za2 (0,0))) hS5.sz (fun p hp => ?_) ⟨z5q (k0:=0) hS5.dr (by simp) (by simp),fun wr hx=>⟨rfl,?_,?_⟩⟩ fun e vs a6 w6 hR fo6 => ?_
  ·simp only [List.mem_cons,List.not_mem_nil,or_false] at hp
   subst hp
   exact ⟨Nat.le_of_ble_eq_true rfl,hS5.a4⟩
  ·have e1:ExtX [b1] w5 (sto w5 (some ⟨b1,0,none⟩) 0 [.bool false]):=zls (bs:=[b1]) (by simp)
   exact e1.trans hx.of_nil
  ·exact zat (zqa (vs:=[.bool false]) (n:=0) hS5.dr) hx (by simp)
  obtain ⟨rfl,hX6,hd6⟩:=hR
  have d6:a6.defers=[zace b1]:=by rw [fo6.defers,hS5.df]
  show Leaves _ _ a6.tmps _ a6.defers .returning w6
  rw [d6]
  refine leaves_cons (f:=zcn) (args:=#[.pointer (some ⟨b1,0,none⟩)]) (by simp) (by simp [go_sem]; rfl) ((zafv ⟨b1,0,none⟩ _).mono ?_)
  rintro e u' w'' ⟨rfl,rfl,rfl⟩
  refine ⟨.bool false,zrl (by kernel_rfl) ((fo6.kept 4 (by decide +kernel)).trans hS5.a4) hd6,?_,?_⟩
  ·rw [hE]; rfl
  ·rw [hE]
   exact hS5.mp.far hX6 hb1 hb1n (by have:=zkn h.pt; omega)
end
end Go.Proofs.YthhmnlcimojhlaaGreatDoor
namespace Go.Proofs.YthhmnlcimojhlaaGreatDoor
open Go.RowKit
set_option linter.unusedVariables false
set_option linter.unusedSimpArgs false
set_option maxRecDepth 10000
def ifvT (W:Wld) (i:Int):Value:=.iface zdt (.agg (.int .i64 i::encT (tkk W i)).toArray)
def ifvG (W:Wld) (c:Int) (i:Int):Value:=.iface zd9 (.agg (.int .i64 i::encS (shf W i c)).toArray)
def ifv (W:Wld) (c:Int) (i:Nat):Value:=if i<12 then ifvT W (i:Int) else ifvG W c ((i - 12:Nat):Int)
def encM (W:Wld) (c:Int):Option Nat→List Value
 | none=>[.nilIface]
 | some i=>[ifv W c i]
theorem zaf4 (W:Wld) (c:Int) (x:Option Nat):(encM W c x).length=1:=by cases x <;> rfl
theorem zaj5 (W:Wld) (c:Int) (x:Option Nat):∃v r,encM W c x=v::r:=by cases x <;> exact ⟨_,_,rfl⟩
theorem z9i (W:Wld) (c:Int) (x:Option Nat):za7 (encM W c x)=true:=by
 cases x with
 | none=>rfl
 | some i =>
  show za7 [ifv W c i]=true
  by_cases h:i<12
  ·rw [show ifv W c i=ifvT W (i:Int) from if_pos h]; rfl
  ·rw [show ifv W c i=ifvG W c ((i - 12:Nat):Int) from if_neg h]; rfl
theorem zsg (W:Wld) (c:Int):Elt Tryz.prog (encM W c) 1 za8 16 none:=zs9 (by kernel_rfl) (zaf4 W c)
theorem zy1:Tryz.prog.underlying zbn=some (.slice za8):=by kernel_rfl
theorem zai6 {W:Wld} {c:Int} {i:Nat} (h:i<12):ifv W c i=ifvT W (i:Int):=if_pos h
theorem zai5 {W:Wld} {c:Int} {i:Nat}:ifv W c (12+i)=ifvG W c (i:Int):=by
 unfold ifv
 rw [if_neg (by omega),show 12+i - 12=i by omega]
theorem zafw {bs:List Nat} {w:World} {o:Option Addr} {n:Nat} {vs:List Value} (h:zaa bs w o n vs):zaa bs w (o.map (·.add n)) 0 vs:=zii fun j v hj=>by
 obtain ⟨a,ha,hb,hc⟩:=h.get j v hj
 refine ⟨a.add n,by rw [ha]; rfl,by rw [zdf]; exact hb,?_⟩
 rw [zgi,Nat.zero_add]; exact hc
theorem zw3 (p:Nat→Bool) (k:Nat) (h:p k=true):(List.range (k+1)).filter p=(List.range k).filter p++[k]:=by
 rw [List.range_succ,List.filter_append]; simp [h]
theorem zmh (p:Nat→Bool) (k:Nat) (h:p k=false):(List.range (k+1)).filter p=(List.range k).filter p:=by
 rw [List.range_succ,List.filter_append]; simp [h]
theorem zw2 (p:Nat→Bool) (k:Nat):((List.range k).filter p).length≤k:=by
 have:=List.length_filter_le p (List.range k)
 simpa using this
def memL (W:Wld) (g c:Int) (k:Nat):List Nat:=(List.range k).filter (memP W g c)
section
variable {W:Wld} {m:MW} {w:World} {bs:List Nat} {p:Option Addr}
theorem z0g {g c:Int} (h:WPt bs w p W m) (ha:WA W) (c0:0≤c) (c1:c<(W.cpus.length:Int)) (hb0:bs=[]) :
  Calls Tryz.prog zfr #[.agg #[.pointer p,.int .i64 c],.int .i64 g] w fun e w'=>∃o cap,e = .returned (.slice o (memL W g c 20).length cap)∧Own (encM W c) 1 za8 w.heap.size w' o cap ((memL W g c 20).map some)∧ExtX [] w w':=by
 subst hb0
 refine (zp1 p c g (R:=fun v w'=>∃o cap,v = .slice o (memL W g c 20).length cap∧Own (encM W c) 1 za8 w.heap.size w' o cap ((memL W g c 20).map some)∧ExtX [] w w') ?_).mono fun e w' ⟨v,he,o,cap,hv,h1⟩=>⟨o,cap,by rw [he,hv],h1⟩
 have htl:=ha.t
 have hgl:=ha.gl
 intro b hb
 refine ⟨h.some,_,_,_,h.tasks,?_⟩
 refine ⟨fun vs w1=>∃(k:Nat) (o:Option Addr) (c':Nat),vs=[.slice o ((memL W g c k).map some).length c',.int .i64 (k:Int)]∧k≤12∧Sc w [b] w1∧Ob (encM W c) 1 za8 w.heap.size [b] w1 o c' ((memL W g c k).map some),zc5 12 1,
  fun wr hx _=>⟨0,none,0,rfl,by omega,⟨hx,by simpa using hb⟩,⟨.inl ⟨rfl,rfl,rfl⟩,by simp [zaq]⟩⟩,?_⟩
 rintro o1 L1 C1 x w1 hs1 ⟨k,o',c',he,hk,s1,hO⟩
 simp only [List.cons.injEq,Value.int.injEq,Value.slice.injEq,true_and,and_true] at he
 obtain ⟨⟨rfl,rfl,rfl⟩,rfl⟩:=he
 have hp1:=h.sc s1
 refine ⟨fun hlt => ?_,fun hge => ?_⟩
 ·have hlt:=of_decide_eq_true hlt
  have hk12:k<12:=by omega
  refine ⟨h.rd.t.ix zc6 (by omega) hlt,_,_,_,_,_,_,_,_,_,hp1.rd.t k (by omega) hlt,fun b1 hb1=>⟨_,zmq hp1 (by omega) hlt,fun q b2 hb2 wr1 hx1 hs2 hcell => ?_,fun q=>⟨⟨by omega,by omega⟩,fun wr3 hx3 _=>⟨⟨k+1,o1,C1,?_,by omega,s1.step hx3,?_⟩,zco (k:=k) rfl rfl hk12⟩⟩⟩⟩
  ·have q':memP W g c k=true:=by rw [zpo hk12]; rwa [Int.toNat_natCast] at q
   have s2:=s1.put2 hx1 hb1 hb2
   have hO2:=hO.put2 hx1 hb1 hb2
   obtain ⟨o2,c2,w2,hrun,hk2,hO3,hx2⟩:=hO2.app1 (zsg W c) zy1 (x:=some k) hs2 s2.ext.size (by
    show _=some (Obj.cells [ifv W c k].toArray _ _)
    rw [zai6 hk12]; exact hcell) (z9i _ _ _) (by have:=zw2 (memP W g c) k; simp [memL]; omega) (by decide) zbn #[false,false]
   have s3:=s2.call hx2 fun x hm=>(hO2.own.lt x hm).1
   have hL:(memL W g c k).map some++[some k]=(memL W g c (k+1)).map some:=by
    unfold memL; rw [zw3 _ _ q',List.map_append]; rfl
   rw [hL] at hrun hO3
   exact ⟨_,_,_,w2,hrun,hk2,⟨by omega,by omega⟩,fun wr2 hx3 _=>⟨⟨k+1,o2,c2,by simp,by omega,(s3.step hx3).sub (by simp),(hO3.step hx3).sub (by simp)⟩,zco (k:=k) rfl rfl hk12⟩⟩
  ·have q':memP W g c k=false:=by rw [zpo hk12]; rwa [Int.toNat_natCast] at q
   have hL:memL W g c (k+1)=memL W g c k:=zmh _ _ q'
   rw [hL]; simp
  ·have q':memP W g c k=false:=by rw [zpo hk12]; rwa [Int.toNat_natCast] at q
   have hL:memL W g c (k+1)=memL W g c k:=zmh _ _ q'
   rw [hL]; exact hO.step hx3
 ·have hge:=of_decide_eq_false hge
  have:k=12:=by omega
  subst this
  refine ⟨h.some,_,_,_,hp1.groups,?_⟩
  refine ⟨fun vs w1=>∃(k:Nat) (o:Option Addr) (c':Nat),vs=[.slice o ((memL W g c (12+k)).map some).length c',.int .i64 (k:Int)]∧k≤8∧Sc w [b] w1∧Ob (encM W c) 1 za8 w.heap.size [b] w1 o c' ((memL W g c (12+k)).map some),zc5 8 1,
   fun wr hx _=>⟨0,o1,C1,rfl,by omega,s1.step hx,hO.step hx⟩,?_⟩
  rintro o3 L3 C3 x w3 hs3 ⟨k,o',c',he,hk,s3,hO3⟩
  simp only [List.cons.injEq,Value.int.injEq,Value.slice.injEq,true_and,and_true] at he
  obtain ⟨⟨rfl,rfl,rfl⟩,rfl⟩:=he
  have hp3:=h.sc s3
  refine ⟨fun hlt => ?_,fun hge2 wr hx => ?_⟩
  ·have hlt:=of_decide_eq_true hlt
   have hk8:k<8:=by omega
   have hk0:(0:Int)≤(k:Int):=by omega
   refine ⟨_,znz hp3 ha (by omega) hlt c0 c1,fun q => ?_,fun q=>⟨⟨by omega,by omega⟩,fun wr7 hx7 _=>⟨⟨k+1,o3,C3,?_,by omega,s3.step hx7,?_⟩,zco (k:=k) rfl rfl hk8⟩⟩⟩
   ·rw [Int.toNat_natCast] at q
    have q':memP W g c (12+k)=true:=by rw [zra]; exact q
    have hus:(gi W.groups (k:Int)).used=true:=by
     unfold actG at q
     simp only [Bool.and_eq_true] at q
     exact q.1.2.1
    have hkc:c<((gi W.groups (k:Int)).shelves.length:Int):=by rw [ha.sl (z5p hlt hus)]; exact c1
    refine ⟨_,zbb hp3 hk0 hlt c0 hkc,(hp3.sh hk0 hlt c0 hkc).1,_,_,_,_,_,zafw (hp3.rd.g.shelves _ hk0 hlt c c0 hkc),fun b3 hb3 wr5 hx5 hs5 hcell => ?_⟩
    have s5:=s3.put hx5 hb3
    have hO5:=hO3.put hx5 hb3
    obtain ⟨o2,c2,w2,hrun,hk2,hO6,hx2⟩:=hO5.app1 (zsg W c) zy1 (x:=some (12+k)) hs5 s5.ext.size (by
     show _=some (Obj.cells [ifv W c (12+k)].toArray _ _)
     rw [zai5]; exact hcell) (z9i _ _ _) (by have:=zw2 (memP W g c) (12+k); simp [memL]; omega) (by decide) zbn #[false,false]
    have s6:=s5.call hx2 fun x hm=>(hO5.own.lt x hm).1
    have hL:(memL W g c (12+k)).map some++[some (12+k)]=(memL W g c (12+(k+1))).map some:=by
     unfold memL; rw [show 12+(k+1)=12+k+1 from rfl,zw3 _ _ q',List.map_append]; rfl
    rw [hL] at hrun hO6
    exact ⟨_,_,_,w2,hrun,hk2,⟨by omega,by omega⟩,fun wr2 hx3 _=>⟨⟨k+1,o2,c2,by simp,by omega,(s6.step hx3).sub (by simp),(hO6.step hx3).sub (by simp)⟩,zco (k:=k) rfl rfl hk8⟩⟩
   ·rw [Int.toNat_natCast] at q
    have q':memP W g c (12+k)=false:=by rw [zra]; exact q
    have hL:memL W g c (12+(k+1))=memL W g c (12+k):=zmh _ _ q'
    rw [hL]; simp
   ·rw [Int.toNat_natCast] at q
    have q':memP W g c (12+k)=false:=by rw [zra]; exact q
    have hL:memL W g c (12+(k+1))=memL W g c (12+k):=zmh _ _ q'
    rw [hL]; exact hO3.step hx7
  ·have hge2:=of_decide_eq_false hge2
   have:k=8:=by omega
   subst this
   exact ⟨o3,C3,by simp,(hO3.step hx).own,(s3.step hx).ext⟩
theorem zagn {x:Int} {t:Tsk}:zab bs Tryz.prog zcs #[.agg (.int .i64 x::encT t).toArray] w (.int .i64 t.v):=znf x t.state t.group t.cpu t.nice t.mask t.v t.sum t.used t.load fun wr hx=>fun _ _=>rfl
theorem zagm {x:Int} {s:Shf}:zab bs Tryz.prog zci #[.agg (.int .i64 x::encS s).toArray] w (.int .i64 s.v):=zmr x s.floor s.on s.v s.w s.sum fun wr hx=>fun _ _=>rfl
theorem zaip (W : Wld) (i : Int) (w : World) : (z74 "loop.example/stint/impl.time" (ifvT W i) []).run Tryz.prog w = .ok (.enter zcs #[.agg (.int .i64 i :: encT (tkk W i)).toArray]) w := by kernel_rfl
theorem zaf0 (W : Wld) (c i : Int) (w : World) : (z74 "loop.example/stint/impl.time" (ifvG W c i) []).run Tryz.prog w = .ok (.enter zci #[.agg (.int .i64 i :: encS (shf W i c)).toArray]) w := by kernel_rfl
theorem zah7 (c : Int) (i : Nat) : ∃ (F : FuncId) (aa : Array Value), (∀ w : World, (z74 "loop.example/stint/impl.time" (ifv W c i) []).run Tryz.prog w = .ok (.enter F aa) w) ∧ ∀ (bs : List Nat) (w : World), zab bs Tryz.prog F aa w (.int .i64 (memV W c i)) := by
 by_cases h:i<12
 ·rw [zai6 h,zxu h]
  refine ⟨zcs,#[.agg (.int .i64 (i:Int)::encT (tkk W (i:Int))).toArray],?_,?_⟩
  ·intro w; exact zaip W (i:Int) w
  ·intro bs w; exact zagn (x:=(i:Int)) (t:=tkk W (i:Int))
 ·have e:i=12+(i - 12):=by omega
  rw [e,zai5,zxt]
  refine ⟨zci,#[.agg (.int .i64 ((i - 12:Nat):Int)::encS (shf W ((i - 12:Nat):Int) c)).toArray],?_,?_⟩
  ·intro w; exact zaf0 W c ((i - 12:Nat):Int) w
  ·intro bs w; exact zagm (x:=((i - 12:Nat):Int)) (s:=shf W ((i - 12:Nat):Int) c)
theorem zxa {x:Int}:zab bs Tryz.prog zfz #[.int .i64 x] w (.bool false):=zx1 x fun wr hx=>by
 show Value.bool (x != x)=_
 simp
def cmpD (x y:Int):Int:=if x<y then -1 else if x>y then 1 else 0
theorem z3z {x y:Int}:zab bs Tryz.prog zgl #[.int .i64 x,.int .i64 y] w (.int .i64 (cmpD x y)):=zsk x y fun wr hx=>by
 refine ⟨_,zxa,_,zxa,fun g=>(by cases g),fun _=>⟨fun g=>(by cases g),fun _=>⟨fun g => ?_,fun g=>⟨fun g2 => ?_,fun g2 => ?_⟩⟩⟩⟩
 ·unfold cmpD; rw [if_pos (of_decide_eq_true g)]
 ·unfold cmpD; rw [if_neg (of_decide_eq_false g),if_pos (of_decide_eq_true g2)]
 ·unfold cmpD; rw [if_neg (of_decide_eq_false g),if_neg (of_decide_eq_false g2)]
theorem z9g {x y:Int}:cmpD x y<0↔x<y:=by
 unfold cmpD
 split
 ·rename_i h; exact ⟨fun _=>h,fun _=>by decide⟩
 ·rename_i h
  split <;> exact ⟨fun hc=>by omega,fun hc=>absurd hc h⟩
theorem zagi {c:Int} {i j:Nat}:zab bs Tryz.prog zb7 #[ifv W c i,ifv W c j] w (.int .i64 (cmpD (memV W c i) (memV W c j))):=by
 refine zos fun wr0 hx0=>zqt (ifv W c i) (ifv W c j) (R:=fun v w'=>v = .int .i64 (cmpD (memV W c i) (memV W c j))∧ExtX [] wr0 w') ?_
 intro wr hx hs
 obtain ⟨F,aa,h1,h2⟩:=zah7 (W:=W) c i
 obtain ⟨F',aa',h1',h2'⟩:=zah7 (W:=W) c j
 exact ⟨F,aa,h1 wr,(h2 [] wr wr (ExtX.refl _ _)).mono fun e w1 ⟨he,hx1⟩=>⟨_,he,zby,fun wr1 hy1 _=>⟨F',aa',h1' wr1,(h2' [] wr1 wr1 (ExtX.refl _ _)).mono fun e w2 ⟨he,hx2⟩=>⟨_,he,zby,_,z3z,fun wr2 hy2=>⟨rfl,((((hx.trans hx1).trans hy1).trans hx2)).trans hy2⟩⟩⟩⟩⟩
theorem zac3 {c:Int} {L:List Nat} {o:Option Addr} {cap:Nat} (h:Rd (encM W c) 1 [] w o (L.map some)) (hl:1≤L.length) (hl2:L.length≤100) :
  Calls Tryz.prog zbd #[.slice o L.length cap,.func (.func zb7) #[] #[]] w fun e w'=>e = .returned (ifv W c (minL (memV W c) L).toNat)∧ExtX [] w w':=by
 refine (zev o L.length cap (.func zb7) #[] #[] (R:=fun v w'=>v=ifv W c (minL (memV W c) L).toNat∧ExtX [] w w') ?_).mono fun e w' ⟨v,he,hv,h1⟩=>⟨by rw [he,hv],h1⟩
 have hlm:((L.map some).length:Int)=(L.length:Int):=by simp
 have cell:∀{w1:World} {k:Nat},ExtX [] w w1→k<L.length→zaa [] w1 o (Int.toNat (k:Int)*1) [ifv W c (gi L (k:Int))]:=fun {w1 k} hx hk=>by
  have:=(h.ext hx) (k:Int) (by omega) (by omega)
  rwa [zacs some L (by omega) (by omega)] at this
 have ix:∀{k:Nat},k<L.length→Ix o L.length (k:Int):=fun {k} hk=>by
  have:=h.ix (zaj5 W c) (i:=(k:Int)) (by omega) (by omega)
  rwa [List.length_map] at this
 have take:∀{k:Nat},k<L.length→L.take (k+1)=L.take k++[gi L (k:Int)]:=fun {k} hk=>by
  rw [List.take_succ_eq_append_getElem hk,ze4 hk]
 refine ⟨fun g=>by have:=of_decide_eq_true g; omega,fun _=>⟨ix (k:=0) (by omega),_,cell (k:=0) (ExtX.refl _ _) (by omega),?_⟩⟩
 refine ⟨fun vs w1=>∃k:Nat,vs=[ifv W c (minL (memV W c) (L.take k)).toNat,.int .i64 (k:Int)]∧1≤k∧k≤L.length∧ExtX [] w w1,zc5 L.length 1,fun wr hx _=>⟨1,?_,by omega,by omega,hx⟩,?_⟩
 ·rw [take (k:=0) (by omega),List.take_zero,zux]
  rw [if_pos (by rfl)]
  simp
 rintro mv x w1 hs1 ⟨k,he,hk1,hk,hX⟩
 simp only [List.cons.injEq,Value.int.injEq,and_true] at he
 obtain ⟨rfl,_,rfl⟩:=he
 refine ⟨fun hlt => ?_,fun hge wr hx=>⟨?_,hX.trans hx⟩⟩
 ·have hlt:=of_decide_eq_true hlt
  have hkl:k<L.length:=by omega
  have hne:L.take k≠[]:=fun e=>by
   have h0:(L.take k).length=0:=by rw [e]; rfl
   rw [List.length_take] at h0
   omega
  have hmn:=zadw (memV W c) (L.take k) hne
  refine ⟨ix hkl,_,cell hX hkl,fun wr1 hx1 hs2=>.inl ⟨zb7,#[ifv W c (gi L (k:Int)),ifv W c (minL (memV W c) (L.take k)).toNat],by rfl,(zagi (bs:=[]) wr1 (ExtX.refl _ _)).mono fun e w2 ⟨he,hx2⟩=>⟨_,he,zby,fun g=>⟨ix hkl,_,cell ((hX.trans hx1).trans hx2) hkl,⟨by omega,by omega⟩,fun wr2 hx3 _=>⟨⟨k+1,?_,by omega,by omega,((hX.trans hx1).trans hx2).trans hx3⟩,zco (k:=k) rfl rfl hkl⟩⟩,fun g=>⟨⟨by omega,by omega⟩,fun wr3 hx3 _=>⟨⟨k+1,?_,by omega,by omega,((hX.trans hx1).trans hx2).trans hx3⟩,zco (k:=k) rfl rfl hkl⟩⟩⟩⟩⟩
  ·have g:=z9g.1 (of_decide_eq_true g)
   rw [take hkl,zux,if_pos (by rw [decide_eq_true g,Bool.or_true]),Int.toNat_natCast]; simp
  ·have g:=of_decide_eq_false g
   have g:¬memV W c (gi L (k:Int))<memV W c (minL (memV W c) (L.take k)).toNat:=fun hc=>g (z9g.2 hc)
   rw [take hkl,zux,if_neg (by rw [decide_eq_false g,decide_eq_false (show ¬minL (memV W c) (L.take k)<0 by omega)]; decide)]; simp
 ·have hge:=of_decide_eq_false hge
  have:k=L.length:=by omega
  subst this
  rw [List.take_length]
theorem zajr (W:Wld) (i:Int) (w:World):(Instr.typeAssert (ifvT W i) za8 zdt true).run Tryz.prog w = .ok (.tuple #[.agg (.int .i64 i::encT (tkk W i)).toArray,.bool true]) w:=by kernel_rfl
theorem zahm (W:Wld) (c i:Int) (w:World):(Instr.typeAssert (ifvG W c i) za8 zdt true).run Tryz.prog w = .ok (.tuple #[.agg (.int .i64 0::encT z88).toArray,.bool false]) w:=by kernel_rfl
theorem zahl (W:Wld) (c i:Int) (w:World):(Instr.typeAssert (ifvG W c i) za8 zd9 true).run Tryz.prog w = .ok (.tuple #[.agg (.int .i64 i::encS (shf W i c)).toArray,.bool true]) w:=by kernel_rfl
theorem z8m {c:Int} (h:WPt bs w p W m) (ha:WA W) (cur1 : -1≤(gi W.cpus c).cur) (c0:0≤c) (c1:c<(W.cpus.length:Int)):zab bs Tryz.prog zhn #[.agg #[.pointer p,.int .i64 c]] w (.int .i64 (if (gi W.cpus c).up=true then zai W c else -1)):=by
 refine zos fun wr0 hx0=>zt3 p c (R:=fun v w'=>v = .int .i64 (if (gi W.cpus c).up=true then zai W c else -1)∧ExtX [] wr0 w') ?_
 have h:=(h.ext hx0).less (cs:=[]) (by simp)
 have hgl:=ha.gl
 have cc:=h.rd.c c c0 c1
 have sm:=zmu (n:=Int.toNat c*5) cc
 intro b hb
 refine ⟨m.cO.map (fun a=>a.add (Int.toNat c*5)),by exact zhw h c0 c1,sm,_,zfy cc (j:=0) rfl,fun g wr hx=>⟨?_,hx⟩,fun g=>⟨sm,_,zfy cc (j:=1) rfl,fun _=>sm,_,fun _=>zfy cc (j:=2) rfl,fun g2=>⟨sm,_,zfy cc (j:=1) rfl,fun wr hx=>⟨?_,hx⟩⟩,fun g2 => ?_⟩⟩
 ·rw [if_neg (by simpa using g)]
 ·have gu:(gi W.cpus c).up=true:=by simpa using g
  simp only [Bool.and_eq_true,bne_iff_ne,decide_eq_true_eq] at g2
  rw [if_pos gu]
  unfold zai
  rw [if_pos ⟨by omega,g2.2⟩]
 have gu:(gi W.cpus c).up=true:=by simpa using g
 have hpk:zai W c=zxw W 0 c:=by
  unfold zai
  rw [if_neg]
  rintro ⟨e1,e2⟩
  rw [bne_iff_ne.2 (show (gi W.cpus c).cur≠-1 by omega),decide_eq_true e2] at g2
  cases g2
 rw [if_pos gu,hpk]
 refine ⟨fun vs w1=>∃x:Int,vs=[.int .i64 x]∧zad W.groups x=true∧zxw W x c=zxw W 0 c∧Sc wr0 [b] w1,fun vs _=>(3 - dep 3 W.groups (zd1 0 vs)).toNat,fun wr hx _=>⟨0,rfl,ha.root,rfl,⟨hx,by simpa using hb⟩⟩,?_⟩
 rintro x w1 hs1 ⟨x',he,hux,hI,s1⟩ wr3 hx3 hs3
 simp only [List.cons.injEq,Value.int.injEq,true_and,and_true] at he
 subst he
 have s3:=s1.step hx3
 have hp3:WPt [] wr3 p W m:=(h.sc s3).less (by simp)
 have hst:=zxx ha hux (c:=c)
 have hmin:minL (memV W c) (memL W x c 20)=za5 W x c:=zp5 _ _ _
 refine (z0g hp3 ha c0 c1 rfl).mono fun e w4 ⟨o,cap,he,hO,hx4⟩=>⟨_,_,_,he,za0 hx4 hs3,fun q wr4 hx5=>⟨?_,((s3.call0 hx4).step hx5).ext⟩,fun q wr5 hx5 hs5 => ?_⟩
 ·have hn : memL W x c 20 = [] := List.eq_nil_of_length_eq_zero (by have:(((memL W x c 20).length:Nat):Int)=0:=by simpa using q
                                                                    omega)
  have:za5 W x c = -1:=by rw [←hmin,hn]; rfl
  rw [←hI,hst,if_pos (by omega)]
 have hne:memL W x c 20≠[]:=fun e=>by rw [e] at q; simp at q
 have hlen:1≤(memL W x c 20).length:=by
  rcases Nat.eq_zero_or_pos (memL W x c 20).length with h0 | h0
  ·exact absurd (List.eq_nil_of_length_eq_zero h0) hne
  ·exact h0
 have hF:0≤za5 W x c:=by rw [←hmin]; exact zadw _ _ hne
 have s5:=(s3.call0 hx4).step hx5
 have hO5:=(Ob.of hO hs3).step hx5
 have hlt20:=zw2 (memP W x c) 20
 refine (zac3 (hO5.rd0 (zsg W c).len) hlen (by unfold memL; omega)).mono fun e w6 ⟨he,hx6⟩=>⟨_,he,za0 hx6 hs5,?_⟩
 rw [hmin]
 by_cases h12:za5 W x c<12
 ·have hi:(za5 W x c).toNat<12:=by omega
  rw [zai6 hi]
  refine ⟨_,_,_,_,_,_,_,_,_,_,_,fun wq=>zajr W _ wq,fun _ b1 hb1 wr6 hx7=>⟨?_,((s5.call0 hx6).step hx7).ext⟩,fun g=>by cases g⟩
  rw [←hI,hst,if_neg (by omega),if_pos h12,show (((za5 W x c).toNat:Nat):Int)=za5 W x c by omega]
 ·have e:(za5 W x c).toNat=12+((za5 W x c).toNat - 12):=by omega
  rw [e,zai5]
  have ei:(((za5 W x c).toNat - 12:Nat):Int)=za5 W x c - 12:=by omega
  obtain ⟨k1,k2,k3,_⟩:=zqv ha hux (c:=c) (by omega)
  have hdk:=z1k ha k1
  rw [ei]
  refine ⟨_,_,_,_,_,_,_,_,_,_,_,fun wq=>zahm W c _ wq,fun g=>(by cases g),fun _=>⟨_,_,_,_,_,_,_,fun wq=>zahl W c _ wq,fun _ b2 hb2 wr7 hx7 _=>⟨⟨za5 W x c - 12,rfl,k1,?_,(s5.call0 hx6).step hx7⟩,?_⟩,fun g=>by cases g⟩⟩
  ·rw [←hI,hst,if_neg (by omega),if_neg h12]
  ·show (3 - dep 3 W.groups (za5 W x c - 12)).toNat<(3 - dep 3 W.groups x).toNat
   omega
end
end Go.Proofs.YthhmnlcimojhlaaGreatDoor
namespace Go.Proofs.YthhmnlcimojhlaaGreatDoor
open Go.RowKit
set_option linter.unusedVariables false
set_option linter.unusedSimpArgs false
set_option maxRecDepth 10000
theorem zaeo {c n:Int} {W:Wld} (sm:SmW W):∀(f:Nat) {V:Wld} {left:Int},RunI f c W V left→zcj W.groups V.groups→SmW (runN c f V left)
 | 0,V,left,h,_=>by
  have:=h.f1
  have:=h.l0
  omega
 | f+1,V,left,h,hT=>by
  have hK:=z5j h.f2
  have hh0:(0:Int)≤zb2:=by decide
  by_cases hl:left≤0
  ·rw [z5k hl]
   exact zaia sm h.sw (by omega) hT
  ·by_cases hp:zai V c<0
   ·rw [zyo hl hp]
    exact zaia sm (zacz h).1 (by omega) hT
   ·rw [zyp hl hp]
    have hR:=zaee h (by omega) hp
    exact zaeo (n:=n) sm f hR.nx (hT.trans hR.gt)
theorem zakn {W:Wld} {c n:Int} (sm:SmW W) (hW:zet W=true) (hb:runB W c n=0):SmW (runW W c n):=zaeo (n:=n) sm 400 (zaeh hW hb).2.2.2.2 (zcj.refl _)
section
variable {base pb:Nat} {W:Wld} {m:MW} {w:World}
def RunM (base pb b:Nat) (w0:World) (m:MW) (c n:Int) (W:Wld) (f:Nat) (vs:List Value) (w2:World):Prop :=
 ∃(V:Wld) (left:Int),vs=[.int .i64 left]∧Mp base pb [b] w0 m w2 V m∧RunI f c W V left∧runN c f V left=runW W c n
set_option maxHeartbeats 4000000 in
theorem z0f {c n:Int} {tf:Fn} {ta tk0:Array Value} (h:PW base pb w W m) (hI0:RunI 400 c W W n)
  (ht:∀(t u:Int) (w1:World),zm3 Tryz.prog (.func tf ta tk0) [.int .i64 t,.int .i64 u] w1 fun e w2=>e = .returned (.tuple #[])∧ExtX [] w1 w2) :
  Calls Tryz.prog zin #[.agg #[.pointer (pA pb),.int .i64 c],.int .i64 n,.func tf ta tk0] w fun e w'=>e = .returned (.tuple #[])∧Mp base pb [] w m w' (runW W c n) m:=by
 refine (zwn (pA pb) c n tf ta tk0 (R:=fun v w'=>v = .tuple #[]∧Mp base pb [] w m w' (runW W c n) m) ?_).mono fun e w' ⟨v,he,hv,h3⟩=>⟨by rw [he,hv],h3⟩
 intro b hb
 have c0:=hI0.c0
 have hst:stlB=173430457200:=rfl
 have hlg:lagB=34686091440:=rfl
 have hh0:(0:Int)≤zb2:=by decide
 have hM0:=Mp.start h
 have hp0:=hM0.wpt
 refine ⟨_,zhw hp0 c0 hI0.c1,fun vs w2=>∃f,RunM base pb b w m c n W f vs w2,fun vs w2=>lstF fun f=>RunM base pb b w m c n W f vs w2,fun wr hx _=>⟨400,W,n,rfl,(hM0.add hb).call0 hx,hI0,rfl⟩,?_⟩
 intro left w2 hs2 hinv
 obtain ⟨f0,hf0⟩:∃f0,f0=lstF fun f=>RunM base pb b w m c n W f [.int .i64 left] w2:=⟨_,rfl⟩
 have hS:=z6y hinv
 simp only [←hf0] at hS ⊢
 clear hf0 hinv
 obtain ⟨V,left',hv,hM2,hI,hN⟩:=hS
 simp only [List.cons.injEq,Value.int.injEq,true_and,and_true] at hv
 subst hv
 obtain ⟨f,rfl⟩:=z94 hI
 have hnext:∀{vs:List Value} {w9:World},RunM base pb b w m c n W f vs w9→(∃f,RunM base pb b w m c n W f vs w9)∧(lstF fun f=>RunM base pb b w m c n W f vs w9)<f+1:=fun hh=>⟨⟨f,hh⟩,Nat.lt_succ_of_le (zadp hh)⟩
 have hp2:=hM2.wpt
 have hf:=hI.f2
 have hKu:=z5j hf
 have hSu:=z8y hf
 have c1V:=hI.c1
 have hs:=zmu (n:=Int.toNat c*5) (hp2.rd.c c c0 c1V)
 refine ⟨fun hlt => ?_,fun hge => ?_⟩
 ·have hlt:=of_decide_eq_true hlt
  have hpk:=z8m hp2 hI.sw.a (hI.sw.cu c c0 c1V).1 c0 c1V
  rw [if_pos hI.up] at hpk
  refine ⟨_,hpk,fun gp => ?_,fun gp => ?_⟩
  ·have gp:=of_decide_eq_true gp
   rw [zyo (by omega) gp] at hN
   obtain ⟨i1,i2,i3,i4⟩:=zacz hI
   have e1:MWd 8 base _ (setCp V c (idlC V c left)) m:=hM2.own.stoC c0 c1V (j:=4) (vs:=[.int .i64 ((gi V.cpus c).idle+left)]) (x:=idlC V c left) rfl (by simp)
   have hM3:=hM2.deed e1 subC (z8a _ _ _ _)
   refine ⟨hs,_,zfy (hp2.rd.c c c0 c1V) (j:=4) rfl,⟨by omega,by omega⟩,hs,zmy.2 (wrC hM2.own hM2.nb c0 c1V (by decide)),?_⟩
   rw [zkd]
   intro wr1 hx1 hs1
   have hM4:=hM3.step hx1
   refine Calls.mono (zf7 hM4.pw c0 (by show c<((V.cpus.set c.toNat (idlC V c left)).length:Int); rw [List.length_set]; exact c1V)) ?_
   rintro e3 wv3 ⟨he3,hy3⟩
   refine ⟨he3,hM4.kept hy3 hs1,fun wr4 hx4 hs4 => ?_⟩
   have hM5:=(hM4.call hy3 hs1).step hx4
   refine Calls.mono (zfi hM5.pw i1 (by omega) (by omega)) ?_
   rintro e5 wv5 ⟨he5,hy5⟩
   rw [hN] at hy5
   exact ⟨he5,hM5.kept hy5 hs4,fun wr6 hx6=>⟨by trivial,((hM5.call hy5 hs4).step hx6).close⟩⟩
  ·have gp:=of_decide_eq_false gp
   rw [zyp (by omega) gp] at hN
   have hR:=zaee hI hlt gp
   have t0:=hR.line.t0
   have t1:=hR.line.t1
   obtain ⟨q1,q2,q3,q4,q5,q6⟩:=zyu hI.sw hI.rb c0 c1V hI.up t0 t1
   have eC:(tkW V c).1.cpus=(zeo V c (zai V c)).cpus:=hR.tk.o.c
   have lT:(tkW V c).1.cpus.length=V.cpus.length:=by rw [eC]; exact q6
   have cT:c<((tkW V c).1.cpus.length:Int):=by rw [lT]; exact c1V
   have rT:RB (runS (f+1)) (tkW V c).1:=hR.r1.sum hR.tk.su hR.tk.o.g (by rw [eC])
   have eT:(tkW V c).1.tasks=V.tasks:=hR.tk.o.t
   have eG:zcj V.groups (tkW V c).1.groups:=hR.tk.o.g
   have pT:pthR (tkW V c).1 (zai V c)=pthR V (zai V c):=z8x eT eG _
   have uT:zad (tkW V c).1.groups (tkk (tkW V c).1 (zai V c)).group=true:=by rw [eG.usd,ztj eT]; exact hR.us
   have upT:(gi (tkW V c).1.cpus c).up=true:=by rw [eC]; exact q3
   have ranT:(gi (tkW V c).1.cpus c).ran<50:=by rw [eC]; exact hR.ran
   have hnx:=hR.nx
   have hl1:=hI.l1
   have hTk:tkL c (pthR V (zai V c)) (zeo V c (zai V c))=tkW V c:=rfl
   have hmE:mstL (tkW V c).1 c (pthR V (zai V c)) left=rndM V c left:=rfl
   refine ⟨hs,_,zfy (hp2.rd.c c c0 c1V) (j:=1) rfl,fun _=>hs,_,fun _=>zfy (hp2.rd.c c c0 c1V) (j:=2) rfl,fun g5 => ?_,fun g5 wr4 hx4 hs4 => ?_⟩
   ·have g5:zai V c≠(gi V.cpus c).cur∨(gi V.cpus c).ran≥50:=by simpa using g5
    have hS:zkl V c (zai V c)={ gi V.cpus c with cur:=zai V c,ran:=0 }:=by unfold zkl; rw [if_pos g5]
    have e1:=hM2.own.stoC c0 c1V (j:=1) (vs:=[.int .i64 (zai V c)]) (x:={ gi V.cpus c with cur:=zai V c }) rfl (by simp)
    have hl1':(V.cpus.set c.toNat { gi V.cpus c with cur:=zai V c }).length=V.cpus.length:=List.length_set
    have hg1:gi (V.cpus.set c.toNat { gi V.cpus c with cur:=zai V c }) c={ gi V.cpus c with cur:=zai V c }:=(zba _ _ c0 c1V c0).trans (if_pos rfl)
    have e2:=e1.stoC c0 (by simpa using c1V) (j:=2) (vs:=[.int .i64 0]) (x:=zkl V c (zai V c)) (by rw [hg1,hS]; rfl) (by simp)
    have hW2:({ V with cpus:=(V.cpus.set c.toNat { gi V.cpus c with cur:=zai V c }).set c.toNat (zkl V c (zai V c)) }:Wld)=zeo V c (zai V c):=by
     unfold zeo setCp
     rw [List.set_set]
    have hM3:Mp base pb [b] w m _ ({ V with cpus:=V.cpus.set c.toNat { gi V.cpus c with cur:=zai V c } }:Wld) m:=hM2.deed e1 subC (by simp [encW])
    have hM3':Mp base pb [b] w m _ ({ V with cpus:=(V.cpus.set c.toNat { gi V.cpus c with cur:=zai V c }).set c.toNat (zkl V c (zai V c)) }:Wld) m:=hM3.deed e2 subC (by simp [encW])
    rw [hW2] at hM3'
    refine ⟨hs,zmy.2 (wrC hM2.own hM2.nb c0 c1V (by decide)),hs,?_⟩
    rw [zkd]
    refine ⟨zmy.2 (wrC e1 hM2.nb c0 (by show c<((V.cpus.set c.toNat { gi V.cpus c with cur:=zai V c }).length:Int); rw [hl1']; exact c1V) (by decide)),?_⟩
    rw [zkd]
    intro wr4 hx4 hs4
    have hM4:=hM3'.step hx4
    refine Calls.mono (zm1 (t:=zai V c) hM4.pw q1 c0 (by rw [q6]; exact c1V) t0 t1 hR.us hR.dr) ?_
    rintro e3 wv3 ⟨he3,hy3⟩
    have hpS:pthR (zeo V c (zai V c)) (zai V c)=pthR V (zai V c):=rfl
    rw [hpS,hTk] at he3 hy3
    have hM5:=hM4.call hy3 hs4
    refine ⟨_,he3,hM4.kept hy3 hs4,fun gt wr5 hx5 hs5 => ?_,fun gt wr5 hx5 hs5 => ?_⟩
    ·have gt:¬(tkW V c).2=true:=by simpa using gt
     have hRW:rndW V c left=(zao (endW (tkW V c).1 c),left):=by unfold rndW; rw [if_neg gt]
     rw [hRW] at hnx hN
     have hM6:=hM5.step hx5
     refine Calls.mono (zf7 hM6.pw c0 cT) ?_
     rintro e6 wv6 ⟨he6,hy6⟩
     refine ⟨he6,hM6.kept hy6 hs5,fun wr7 hx7 hs7 => ?_⟩
     have hM7:=(hM6.call hy6 hs5).step hx7
     refine Calls.mono (zfi hM7.pw (hR.tk.sw.endW c0 cT) (by omega) (by omega)) ?_
     rintro e8 wv8 ⟨he8,hy8⟩
     generalize zao (endW (tkW V c).1 c)=V9 at hy8 hnx hN
     exact ⟨he8,hM7.kept hy8 hs7,fun wr9 hx9 _=>hnext ⟨V9,left,rfl,(hM7.call hy8 hs7).step hx9,hnx,hN⟩⟩
    ·have gt:(tkW V c).2=true:=by simpa using gt
     have hRW:rndW V c left=(zao (chW (tkW V c).1 c (zai V c) (rndM V c left)),left - rndM V c left):=by unfold rndW; rw [if_pos gt]
     rw [hRW] at hnx hN
     obtain ⟨m1,m2'⟩:=hR.m gt
     have sC:=(hR.ch gt).1
     have hM6:=hM5.step hx5
     have hcG:=zta (t:=zai V c) (left:=left) hM6.pw hR.tk.sw rT ⟨by omega,by omega⟩ ⟨by omega,by omega⟩ c0 cT upT ranT t0 t1 uT (by rw [pT,hmE]; omega) (by rw [pT,hmE]; omega)
     rw [pT,hmE] at hcG
     refine Calls.mono hcG ?_
     rintro e6 wv6 ⟨he6,hy6⟩
     refine ⟨_,he6,hM6.kept hy6 hs5,fun wr7 hx7 hs7 => ?_⟩
     have hM7:=(hM6.call hy6 hs5).step hx7
     refine zm3.mono (ht _ _ wr7) ?_
     rintro e8 wv8 ⟨he8,hy8⟩
     refine ⟨he8,za0 hy8 hs7,fun wr9 hx9 hs9 => ?_⟩
     have hM9:=(hM7.call0 hy8).step hx9
     refine Calls.mono (zfi hM9.pw sC (by omega) (by omega)) ?_
     rintro e10 wv10 ⟨he10,hy10⟩
     generalize zao (chW (tkW V c).1 c (zai V c) (rndM V c left))=V9 at hy10 hnx hN
     exact ⟨he10,hM9.kept hy10 hs9,⟨by show _≤left - rndM V c left; omega,by show left - rndM V c left≤_; omega⟩,fun wr11 hx11 _=>hnext ⟨V9,left - rndM V c left,rfl,(hM9.call hy10 hs9).step hx11,hnx,hN⟩⟩
   ·have g5:¬(zai V c≠(gi V.cpus c).cur∨(gi V.cpus c).ran≥50):=by simpa using g5
    have hS:zeo V c (zai V c)=V:=by
     unfold zeo zkl setCp
     rw [if_neg g5,zyt c0 c1V]
    have hM4:Mp base pb [b] w m wr4 (zeo V c (zai V c)) m:=by rw [hS]; exact hM2.step hx4
    refine Calls.mono (zm1 (t:=zai V c) hM4.pw q1 c0 (by rw [q6]; exact c1V) t0 t1 hR.us hR.dr) ?_
    rintro e3 wv3 ⟨he3,hy3⟩
    have hpS:pthR (zeo V c (zai V c)) (zai V c)=pthR V (zai V c):=rfl
    rw [hpS,hTk] at he3 hy3
    have hM5:=hM4.call hy3 hs4
    refine ⟨_,he3,hM4.kept hy3 hs4,fun gt wr5 hx5 hs5 => ?_,fun gt wr5 hx5 hs5 => ?_⟩
    ·have gt:¬(tkW V c).2=true:=by simpa using gt
     have hRW:rndW V c left=(zao (endW (tkW V c).1 c),left):=by unfold rndW; rw [if_neg gt]
     rw [hRW] at hnx hN
     have hM6:=hM5.step hx5
     refine Calls.mono (zf7 hM6.pw c0 cT) ?_
     rintro e6 wv6 ⟨he6,hy6⟩
     refine ⟨he6,hM6.kept hy6 hs5,fun wr7 hx7 hs7 => ?_⟩
     have hM7:=(hM6.call hy6 hs5).step hx7
     refine Calls.mono (zfi hM7.pw (hR.tk.sw.endW c0 cT) (by omega) (by omega)) ?_
     rintro e8 wv8 ⟨he8,hy8⟩
     generalize zao (endW (tkW V c).1 c)=V9 at hy8 hnx hN
     exact ⟨he8,hM7.kept hy8 hs7,fun wr9 hx9 _=>hnext ⟨V9,left,rfl,(hM7.call hy8 hs7).step hx9,hnx,hN⟩⟩
    ·have gt:(tkW V c).2=true:=by simpa using gt
     have hRW:rndW V c left=(zao (chW (tkW V c).1 c (zai V c) (rndM V c left)),left - rndM V c left):=by unfold rndW; rw [if_pos gt]
     rw [hRW] at hnx hN
     obtain ⟨m1,m2'⟩:=hR.m gt
     have sC:=(hR.ch gt).1
     have hM6:=hM5.step hx5
     have hcG:=zta (t:=zai V c) (left:=left) hM6.pw hR.tk.sw rT ⟨by omega,by omega⟩ ⟨by omega,by omega⟩ c0 cT upT ranT t0 t1 uT (by rw [pT,hmE]; omega) (by rw [pT,hmE]; omega)
     rw [pT,hmE] at hcG
     refine Calls.mono hcG ?_
     rintro e6 wv6 ⟨he6,hy6⟩
     refine ⟨_,he6,hM6.kept hy6 hs5,fun wr7 hx7 hs7 => ?_⟩
     have hM7:=(hM6.call hy6 hs5).step hx7
     refine zm3.mono (ht _ _ wr7) ?_
     rintro e8 wv8 ⟨he8,hy8⟩
     refine ⟨he8,za0 hy8 hs7,fun wr9 hx9 hs9 => ?_⟩
     have hM9:=(hM7.call0 hy8).step hx9
     refine Calls.mono (zfi hM9.pw sC (by omega) (by omega)) ?_
     rintro e10 wv10 ⟨he10,hy10⟩
     generalize zao (chW (tkW V c).1 c (zai V c) (rndM V c left))=V9 at hy10 hnx hN
     exact ⟨he10,hM9.kept hy10 hs9,⟨by show _≤left - rndM V c left; omega,by show left - rndM V c left≤_; omega⟩,fun wr11 hx11 _=>hnext ⟨V9,left - rndM V c left,rfl,(hM9.call hy10 hs9).step hx11,hnx,hN⟩⟩
 ·have hge:=of_decide_eq_false hge
  rw [z5k (by omega)] at hN
  intro wr4 hx4 hs4
  have hM4:=hM2.step hx4
  refine Calls.mono (zfi hM4.pw hI.sw (by omega) (by omega)) ?_
  rintro e5 wv5 ⟨he5,hy5⟩
  rw [hN] at hy5
  exact ⟨he5,hM4.kept hy5 hs4,fun wr6 hx6=>⟨by trivial,((hM4.call hy5 hs4).step hx6).close⟩⟩
theorem z6x {cap cap1 cap2:Option Addr} {c n:Int} {tf:Fn} {ta tk0:Array Value} (h:PW base pb w W m) (hW:zet W=true) (h0:zaa [] w cap 0 [.int .i64 n]) (h1:zaa [] w cap1 0 [.int .i64 c]) (h2:zaa [] w cap2 0 [.func tf ta tk0])
  (ht:∀(t u:Int) (w1:World),zm3 Tryz.prog (.func tf ta tk0) [.int .i64 t,.int .i64 u] w1 fun e w2=>e = .returned (.tuple #[])∧ExtX [] w1 w2) :
  Calls Tryz.prog zer #[.pointer (pA pb),.pointer cap,.pointer cap1,.pointer cap2] w fun e w2=>(runB W c n≠0∧e = .returned (.iface zbs (.agg #[.int .i64 (runB W c n)]))∧ExtX [] w w2)∨(runB W c n=0∧e = .returned .nilIface∧∃m2,Done base pb [] w m w2 (runW W c n) m2):=by
 have wp:=zcv.1 hW
 have hM:=Mp.start h
 have hp:=hM.wpt
 have hm0:=zb3
 have hc2:=wp.a.c2
 refine (zsd (pA pb) cap cap1 cap2 (R:=fun v w2=>(runB W c n≠0∧v = .iface zbs (.agg #[.int .i64 (runB W c n)])∧ExtX [] w w2)∨(runB W c n=0∧v = .nilIface∧∃m2,Done base pb [] w m w2 (runW W c n) m2)) ?_).mono fun e w' ⟨v,he,h3⟩=>by
  rw [he]
  rcases h3 with ⟨a,b,c⟩ | ⟨a,b,c⟩
  ·exact .inl ⟨a,by rw [b],c⟩
  ·exact .inr ⟨a,by rw [b],c⟩
 refine ⟨n,h0,_,zaj,c,fun _=>h1,zwi W c,fun _=>by exact zxc hp (by omega),fun g wr hx=>.inl ?_,fun g => ?_⟩
 ·have hb:runB W c n=1:=by
   unfold runB; rw [if_pos]
   simpa using g
  rw [hb]
  exact ⟨by decide,rfl,hx⟩
 have g:inB n 1 100=true∧zwi W c=true:=by simpa using g
 have hn1:¬(inB n 1 100=false∨zwi W c=false):=by rw [g.1,g.2]; simp
 obtain ⟨c0,c1⟩:=z76 g.2
 refine ⟨hp.some,_,_,_,hp.cpus,c,h1,hp.rd.c.ix zep c0 c1,_,hp.rd.c.f c0 c1 (j:=0) rfl,fun g2 wr hx=>.inl ?_,fun g2=>⟨_,z6r hp wp.a,fun g3 wr hx=>.inl ?_,fun g3 => ?_⟩⟩
 ·have hb:runB W c n=6:=by unfold runB; rw [if_neg hn1,if_pos (by simpa using g2)]
  rw [hb]
  exact ⟨by decide,rfl,hx⟩
 ·have g2:(gi W.cpus c).up=true:=by simpa using g2
  have hb:runB W c n=10:=by unfold runB; rw [if_neg hn1,if_neg (by rw [g2]; decide),if_pos (by simpa using g3)]
  rw [hb]
  exact ⟨by decide,rfl,hx⟩
 have g2:(gi W.cpus c).up=true:=by simpa using g2
 have g3:z5i W=true:=by simpa using g3
 have hb:runB W c n=0:=by unfold runB; rw [if_neg hn1,if_neg (by rw [g2]; decide),if_neg (by rw [g3]; decide)]
 refine ⟨c,h1,_,_,zgc,n,h0,_,_,_,h2,fun wr3 hx3 _ => ?_⟩
 have hM3:=hM.nil hx3
 refine Calls.mono (z0f hM3.pw (zaeh hW hb).2.2.2.2 ht) ?_
 rintro e wv ⟨he,hy⟩
 exact ⟨he,zby,fun wr4 hx4=>.inr ⟨hb,rfl,m,((hM3.call hy (by simp)).nil hx4).done⟩⟩
theorem zajc {t u:Int} {bs:List Nat}:zab bs Tryz.prog zdh #[.int .i64 t,.int .i64 u] w (.tuple #[]):=zsl t u fun _ _=>rfl
theorem zakd (t u:Int) (w1:World):zm3 Tryz.prog (.func (.func zdh) #[] #[]) [.int .i64 t,.int .i64 u] w1 fun e w2=>e = .returned (.tuple #[])∧ExtX [] w1 w2 :=
 .inl ⟨zdh,_,rfl,(zajc (bs:=[]) w1 (ExtX.refl _ _)).mono fun e w2 ⟨he,hx⟩=>⟨he,hx⟩⟩
theorem zaa6 {c n:Int} {tf:Fn} {ta tk0:Array Value} (h:RdW [] w W m) (hl:LenW W) (hg:zrt w)
  (ht:∀(t u:Int) (w1:World),zm3 Tryz.prog (.func tf ta tk0) [.int .i64 t,.int .i64 u] w1 fun e w2=>e = .returned (.tuple #[])∧ExtX [] w1 w2) :
  Calls Tryz.prog zio #[.agg (encW W m).toArray,.int .i64 c,.int .i64 n,.func tf ta tk0] w fun e w'=>∃v,e = .returned v∧AnsW (ansD W (runB W c n) (runW W c n)) w v w':=by
 refine zwo W.now m.cO W.cpus.length m.cC m.tO W.tasks.length m.tC m.gO W.groups.length m.gC c n tf ta tk0 (R:=fun v w'=>AnsW (ansD W (runB W c n) (runW W c n)) w v w') ?_
 intro x hx b1 wb hx1 hb1 hc1 hn1 b2 wb1 hx2 hb2 hc2 hn2 b3 wb2 hx3 hb3 hc3 hn3 b4 hb4 wr hx4 hs
 have hX1:ExtX [] w wb1:=hx1.fresh hx2 fun y hy=>.inl (z8r hy hx)
 have hX2:ExtX [] w wb2:=hX1.fresh hx3 fun y hy=>.inl (z8r hy hx)
 have hX:ExtX [] w wr:=hX2.fresh hx4 fun y hy=>.inl (z8r hy hx)
 have k1:=zat (zat (zat hc1 hx2 hn1) hx3 hn1) hx4 hn1
 have k2:=zat (zat hc2 hx3 hn2) hx4 hn2
 have k3:=zat hc3 hx4 hn3
 have cell:∀{b:Nat} {v:Value} {t:TypeId} {w1:World},wr.heap[b]? = some (Obj.cells ([v]:List Value).toArray t (0,0))→ExtX [] wr w1→zaa [] w1 (some ⟨b,0,none⟩) 0 [v]:=fun hb hx=>znm (zat hb hx (by simp)) (by simp) (k0:=0) rfl
 refine Calls.mono (zac4 (bar:=runB W c n) (W':=runW W c n) (h.ext hX) hl (hg.ext hX) fun w1 pb m1 hW hy3 hpb hP=>.inl ⟨zer,_,rfl,z6x hP hW (cell k2 hy3) (cell k1 hy3) (cell k3 hy3) ht⟩) ?_
 rintro e wv ⟨v,he,n',m',hv,hM,hy⟩
 subst hv
 refine ⟨_,_,_,_,_,_,_,_,_,_,_,he,za0 hy hs,fun wr1 hx5=>⟨n',m',rfl,(hM.ext hx5 fun y hy hm => ?_).mono hX.size,(hX.trans hy).fresh hx5 fun y hm => ?_⟩⟩
 ·have:=(hM.lt y hy).1
  have:=hs y hm
  omega
 ·simp only [List.mem_cons,List.not_mem_nil,or_false] at hm
  rcases hm with rfl | rfl
  ·exact .inl hx
  ·exact .inl (Nat.le_trans hX2.size hb4)
theorem znx {c n:Int} (h:RdW [] w W m) (hl:LenW W) (hg:zrt w) :
  Calls Tryz.prog zf1 #[.agg (encW W m).toArray,.int .i64 c,.int .i64 n] w fun e w'=>∃v,e = .returned v∧AnsW (ansD W (runB W c n) (runW W c n)) w v w':=by
 refine zwl W.now m.cO W.cpus.length m.cC m.tO W.tasks.length m.tC m.gO W.groups.length m.gC c n (R:=fun v w'=>AnsW (ansD W (runB W c n) (runW W c n)) w v w') ?_
 intro x hx b1 hb1 wr hx1 hs
 refine Calls.mono (zaa6 (c:=c) (n:=n) (h.ext hx1) hl (hg.ext hx1) zakd) ?_
 rintro e wv ⟨v,he,n',m',hv,hM,hy⟩
 subst hv
 refine ⟨_,_,_,_,_,_,_,_,_,_,_,he,za0 hy hs,fun wr1 hx4=>⟨n',m',rfl,(hM.ext hx4 fun y hy hm => ?_).mono hx1.size,(hx1.trans hy).fresh hx4 fun y hm=>.inl (z5n hx hb1 y hm)⟩⟩
 have:=(hM.lt y hy).1
 have:=hs y hm
 omega
end
end Go.Proofs.YthhmnlcimojhlaaGreatDoor
namespace Go.Proofs.YthhmnlcimojhlaaGreatDoor
open Go.RowKit
set_option linter.unusedVariables false
set_option linter.unusedSimpArgs false
set_option maxRecDepth 10000
set_option maxHeartbeats 1000000 in
theorem k_FnExactWorldRun {D:Wld} {M:MW} {c n:Int} {w:World} (ft:FitW w D M) (_:InR .i64 c) (_:InR .i64 n) (hg:zrt w) :
  Calls Tryz.prog zgu #[.agg (encW D M).toArray,.int .i64 c,.int .i64 n] w fun e w'=>e = .returned (.bool true)∧ExtX [] w w':=by
 refine (zm9 D.now M.cO D.cpus.length M.cC M.tO D.tasks.length M.tC M.gO D.groups.length M.gC c n (R:=fun v w'=>v = .bool true∧ExtX [] w w') ?_).mono fun e w' ⟨v,he,hv,h3⟩=>⟨by rw [he,hv],h3⟩
 have hl:LenW D:=⟨ft.lc,ft.lt,ft.lg,ft.ft⟩
 have hrd:=ft.rd
 intro b hb
 refine ⟨_,zadd ft (by decide) (by decide),fun _ w1 hx1=>⟨rfl,hx1⟩,fun hs => ?_⟩
 have hs:=of_decide_eq_false hs
 have sm:=(zajq (W:=D) (left:=1048576) (by decide) (by omega)).1
 have smr:SmW (ansD D (runB D c n) (runW D c n)).1:=zaj0 sm fun hW hb=>zakn sm hW hb
 have hmD:=zads sm
 generalize hr:ansD D (runB D c n) (runW D c n)=r at smr
 have hmR:=zads smr
 intro wr1 hx1 hs1
 have s1:Sc w [b] wr1:=((Sc.start w).add hb).call0 hx1
 refine Calls.mono (zags hrd s1 hs1 sm) ?_
 rintro e wv ⟨mA,he,hA,hy⟩
 refine ⟨_,_,_,_,_,_,_,_,_,_,he,za0 hy hs1,fun wr2 hx2 hs2 => ?_⟩
 have s2:=(s1.call0 hy).step hx2
 have hA2:=hA.step hx2
 refine Calls.mono (zxg (c:=c) (n:=n) hA2.rd0 hl) ?_
 rintro e1 wv1 ⟨v,he1,nW,mW,hv,hW0,hy1⟩
 subst hv
 rw [hr] at he1 hW0
 have s3:=s2.call0 hy1
 have hW1:=(OW.of hW0 hs2).mono s2.ext.size
 refine ⟨_,_,_,_,_,_,_,_,_,_,_,he1,za0 hy1 hs2,fun b1 hb1 wr3 hx3 hs3 => ?_⟩
 have s4:=s3.put hx3 hb1
 have hW2:=hW1.put hx3 hb1
 refine Calls.mono (zags hrd s4 hs3 sm) ?_
 rintro e2 wv2 ⟨mX,he2,hX0,hy2⟩
 have n0:=sepW hW2.own hX0.own (Nat.le_refl _)
 have s5:=s4.call0 hy2
 have hW3:=hW2.call0 hy2
 have hX1:=hX0.mono s4.ext.size
 refine ⟨_,_,_,_,_,_,_,_,_,_,he2,za0 hy2 hs3,fun b2 hb2 wr4 hx4 hs4 => ?_⟩
 have s6:=s5.put hx4 hb2
 have hW4:=hW3.put hx4 hb2
 have hX2:=hX1.put hx4 hb2
 refine Calls.mono (znx (c:=c) (n:=n) hX2.rd0 hl (hg.ext s6.ext)) ?_
 rintro e3 wv3 ⟨v,he3,nG,mG,hv,hG0,hy3⟩
 subst hv
 rw [hr] at he3 hG0
 have n1:=sepW hX2.own hG0 (Nat.le_refl _)
 have n2:=sepW hW4.own hG0 (Nat.le_refl _)
 have s7:=s6.call0 hy3
 have hW5:=hW4.call0 hy3
 have hX3:=hX2.call0 hy3
 have hG1:=(OW.of hG0 hs4).mono s6.ext.size
 refine ⟨_,_,_,_,_,_,_,_,_,_,_,he3,za0 hy3 hs4,fun b3 hb3=>⟨true,eqWW hG1.rd hW5.rd smr,fun hbad=>(by simp at hbad),fun _ wr6 hx6 hs6 => ?_⟩⟩
 have s8:=s7.put hx6 hb3
 have hW6:=hW5.put hx6 hb3
 have hX4:=hX3.put hx6 hb3
 have hG2:=hG1.put hx6 hb3
 refine Calls.mono (zags hrd s8 hs6 sm) ?_
 rintro e4 wv4 ⟨mY,he4,hY,hy4⟩
 refine ⟨_,_,_,_,_,_,_,_,_,_,he4,za0 hy4 hs6,rfl,true,eqWW (hX4.call0 hy4).rd hY.rd sm,fun hbad=>(by simp at hbad),fun _ wr8 hx8 hs8 => ?_⟩
 have s9:=(s8.call0 hy4).step hx8
 have hW7:=(hW6.call0 hy4).step hx8
 have hX5:=(hX4.call0 hy4).step hx8
 have hG3:=(hG2.call0 hy4).step hx8
 refine Calls.mono (zxf hX5.own sm) ?_
 rintro e5 wv5 ⟨he5,_,hy5⟩
 have s10:=s9.call hy5 fun x hx=>(hX5.own.lt x hx).1
 have hW8:=hW7.call hy5 n0.1
 have hG4:=hG3.call hy5 n1.2
 refine ⟨_,he5,zh7 hy5 hs8 hX5.nb,true,fun _=>eqWW hG4.rd hW8.rd smr,fun hbad => ?_,fun _ wr10 hx10 hs10 => ?_⟩
 ·rw [decide_eq_false (by omega)] at hbad
  simp at hbad
 have s11:=s10.step hx10
 have hW9:=hW8.step hx10
 have hG5:=hG4.step hx10
 refine Calls.mono (zxf hG5.own smr) ?_
 rintro e6 wv6 ⟨he6,hGm,hy6⟩
 have s12:=s11.call hy6 fun x hx=>(hG5.own.lt x hx).1
 have hW10:=hW9.call hy6 n2.1
 have hH:OW nG w.heap.size _ wv6 (zag0 r.1) mG:=⟨hGm,hG5.nb⟩
 refine ⟨_,he6,zh7 hy6 hs10 hG5.nb,_,zxb hH.rd smr,fun hbad => ?_,fun _=>⟨fun hbad=>(by simp at hbad),fun _ wr13 hx13 hs13 => ?_⟩⟩
 ·have:=of_decide_eq_true hbad
  omega
 have s13:=s12.step hx13
 have hW11:=hW10.step hx13
 have hH2:=hH.step hx13
 refine Calls.mono (zags hrd s13 hs13 sm) ?_
 rintro e7 wv7 ⟨mZ,he7,hZ,hy7⟩
 refine ⟨_,_,_,_,_,_,_,_,_,_,he7,za0 hy7 hs13,fun wr14 hx14 hs14 => ?_⟩
 have s14:=(s13.call0 hy7).step hx14
 have hW12:=(hW11.call0 hy7).step hx14
 have hH3:=(hH2.call0 hy7).step hx14
 refine Calls.mono (znx (c:=c) (n:=n) (hZ.step hx14).rd0 hl (hg.ext s14.ext)) ?_
 rintro e8 wv8 ⟨v,he8,nI,mI,hv,hI0,hy8⟩
 subst hv
 rw [hr] at he8 hI0
 have s15:=s14.call0 hy8
 have hW13:=hW12.call0 hy8
 have hH4:=hH3.call0 hy8
 have hI:=OW.of hI0 hs14
 refine ⟨_,_,_,_,_,_,_,_,_,_,_,he8,za0 hy8 hs14,fun b4 hb4=>⟨true,eqWW hI.rd hW13.rd smr,fun hbad=>(by simp at hbad),fun _=>⟨_,zxb hH4.rd smr,fun hbad => ?_,fun _=>⟨fun hbad=>(by simp at hbad),fun _ wr18 hx18=>⟨rfl,(s15.step hx18).ext⟩⟩⟩⟩⟩
 have:=of_decide_eq_true hbad
 omega
end Go.Proofs.YthhmnlcimojhlaaGreatDoor
