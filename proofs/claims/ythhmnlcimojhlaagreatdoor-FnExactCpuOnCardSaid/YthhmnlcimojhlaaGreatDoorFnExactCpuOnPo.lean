/- Part 15 of what the law FnExactCpuOn needs: the engine, the functions' propositions, the contracts. -/
import Derived.Test.YthhmnlcimojhlaaGreatDoorFnExactCpuOnPn
import Derived.Shelf.Abstract
namespace Go.Proofs.YthhmnlcimojhlaaGreatDoor
open Go.RowKit
set_option linter.unusedVariables false
set_option linter.unusedSimpArgs false
set_option maxRecDepth 10000
theorem leave_markC {P:Program} {fn:Func} {R:Ending→World→Prop} {a:Act} {w:World} {D:Nat} (hd:a.defers=[markOf D]) (hD:w.heap[D]? = some (.deferred (some []))) (h:∀w',ExtX [D] w w'→∃v,(results fn a.tmps).run P w' = .ok v w'∧R (.returned v) w') :
  bodyPostM (fnc none) 0 P fn R .normal a w∧bodyPostM (fnc none) 0 P fn R .ret a w:=by
 have:LeavesInM (fnc none) 0 P fn a.tmps R a.defers .returning w:=by
  rw [hd]
  obtain ⟨v,hr,hR⟩:=h _ (ext_putObj _ _ _)
  exact ⟨by simp,.inl ⟨_,_,rfl,run_takeDeferred hD,⟨v,hr,hR⟩⟩⟩
 exact ⟨this,this⟩
theorem tbl_int:tblGet tbl ty_int=some ⟨false,[.int .i64],.int .i64⟩:=by kernel_rfl
theorem results_cell1 {fn:Func} {p:Tmp} (h:fn.results = #[.cell p ty_int]) {tmps:Array Value} {b:Nat} {n:Int} {w:World} {t:TypeId} (hp:tmps.getD p undef = .pointer (some ⟨b,0,none⟩)) (hb:w.heap[b]? = some (.cells ([.int .i64 n]:List Value).toArray t (0,0))) :
  (results fn tmps).run Tryz.prog w = .ok (.int .i64 n) w:=by
 have hl:=loadVar_of tok tbl_int (vs:=[.int .i64 n]) (v:=.int .i64 n) rfl rfl (a:=⟨b,0,none⟩) (w:=w) (fun j x hx=>by rw [Addr.add_lit,cell_blk hb]; simpa using hx)
 have hp':tmps[p]?.getD undef = .pointer (some ⟨b,0,none⟩):=by simpa using hp
 simp [results,h,hp',asAddr,hl]
theorem msL_cases (m:Int):(msL m 4=[]∧mFst m = -1)∨(0<(msL m 4).length∧mFst m=gi (msL m 4) ((0:Nat):Int)):=by
 have e:msL m 4=([0,1,2,3]:List Nat).filterMap fun (i:Nat)=>if mHas m (i:Int)=true then some (i:Int) else none:=by
  unfold msL
  rw [show List.range 4=[0,1,2,3] from rfl]
  cases h0:mHas m ((0:Nat):Int) <;> cases h1:mHas m ((1:Nat):Int) <;> cases h2:mHas m ((2:Nat):Int) <;> cases h3:mHas m ((3:Nat):Int) <;> simp [List.filter,h0,h1,h2,h3] <;> simp_all
 rw [e]
 unfold mFst
 have i1:((1:Nat):Int)=1:=rfl
 have i2:((2:Nat):Int)=2:=rfl
 have i3:((3:Nat):Int)=3:=rfl
 cases h0:mHas m 0 <;> cases h1:mHas m 1 <;> cases h2:mHas m 2 <;> cases h3:mHas m 3 <;> simp [h0,h1,h2,h3,gi,i1,i2,i3]
theorem first_shape:bodyOf Tryz.f154=seqs t_impl_MaskFirst_pre (.seq (.seq t_impl_MaskFirst_mid (.block 0 (.rangeFunc (.tmp 5) #[6] t_impl_MaskFirst_asg t_impl_MaskFirst_body))) t_impl_MaskFirst_post):=by kernel_rfl
theorem k_impl_MaskFirst {m:Int} {w:World}:Calls Tryz.prog fn_impl_MaskFirst #[.int .i64 m] w fun e w'=>e = .returned (.int .i64 (mFst m))∧ExtX [] w w':=by
 refine calls_marks2 (args:=[.int .i64 m]) (n:=8) Tryz.func154 (body:=bodyOf Tryz.f154) rfl (by kernel_rfl) (by simp) fun a hn ha hd => ?_
 rw [first_shape]
 have a0:=ha 0 _ rfl
 refine g_impl_MaskFirst_pre none (R:=fun e vs w1=>e = .normal∧∃b:Nat,vs=[.pointer (some ⟨b,0,none⟩)]∧w.heap.size≤b∧w1.heap[b]? = some (.cells ([.int .i64 0]:List Value).toArray ty_int (0,0))∧ExtX [] w w1) hn ?_ ?_ ?_ (fun e vs a1 w1 hne hR _=>absurd hR.1 hne)
 ·intro p hp
  cases hp
 ·intro b wb hx hb0 hcell _ wr hx2
  exact ⟨rfl,b,rfl,hb0,blk_ext hcell hx2 (by simp),hx.trans hx2⟩
 rintro vs a2 w1 ⟨_,b,rfl,hwb,hB,hX⟩ fo
 have o2:a2.tmps.getD 2 undef = .pointer (some ⟨b,0,none⟩):=by
  have:=fo.out
  simpa using this
 have o0:a2.tmps.getD 0 undef = .int .i64 m:=(fo.kept 0 (by decide +kernel)).trans a0
 refine wpIn_seq (wpIn_seq (g_impl_MaskFirst_mid none m (R:=fun e vs w2=>e = .normal∧∃bm:Nat,vs=[.func (.func fn_impl_cpuSet_members_1) #[] #[.pointer (some ⟨bm,0,none⟩)]]∧CellsX [] w2 (some ⟨bm,0,none⟩) 0 [.int .i64 m]∧w1.heap.size≤bm∧ExtX [] w1 w2) (by rw [fo.size,hn]) (fun p hp => ?_) (fun wr hx _ => ?_) fun e vs a3 w2 hR fo3 => ?_))
 ·simp only [List.mem_cons,List.not_mem_nil,or_false] at hp
  subst hp
  exact ⟨Nat.le_of_ble_eq_true rfl,o0⟩
 ·refine (k_members (m:=m)).mono fun e w2 ⟨bm,hbm,he,hcm,hx3⟩=>⟨_,_,_,he,kept_nil,fun wr1 hx4=>⟨rfl,bm,rfl,hcm.ext hx4,by have:=hx.size; omega,(hx.trans hx3).trans hx4⟩⟩
 obtain ⟨rfl,bm,rfl,hcm,hbm,hx2⟩:=hR
 have p5:a3.tmps.getD 5 undef = .func (.func fn_impl_cpuSet_members_1) #[] #[.pointer (some ⟨bm,0,none⟩)]:=by
  have:=fo3.out
  simpa using this
 have p2:=(fo3.kept 2 (by decide +kernel)).trans o2
 have hsz3:a3.tmps.size=8:=by rw [fo3.size,fo.size,hn]
 have hd3:a3.defers=[]:=by rw [fo3.defers,fo.defers,hd]
 have hX2:=hX.trans hx2
 have hB2:=blk_ext hB hx2 (by simp)
 have hbL:=blk_lt hB
 have hbL2:=blk_lt hB2
 have hbmL:=cell_in hcm
 have fin:∀{D:Nat} {W:World} {n:Int} {tm:Array Value},tm.getD 2 undef = .pointer (some ⟨b,0,none⟩)→W.heap[b]? = some (.cells ([.int .i64 n]:List Value).toArray ty_int (0,0))→w2.heap.size≤D→ExtX [] w W→n=mFst m→∀w',ExtX [D] W w'→∃v,(results Tryz.f154 tm).run Tryz.prog w' = .ok v w'∧(Ending.returned v = .returned (.int .i64 (mFst m))∧ExtX [] w w'):=fun {D W n tm} h2 hW hD hXW hn w' hx=>by
  subst hn
  refine ⟨_,results_cell1 (by kernel_rfl) h2 (blk_ext hW hx fun hm => ?_),rfl,hXW.fresh hx fun x hm=>.inl ?_⟩
  ·have:b=D:=by simpa using hm
   omega
  ·have:x=D:=by simpa using hm
   have:=hX2.size
   omega
 refine wpIn_block (rangeY (gf:=fn_impl_cpuSet_members_1) (lb:=#[.pointer (some ⟨bm,0,none⟩)]) p5 (enters_of Tryz.func227 (by kernel_rfl) rfl)
  (fun k W1=>k=0∧W1.heap[b]? = some (.cells ([.int .i64 0]:List Value).toArray ty_int (0,0))∧CellsX [] W1 (some ⟨bm,0,none⟩) 0 [.int .i64 m]∧ExtX [] w W1)
  (fun cd W1=>cd = .ret∧W1.heap[b]? = some (.cells ([.int .i64 (mFst m)]:List Value).toArray ty_int (0,0))∧ExtX [] w W1) (msL m 4).length (fun k=>[.int .i64 (gi (msL m 4) (k:Int))])
  (fun k W1 W2 ys h hx hy=>⟨h.1,blk_ext h.2.1 hx fun hm=>by have:=hy _ hm; omega,cell_keep h.2.2.1 hx fun hm=>by have:=hy _ hm; omega,h.2.2.2.fresh hx fun x hm=>.inl (by have:=hy x hm; have:=hX2.size; omega)⟩)
  (fun cd W1 W2 ys h hx hy=>⟨h.1,blk_ext h.2.1 hx fun hm=>by have:=hy _ hm; omega,h.2.2.fresh hx fun x hm=>.inl (by have:=hy x hm; have:=hX2.size; omega)⟩)
  ⟨rfl,hB2,hcm,hX2⟩ (fun k=>rfl) (it_members (m:=m) (bm:=bm) (w:=w2) (I:=fun k W1=>k=0∧W1.heap[b]? = some (.cells ([.int .i64 0]:List Value).toArray ty_int (0,0))∧CellsX [] W1 (some ⟨bm,0,none⟩) 0 [.int .i64 m]∧ExtX [] w W1) (fun k W1 h=>h.2.2.1)) ?_ ?_ ?_)
 ·rintro l k W hk ⟨rfl,hb,hc,hXW⟩ hl
  have hx0:mFst m=gi (msL m 4) ((0:Nat):Int):=by
   rcases msL_cases m with h | h
   ·rw [h.1] at hk; simp at hk
   ·exact h.2
  rw [fold_one]
  refine g_impl_MaskFirst_asg (some l) (gi (msL m 4) ((0:Nat):Int)) (R:=fun e vs W1=>e = .normal∧vs=[.int .i64 (gi (msL m 4) ((0:Nat):Int))]∧ExtX [] W W1) (by simpa using hsz3) (fun p hp => ?_) (fun wr hx=>⟨rfl,rfl,hx⟩) fun e vs a4 W1 hR fo4 => ?_
  ·simp only [List.mem_cons,List.not_mem_nil,or_false] at hp
   subst hp
   exact ⟨Nat.le_of_ble_eq_true rfl,getD_set_same (i:=6) (by rw [hsz3]; decide)⟩
  obtain ⟨rfl,rfl,hx4⟩:=hR
  have q3:a4.tmps.getD 3 undef = .int .i64 (gi (msL m 4) ((0:Nat):Int)):=by
   have:=fo4.out
   simpa using this
  have q2:a4.tmps.getD 2 undef = .pointer (some ⟨b,0,none⟩):=((fo4.kept 2 (by decide +kernel)).trans (getD_set_other (i:=6) (j:=2) (by decide))).trans p2
  refine ⟨⟨[],hx4,by simp⟩,fun W2 hx5 => ?_⟩
  have hbn:b∉[l]:=fun hm=>by
   have:b=l:=by simpa using hm
   omega
  have hb5:=blk_ext (blk_ext hb hx4 (by simp)) hx5 hbn
  have hX5:ExtX [] w W2:=(hXW.trans hx4).fresh hx5 fun x hm=>.inl (by
   have:x=l:=by simpa using hm
   have:=hX2.size
   omega)
  refine g_impl_MaskFirst_body (some l) (some ⟨b,0,none⟩) (gi (msL m 4) ((0:Nat):Int)) (R:=fun e _ W3=>e = .ret∧(∃X,ExtX X W2 W3∧∀x∈X,x<w2.heap.size)∧W3.heap[b]? = some (.cells ([.int .i64 (mFst m)]:List Value).toArray ty_int (0,0))∧ExtX [] w W3) (by rw [fo4.size]; simpa using hsz3) (fun p hp => ?_) ⟨wrX_blk (k0:=0) hb5 (by simp) (by simp),fun wr hx => ?_⟩ fun e vs a5 W3 hR _ => ?_
  ·simp only [List.mem_cons,List.not_mem_nil,or_false] at hp
   rcases hp with rfl | rfl
   ·exact ⟨Nat.le_of_ble_eq_true rfl,q2⟩
   ·exact ⟨Nat.le_of_ble_eq_true rfl,q3⟩
  ·have e1:ExtX [b] W2 (sto W2 (some ⟨b,0,none⟩) 0 [.int .i64 (gi (msL m 4) ((0:Nat):Int))]):=sto_ext (bs:=[b]) (by simp)
   have eX:ExtX [b] W2 wr:=e1.trans hx.of_nil
   refine ⟨rfl,⟨[b],eX,fun x hm => ?_⟩,?_,hX5.fresh eX fun x hm=>.inl ?_⟩
   ·have:x=b:=by simpa using hm
    omega
   ·rw [hx0]
    exact blk_ext (sto_blk (vs:=[.int .i64 (gi (msL m 4) ((0:Nat):Int))]) (n:=0) hb5) hx (by simp)
   ·have:x=b:=by simpa using hm
    omega
  ·obtain ⟨rfl,hX3,h3⟩:=hR
   exact ⟨hX3,rfl,h3⟩
 ·intro D W hD ⟨hN,hb,hc,hXW⟩ hdD
  have hm1:mFst m = -1:=by
   rcases msL_cases m with h | h
   ·exact h.2
   ·omega
  refine g_impl_MaskFirst_post none (some ⟨b,0,none⟩) (R:=fun e vs W1=>e = .ret∧W1.heap[b]? = some (.cells ([.int .i64 (-1)]:List Value).toArray ty_int (0,0))∧(∃X,ExtX X W W1∧D∉X)∧ExtX [] w W1) hsz3 (fun p hp => ?_) ⟨wrX_blk (k0:=0) hb (by simp) (by simp),fun wr hx => ?_⟩ fun e vs a6 W1 hR fo6 => ?_
  ·simp only [List.mem_cons,List.not_mem_nil,or_false] at hp
   subst hp
   exact ⟨Nat.le_of_ble_eq_true rfl,p2⟩
  ·have e1:ExtX [b] W (sto W (some ⟨b,0,none⟩) 0 [.int .i64 (-1)]):=sto_ext (bs:=[b]) (by simp)
   have eX:ExtX [b] W wr:=e1.trans hx.of_nil
   refine ⟨rfl,blk_ext (sto_blk (vs:=[.int .i64 (-1)]) (n:=0) hb) hx (by simp),⟨[b],eX,fun hm => ?_⟩,hXW.fresh eX fun x hm=>.inl ?_⟩
   ·have:D=b:=by simpa using hm
    omega
   ·have:x=b:=by simpa using hm
    omega
  ·obtain ⟨rfl,hb6,⟨X,hx6,hDX⟩,hX6⟩:=hR
   exact (leave_markC (D:=D) (by rw [fo6.defers]; simp [hd3]) ((hx6.block D (Array.getElem?_eq_some_iff.1 hdD).1 hDX).trans hdD) (fin ((fo6.kept 2 (by decide +kernel)).trans p2) hb6 hD hX6 hm1.symm)).2
 ·intro D cd W hD ⟨hcd,hb,hXW⟩ hdD
  subst hcd
  exact wpIn_ret (leave_markC (a:={ a3 with defers:=markOf D::a3.defers }) (D:=D) (by simp [hd3]) hdD (fin p2 hb hD hXW rfl)).2
end Go.Proofs.YthhmnlcimojhlaaGreatDoor
namespace Go.Proofs.YthhmnlcimojhlaaGreatDoor
open Go.RowKit
set_option linter.unusedVariables false
set_option linter.unusedSimpArgs false
set_option maxRecDepth 10000
theorem mFst_at {m:Int} {k:Nat} (h4:k<4) (hno:∀j:Nat,j<k→mHas m (j:Int)=false) (h:mHas m (k:Int)=true):mFst m=(k:Int):=by
 have h0:=hno 0
 have h1:=hno 1
 have h2:=hno 2
 have:k=0∨k=1∨k=2∨k=3:=by omega
 unfold mFst
 rcases this with rfl | rfl | rfl | rfl
 ·rw [if_pos (show mHas m 0=true from h)]; rfl
 ·rw [if_neg (by rw [show mHas m 0=false from h0 (by decide)]; decide),if_pos (show mHas m 1=true from h)]; rfl
 ·rw [if_neg (by rw [show mHas m 0=false from h0 (by decide)]; decide),if_neg (by rw [show mHas m 1=false from h1 (by decide)]; decide),if_pos (show mHas m 2=true from h)]; rfl
 ·rw [if_neg (by rw [show mHas m 0=false from h0 (by decide)]; decide),if_neg (by rw [show mHas m 1=false from h1 (by decide)]; decide),if_neg (by rw [show mHas m 2=false from h2 (by decide)]; decide),if_pos (show mHas m 3=true from h)]; rfl
theorem mFst_no {m:Int} (hno:∀j:Nat,j<4→mHas m (j:Int)=false):mFst m = -1:=by
 unfold mFst
 rw [if_neg (by rw [show mHas m 0=false from hno 0 (by decide)]; decide),if_neg (by rw [show mHas m 1=false from hno 1 (by decide)]; decide),if_neg (by rw [show mHas m 2=false from hno 2 (by decide)]; decide),if_neg (by rw [show mHas m 3=false from hno 3 (by decide)]; decide)]
section
variable {base:Nat} {W W':Wld} {m:MW} {w:World} {bar:Int}
theorem k_spec_MaskFirst {x:Int} {bs:List Nat}:PureX bs Tryz.prog fn_spec_MaskFirst #[.int .i64 x] w (.int .i64 (mFst x)) :=
 p_spec_MaskFirst x fun wr hx=>by
  refine loop1 4 0 rfl (fun k=>k≤4∧∀j:Nat,j<k→mHas x (j:Int)=false) ⟨by decide,fun j hj=>absurd hj (Nat.not_lt_zero j)⟩ fun k ⟨hk,hno⟩=>⟨fun hlt => ?_,fun hge => ?_⟩
  ·have hlt:=of_decide_eq_true hlt
   refine ⟨_,k_spec_MaskHas,fun g => ?_,fun g=>⟨⟨by omega,by omega⟩,loop1_next (by omega) ⟨by omega,fun j hj => ?_⟩⟩⟩
   ·rw [mFst_at (by omega) hno g]
   ·by_cases e:j=k
    ·rw [e]; exact g
    ·exact hno j (by omega)
  ·have hge:=of_decide_eq_false hge
   have:k=4:=by omega
   subst this
   rw [mFst_no hno]
theorem encW_tk (W:Wld) (t:Int) (x:Tsk) (m:MW):encW (setTk W t x) m=encW W m:=by simp [encW,setTk]
theorem k_spec_l10Put {F K:Int} (h:MWd 8 base w W m) (hsw:SF F K W) (hk:F+lagB≤K) (hK:K≤1000000000000000000) {t g c:Int} (t0:0≤t) (t1:t<12) (hs:(tkk W t).state≠0) (hg:usedD W.groups g=true) (c0:0≤c) (c1:c<(W.cpus.length:Int)) :
  Calls Tryz.prog fn_spec_l10Put #[.agg (encW W m).toArray,.int .i64 t,.int .i64 g,.int .i64 c] w fun e w'=>e = .returned (.agg (encW W m).toArray)∧Mv 8 base [] w m w' (putW W t g c) m:=by
 refine (e_spec_l10Put W.now m.cO W.cpus.length m.cC m.tO W.tasks.length m.tC m.gO W.groups.length m.gC t g c (R:=fun v w'=>v = .agg (encW W m).toArray∧Mv 8 base [] w m w' (putW W t g c) m) ?_).mono fun e w' ⟨v,he,hv,h3⟩=>⟨by rw [he,hv],h3⟩
 intro y hy y1 hy1
 obtain ⟨g0,g1,_⟩:=usedD_iff.1 hg
 have htl:=hsw.w.a.t
 have hgl:=hsw.w.a.gl
 have hsl:=hsw.w.a.sl hg
 have hl1:t<(W.tasks.length:Int):=by omega
 obtain ⟨hu,d0,d1⟩:=hsw.w.t t t0 t1 hs
 obtain ⟨q0,q1,_⟩:=usedD_iff.1 hu
 have hql:=hsw.w.a.sl hu
 have s1:=hsw.w.s g c hg c0 c1
 have s2:=hsw.w.s _ _ hu d0 d1
 have hv:=hsw.w.tv t t0 t1
 have hlr:=lagT_range W t
 simp only [lagB] at hlr
 have hM:=Mv.two h hy hy1
 have hr:=(Mv.start h).rd
 have hix:=hr.t.ix encT_c t0 hl1
 have hset:=h.stoT t0 hl1 (j:=0) (vs:=encT (putT W t g c)) (x:=putT W t g c) (by simp [encT]) (by simp [encT])
 have e5:encW (setTk W t (putT W t g c)) m=encW W m:=encW_tk _ _ _ _
 have e6:encW (endW (setTk W t (putT W t g c)) c) m=encW W m:=(encW_fr (fr_end _ _)).trans e5
 refine ⟨lagT W t,k_spec_l10Lag hr t0 hl1 q0 q1 d0 (by omega) ⟨by show _≤(tkk W t).v - (shf W (tkk W t).group (tkk W t).cpu).floor; omega,by show (tkk W t).v - (shf W (tkk W t).group (tkk W t).cpu).floor≤_; omega⟩,hix,_,_,_,_,_,_,_,_,_,hr.t t t0 hl1,fun b2 hb2=>⟨hr.g.ix g0 g1,_,_,_,hr.g.shelf g0 g1,(hr.g.shelves g g0 g1).ix encS_c c0 (by omega),(shf W g c).floor,RdS.f (hr.g.shelves g g0 g1) c0 (by omega) (j:=0) rfl,⟨by omega,by omega⟩,hix,wrT h (by simp) t0 hl1 (j:=0) (by decide),fun g4 wr hx hs4 => ?_,fun g4 wr hx=>⟨rfl,?_⟩⟩⟩
 ·have g4:(tkk W t).state=1:=eq_of_beq g4
  have hM2:=((hM.add hb2).deed hset subT).step (hx.of_nil)
  have hcall:=k_spec_l8End hM2.own (W:=setTk W t (putT W t g c)) c0 c1
  rw [e5,e6] at hcall
  refine Calls.mono hcall ?_
  rintro e wv ⟨he1,hy2⟩
  refine ⟨_,_,_,_,_,_,_,_,_,_,he1,hM2.kept hy2 hs4,fun wr2 hx4=>⟨rfl,?_⟩⟩
  unfold putW
  rw [if_pos g4]
  exact ((hM2.call hy2 hs4).step hx4).close
 ·have g4:¬(tkk W t).state=1:=ne_of_beq_false g4
  unfold putW
  rw [if_neg g4]
  exact ((Mv.start h).deed hset subT).call0 hx
theorem k_spec_l10Relocate {F K:Int} (h:MWd 8 base w W m) (hsw:SF F K W) (hk:F+lagB≤K) (hK:K≤1000000000000000000) :
  Calls Tryz.prog fn_spec_l10Relocate #[.agg (encW W m).toArray] w fun e w'=>e = .returned (.agg (encW W m).toArray)∧Mv 8 base [] w m w' (relD W) m:=by
 refine (e_spec_l10Relocate W.now m.cO W.cpus.length m.cC m.tO W.tasks.length m.tC m.gO W.groups.length m.gC (R:=fun v w'=>v = .agg (encW W m).toArray∧Mv 8 base [] w m w' (relD W) m) ?_).mono fun e w' ⟨v,he,hv,h3⟩=>⟨by rw [he,hv],h3⟩
 intro y hy y1 hy1
 have htl:=hsw.w.a.t
 refine ⟨fun vs w1=>∃(k:Nat),vs = .int .i64 (k:Int)::encW W m∧k≤12∧Mv 8 base [y,y1] w m w1 (relN W k) m,cntMw 12 0,fun w1 hx0 _=>⟨0,rfl,by decide,(Mv.two h hy hy1).call0 hx0⟩,?_⟩
 rintro c1 l l1O l1L l1C l2O l2L l2C l3O l3L l3C wv2 hs2 ⟨k,he,hk12,hM⟩
 obtain ⟨hS,hF⟩:=relN_ok hsw hk k hk12
 have hdef:relN W (k+1)=if mustD (relN W k) (k:Int)=true then putW (relN W k) (k:Int) (tkk (relN W k) (k:Int)).group (mFst (whereD (relN W k) (tkk (relN W k) (k:Int)).group (tkk (relN W k) (k:Int)).mask)) else relN W k:=rfl
 have hend:k=12→relD W=relN W k:=fun e=>by rw [e]; rfl
 have e0:encW (relN W k) m=encW W m:=by simp only [encW,hF.n,hF.c,hF.t,hF.g]
 have eC:=hF.c
 have eT:=hF.t
 simp only [encW,List.cons.injEq,Value.int.injEq,Value.slice.injEq,true_and,and_true] at he
 obtain ⟨rfl,rfl,⟨rfl,rfl,rfl⟩,⟨rfl,rfl,rfl⟩,rfl,rfl,rfl⟩:=he
 generalize relN W k=V at hM hS hF hdef hend e0 eC eT
 have hr:=hM.rd
 refine ⟨fun hlt => ?_,fun hge w3 hx3=>⟨rfl,?_⟩⟩
 ·have hlt:=of_decide_eq_true hlt
  have t1:(k:Int)<(V.tasks.length:Int):=by omega
  have hix:Ix m.tO W.tasks.length (k:Int):=by have:=hr.t.ix encT_c (i:=(k:Int)) (by omega) t1; rwa [eT] at this
  have next:∀{w9 w8:World},ExtX [y,y1] wv2 w9→mustD V (k:Int)=false→(∃(k':Nat),[Value.int .i64 ((k:Int)+1),.int .i64 W.now,.slice m.cO W.cpus.length m.cC,.slice m.tO W.tasks.length m.tC,.slice m.gO W.groups.length m.gC] = .int .i64 (k':Int)::encW W m∧k'≤12∧Mv 8 base [y,y1] w m w9 (relN W k') m)∧cntMw 12 0 [.int .i64 ((k:Int)+1),.int .i64 W.now,.slice m.cO W.cpus.length m.cC,.slice m.tO W.tasks.length m.tC,.slice m.gO W.groups.length m.gC] w9<cntMw 12 0 [.int .i64 (k:Int),.int .i64 W.now,.slice m.cO W.cpus.length m.cC,.slice m.tO W.tasks.length m.tC,.slice m.gO W.groups.length m.gC] w8:=fun {w9 w8} hx hm=>by
   refine ⟨⟨k+1,rfl,by omega,?_⟩,?_⟩
   ·rw [hdef,if_neg (by rw [hm]; decide)]
    exact hM.step hx
   ·simp only [cntMw,cntM,ctrAt,List.getElem?_cons_zero]; omega
  refine ⟨hix,_,RdT.f hr.t (by omega) t1 (j:=0) rfl,fun g=>⟨⟨by omega,by omega⟩,fun wr4 hx4 _=>next hx4 (by unfold mustD; rw [show (tkk V (k:Int)).state=0 from eq_of_beq g]; rfl)⟩,fun g => ?_⟩
  have hst:(tkk V (k:Int)).state≠0:=ne_of_beq_false g
  obtain ⟨hu,d0,d1⟩:=hS.w.t (k:Int) (by omega) (by omega) hst
  have hwh:=k_spec_l8Where (g:=(tkk V (k:Int)).group) (mask:=(tkk V (k:Int)).mask) hr hS.w.a.c2 hS.w.a.tree hu
  rw [e0] at hwh
  have hf:=where_fst hS.w.a (tkk V (k:Int)).group (tkk V (k:Int)).mask
  refine ⟨hix,_,RdT.f hr.t (by omega) t1 (j:=1) rfl,hix,_,RdT.f hr.t (by omega) t1 (j:=4) rfl,_,hwh,hix,_,RdT.f hr.t (by omega) t1 (j:=2) rfl,_,k_spec_MaskHas,fun g2=>⟨hix,_,RdT.f hr.t (by omega) t1 (j:=1) rfl,_,k_spec_MaskFirst,fun wr5 hx5 hs5 => ?_⟩,fun g2=>⟨⟨by omega,by omega⟩,fun wr4 hx4 _=>next hx4 (by unfold mustD; rw [show mHas (whereD V (tkk V (k:Int)).group (tkk V (k:Int)).mask) (tkk V (k:Int)).cpu=true from (by have h:=g2; rw [Bool.not_eq_false'] at h; exact h)]; simp)⟩⟩
  have hM5:=hM.step hx5
  have hcall:=k_spec_l10Put hM5.own hS hk hK (t:=(k:Int)) (g:=(tkk V (k:Int)).group) (c:=mFst (whereD V (tkk V (k:Int)).group (tkk V (k:Int)).mask)) (by omega) (by omega) hst hu hf.1 hf.2
  rw [e0] at hcall
  refine Calls.mono hcall ?_
  rintro e1 wv3 ⟨he1,hy3⟩
  refine ⟨_,_,_,_,_,_,_,_,_,_,he1,hM5.kept hy3 hs5,⟨by omega,by omega⟩,fun wr6 hx6 _=>⟨⟨k+1,rfl,by omega,?_⟩,?_⟩⟩
  ·have hm:mustD V (k:Int)=true:=by
    unfold mustD
    rw [Bool.and_eq_true]
    exact ⟨by simpa using hst,g2⟩
   rw [hdef,if_pos hm]
   exact (hM5.call hy3 hs5).step hx6
  ·simp only [cntMw,cntM,ctrAt,List.getElem?_cons_zero]; omega
 ·have hge:=of_decide_eq_false hge
  rw [hend (by omega)]
  exact (hM.step hx3).close
section
variable {pb:Nat}
theorem k_impl_put {F K:Int} (h:PW base pb w W m) (hsw:SF F K W) (hk:F+lagB≤K) (hK:K≤1000000000000000000) {t g c:Int} (t0:0≤t) (t1:t<12) (hs:(tkk W t).state≠0) (hg:usedD W.groups g=true) (c0:0≤c) (c1:c<(W.cpus.length:Int)) :
  Calls Tryz.prog fn_impl_World_put #[.pointer (pA pb),.int .i64 t,.int .i64 g,.int .i64 c] w fun e w'=>e = .returned (.tuple #[])∧Mp base pb [] w m w' (putW W t g c) m:=by
 refine (e_impl_World_put (pA pb) t g c (R:=fun v w'=>v = .tuple #[]∧Mp base pb [] w m w' (putW W t g c) m) ?_).mono fun e w' ⟨v,he,hv,h3⟩=>⟨by rw [he,hv],h3⟩
 obtain ⟨g0,g1,_⟩:=usedD_iff.1 hg
 have htl:=hsw.w.a.t
 have hgl:=hsw.w.a.gl
 have hsl:=hsw.w.a.sl hg
 have hl1:t<(W.tasks.length:Int):=by omega
 obtain ⟨hu,d0,d1⟩:=hsw.w.t t t0 t1 hs
 obtain ⟨q0,q1,_⟩:=usedD_iff.1 hu
 have hql:=hsw.w.a.sl hu
 have s1:=hsw.w.s g c hg c0 c1
 have s2:=hsw.w.s _ _ hu d0 d1
 have hv:=hsw.w.tv t t0 t1
 have hlr:=lagT_range W t
 simp only [lagB] at hlr
 have hM:=Mp.start h
 have hp:=hM.wpt
 have hset1:=hM.own.stoT t0 hl1 (j:=1) (vs:=[.int .i64 g]) (x:={ tkk W t with group:=g }) rfl (by simp)
 have hM1:Mp base pb [] w m _ (setTk W t { tkk W t with group:=g }) m:=hM.deed hset1 subT (encW_tk _ _ _ _)
 have ht1:t<((setTk W t { tkk W t with group:=g }).tasks.length:Int):=by simpa [setTk] using hl1
 have e1:gi (setTk W t { tkk W t with group:=g }).tasks t={ tkk W t with group:=g }:=tk_set t0 hl1
 have hset2:=hM1.own.stoT t0 ht1 (j:=2) (vs:=[.int .i64 c]) (x:={ tkk W t with group:=g,cpu:=c }) (by rw [e1]; rfl) (by simp)
 have hM2:Mp base pb [] w m _ (setTk (setTk W t { tkk W t with group:=g }) t { tkk W t with group:=g,cpu:=c }) m:=hM1.deed hset2 subT (encW_tk _ _ _ _)
 rw [set_set] at hM2
 have ht2:t<((setTk W t { tkk W t with group:=g,cpu:=c }).tasks.length:Int):=by simpa [setTk] using hl1
 have e2:gi (setTk W t { tkk W t with group:=g,cpu:=c }).tasks t={ tkk W t with group:=g,cpu:=c }:=tk_set t0 hl1
 have e2':tkk (setTk W t { tkk W t with group:=g,cpu:=c }) t={ tkk W t with group:=g,cpu:=c }:=e2
 have hp2:=hM2.wpt
 have hfl2:=k_impl_floor (t:=t) hp2 t0 ht2 (by rw [e2']; exact g0) (by rw [e2']; exact g1) (by rw [e2']; exact c0) (by rw [e2']; show c<(((gi W.groups g).shelves.length:Nat):Int); omega)
 rw [e2'] at hfl2
 have hset3:=hM2.own.stoT t0 ht2 (j:=5) (vs:=[.int .i64 ((shf W g c).floor+lagT W t)]) (x:=putT W t g c) (by rw [e2]; rfl) (by simp)
 have hM3:Mp base pb [] w m _ (setTk (setTk W t { tkk W t with group:=g,cpu:=c }) t (putT W t g c)) m:=hM2.deed hset3 subT (encW_tk _ _ _ _)
 rw [set_set] at hM3
 have ht3:t<((setTk W t (putT W t g c)).tasks.length:Int):=by simpa [setTk] using hl1
 have e3:gi (setTk W t (putT W t g c)).tasks t=putT W t g c:=tk_set t0 hl1
 have hp3:=hM3.wpt
 have hst:=RdT.f hp3.rd.t t0 ht3 (j:=0) rfl
 rw [e3] at hst
 refine ⟨hp.some,_,_,_,hp.tasks,hp.rd.t.ix encT_c t0 hl1,_,RdT.f hp.rd.t t0 hl1 (j:=5) rfl,_,k_impl_floor hp t0 hl1 q0 q1 d0 (by omega),⟨by show _≤(tkk W t).v - (shf W (tkk W t).group (tkk W t).cpu).floor; omega,by show (tkk W t).v - (shf W (tkk W t).group (tkk W t).cpu).floor≤_; omega⟩,_,k_impl_weight hp t0 hl1,_,k_impl_LagCut,wrT hM.own hM.nb t0 hl1 (j:=1) (by decide),wrT hM1.own hM1.nb t0 ht1 (j:=2) (by decide),_,hfl2,⟨by show _≤(shf W g c).floor+lagT W t; omega,by show (shf W g c).floor+lagT W t≤_; omega⟩,wrT hM2.own hM2.nb t0 ht2 (j:=5) (by decide),_,hst,fun g4=>⟨_,_,k_impl_lane,fun wr hx _ => ?_⟩,fun g4 wr2 hx=>⟨rfl,?_⟩⟩
 ·have g4:(tkk W t).state=1:=eq_of_beq g4
  have hM4:=hM3.nil hx
  refine Calls.mono (k_impl_endSliceW hM4.pw (W:=setTk W t (putT W t g c)) c0 c1) ?_
  rintro e wv ⟨he,hy⟩
  refine ⟨he,kept_nil,fun wr1 hx1=>⟨rfl,?_⟩⟩
  unfold putW
  rw [if_pos g4]
  exact (hM4.call hy (by simp)).nil hx1
 ·have g4:¬(tkk W t).state=1:=ne_of_beq_false g4
  unfold putW
  rw [if_neg g4]
  exact hM3.nil hx
theorem k_impl_relocate {F K:Int} (h:PW base pb w W m) (hsw:SF F K W) (hk:F+lagB≤K) (hK:K≤1000000000000000000) :
  Calls Tryz.prog fn_impl_World_relocate #[.pointer (pA pb)] w fun e w'=>e = .returned (.tuple #[])∧Mp base pb [] w m w' (relD W) m:=by
 refine (e_impl_World_relocate (pA pb) (R:=fun v w'=>v = .tuple #[]∧Mp base pb [] w m w' (relD W) m) ?_).mono fun e w' ⟨v,he,hv,h3⟩=>⟨by rw [he,hv],h3⟩
 have htl:=hsw.w.a.t
 have hp:=(Mp.start h).wpt
 refine ⟨hp.some,_,_,_,hp.tasks,?_⟩
 refine loop1w W.tasks.length 0 rfl (fun k w2=>k≤12∧Mp base pb [] w m w2 (relN W k) m) (fun w2 hx2 _=>⟨by decide,(Mp.start h).nil hx2⟩) fun k w2 hs2 ⟨hk12,hM⟩ => ?_
 obtain ⟨hS,hF⟩:=relN_ok hsw hk k hk12
 have hdef:relN W (k+1)=if mustD (relN W k) (k:Int)=true then putW (relN W k) (k:Int) (tkk (relN W k) (k:Int)).group (mFst (whereD (relN W k) (tkk (relN W k) (k:Int)).group (tkk (relN W k) (k:Int)).mask)) else relN W k:=rfl
 have hend:k=12→relD W=relN W k:=fun e=>by rw [e]; rfl
 have eC:=hF.c
 have eT:=hF.t
 generalize relN W k=V at hM hS hF hdef hend eC eT
 have hp2:=hM.wpt
 refine ⟨fun hlt => ?_,fun hge w3 hx3=>⟨rfl,?_⟩⟩
 ·have hlt:=of_decide_eq_true hlt
  have t1:(k:Int)<(V.tasks.length:Int):=by omega
  have hix:=hp2.rd.t.ix encT_c (i:=(k:Int)) (by omega) t1
  rw [eT] at hix
  refine ⟨hix,_,_,_,_,_,_,_,_,_,hp2.rd.t (k:Int) (by omega) t1,fun b hb=>⟨fun g=>⟨⟨by omega,by omega⟩,fun wr1 hx1 _=>loop1w_next (by omega) ⟨by omega,?_⟩⟩,fun g => ?_⟩⟩
  ·rw [hdef,if_neg (by unfold mustD; rw [show (tkk V (k:Int)).state=0 from eq_of_beq g]; simp)]
   exact hM.nil hx1
  have hst:(tkk V (k:Int)).state≠0:=ne_of_beq_false g
  obtain ⟨hu,d0,d1⟩:=hS.w.t (k:Int) (by omega) (by omega) hst
  have hf:=where_fst hS.w.a (tkk V (k:Int)).group (tkk V (k:Int)).mask
  refine ⟨_,k_impl_allowed hp2 hS.w.a.c2 hS.w.a.tree (by omega) t1 hu,_,k_impl_MaskHas,fun g2 wr2 hx2 hs3 => ?_,fun g2=>⟨⟨by omega,by omega⟩,fun wr5 hx5 _=>loop1w_next (by omega) ⟨by omega,?_⟩⟩⟩
  ·have hMb:=(hM.add hb).call0 hx2
   refine Calls.mono k_impl_MaskFirst ?_
   rintro e wv ⟨he,hy⟩
   refine ⟨_,he,kept_of hy hs3,rfl,fun wr3 hx3 hs4 => ?_⟩
   have hM3:=(hMb.call0 hy).step hx3
   refine Calls.mono (k_impl_put hM3.pw hS hk hK (t:=(k:Int)) (g:=(tkk V (k:Int)).group) (c:=mFst (whereD V (tkk V (k:Int)).group (tkk V (k:Int)).mask)) (by omega) (by omega) hst hu hf.1 hf.2) ?_
   rintro e1 wv3 ⟨he1,hy3⟩
   refine ⟨he1,hM3.kept hy3 hs4,⟨by omega,by omega⟩,fun wr4 hx4 _=>loop1w_next (by omega) ⟨by omega,?_⟩⟩
   have hm:mustD V (k:Int)=true:=by
    unfold mustD
    rw [Bool.and_eq_true]
    exact ⟨by simpa using hst,g2⟩
   rw [hdef,if_pos hm]
   exact ((hM3.call hy3 hs4).step hx4).close
  ·rw [hdef,if_neg (by unfold mustD; rw [show mHas (whereD V (tkk V (k:Int)).group (tkk V (k:Int)).mask) (tkk V (k:Int)).cpu=true from (by have h:=g2; rw [Bool.not_eq_false'] at h; exact h)]; simp)]
   exact hM.nil hx5
 ·have hge:=of_decide_eq_false hge
  rw [hend (by omega)]
  exact hM.nil hx3
end
end
end Go.Proofs.YthhmnlcimojhlaaGreatDoor
namespace Go.Proofs.YthhmnlcimojhlaaGreatDoor
open Go.RowKit
set_option linter.unusedVariables false
set_option linter.unusedSimpArgs false
set_option maxRecDepth 10000
theorem sw_sf {W:Wld} (sw:SW halfT W):SF halfT (halfT+lagB) W:=sw.sf.mono (Int.le_refl _) (by simp only [lagB]; decide)
theorem rel_sm {W V:Wld} (sm:SmW W) (sf:SF halfT (halfT+lagB) V) (hT:TreeC W.groups V.groups):SmW (settleD (relD V)):=by
 obtain ⟨a,b⟩:=relD_ok sf (Int.le_refl _)
 exact sm_set sm a.w (by simp only [lagB]; decide) (by rw [b.g]; exact hT)
theorem encW_rel {W:Wld} {m:MW} {F K:Int} (sf:SF F K W) (hk:F+lagB≤K):encW (relD W) m=encW W m:=by
 have hF:=(relD_ok sf hk).2
 simp only [encW,hF.n,hF.c,hF.t,hF.g]
section
variable {base pb:Nat} {W W':Wld} {m:MW} {w:World} {bar:Int}
end
end Go.Proofs.YthhmnlcimojhlaaGreatDoor
namespace Go.Proofs.YthhmnlcimojhlaaGreatDoor
open Go.RowKit
set_option linter.unusedVariables false
set_option linter.unusedSimpArgs false
set_option maxRecDepth 10000
theorem ups_mem (cs:List Cpu) {c:Int} (c0:0≤c):∀k:Nat,k≤4→c<(k:Int)→(gi cs c).up=true→mHas (upsN cs k) c=true
 | 0,_,h,_=>by omega
 | k+1,hk,h,hu=>by
  have hl:=upsN_lt cs k (by omega)
  have hb:bitN k≤8:=by
   have:k=0∨k=1∨k=2∨k=3:=by omega
   rcases this with rfl | rfl | rfl | rfl <;> decide
  have key:=hasB_fin ⟨k,by omega⟩ ⟨(upsN cs k).toNat,by omega⟩ ⟨c.toNat,by omega⟩
  rw [show ((⟨(upsN cs k).toNat,by omega⟩:Fin 8).val:Int)=upsN cs k by show (((upsN cs k).toNat:Nat):Int)=upsN cs k; omega,show ((⟨c.toNat,by omega⟩:Fin 4).val:Int)=c by show ((c.toNat:Nat):Int)=c; omega] at key
  simp only [upsN]
  by_cases e:c=(k:Int)
  ·subst e
   rw [if_pos hu,key hl.2]
   simp
  ·have ih:=ups_mem cs c0 k (by omega) (by omega) hu
   split
   ·rw [key hl.2,ih]; simp
   ·exact ih
theorem ups_ne {cs:List Cpu} (h4:cs.length≤4) {c:Int} (c0:0≤c) (c1:c<(cs.length:Int)) (hu:(gi cs c).up=true):upsD cs≠0:=fun e=>by
 have h:=ups_mem cs c0 cs.length h4 c1 hu
 rw [show upsN cs cs.length=0 from e] at h
 have hr:=mHas_range h
 have:c=0∨c=1∨c=2∨c=3:=by omega
 rcases this with rfl | rfl | rfl | rfl <;> exact absurd h (by decide)
theorem SW.setCp {K:Int} {W:Wld} (h:SW K W) {c:Int} (c0:0≤c) (c1:c<(W.cpus.length:Int)) {x:Cpu} (hu:upsD (W.cpus.set c.toNat x)≠0) (h1 : -1≤x.cur) (h2:x.cur<12):SW K (setCp W c x):=by
 have hl:(W.cpus.set c.toNat x).length=W.cpus.length:=List.length_set
 have hg:∀d:Int,0≤d→gi (W.cpus.set c.toNat x) d=if c=d then x else gi W.cpus d:=fun d d0=>gi_set _ _ c0 c1 d0
 refine ⟨h.a.cp hl hu,fun t a b n => ?_,h.tv,fun k d u a b => ?_,fun d a b => ?_⟩
 ·show _∧_∧_<(((W.cpus.set c.toNat x).length:Nat):Int)
  rw [hl]
  exact h.t t a b n
 ·have b:d<(((W.cpus.set c.toNat x).length:Nat):Int):=b
  rw [hl] at b
  exact h.s k d u a b
 ·have b:d<(((W.cpus.set c.toNat x).length:Nat):Int):=b
  rw [hl] at b
  show _≤(gi (W.cpus.set c.toNat x) d).cur∧(gi (W.cpus.set c.toNat x) d).cur<12
  rw [hg _ a]
  split
  ·exact ⟨h1,h2⟩
  ·exact h.cu d a b
noncomputable def cpuB (W:Wld) (c:Int) (up:Bool) (last:Int):Int:=if cpuIn W c=false then 1 else if (gi W.cpus c).up≠up then 6 else if last≠0 then last else if roomB W=false then 10 else 0
theorem cpuB_ok {W:Wld} {c:Int} {up:Bool} {last:Int} (h:cpuB W c up last=0):cpuIn W c=true∧(gi W.cpus c).up=up∧last=0∧roomB W=true:=by
 unfold cpuB at h
 split at h
 ·cases h
 ·rename_i h1
  split at h
  ·cases h
  ·rename_i h2
   split at h
   ·rename_i h3; exact absurd h h3
   ·rename_i h3
    split at h
    ·cases h
    ·rename_i h4
     exact ⟨by simpa using h1,by simpa using h2,by omega,by simpa using h4⟩
theorem cpuB_eq {W:Wld} {c:Int} {up:Bool} {last:Int} (h1:cpuIn W c=true) (h2:(gi W.cpus c).up=up) (h3:last=0):cpuB W c up last=if roomB W=false then 10 else 0:=by
 unfold cpuB
 rw [if_neg (by rw [h1]; decide),if_neg (by simpa using h2),if_neg (by simpa using h3)]
def upC (x:Cpu) (b:Bool):Cpu:={ x with up:=b }
def onW (W:Wld) (c:Int):Wld:=settleD (relD (setCp W c (upC (gi W.cpus c) true)))
theorem on_sw {W:Wld} {c:Int} (hW:worldB W=true) (hb:cpuB W c false 0=0):0≤c∧c<(W.cpus.length:Int)∧SF halfT (halfT+lagB) W∧SF halfT (halfT+lagB) (setCp W c (upC (gi W.cpus c) true)):=by
 obtain ⟨h1,h2,_,h4⟩:=cpuB_ok hb
 have wp:=decB_t.1 hW
 have sw:=sw_of wp (decB_t.1 h4)
 obtain ⟨c0,c1⟩:=cpuIn_t h1
 have hcu:=sw.cu c c0 c1
 have hl:(W.cpus.set c.toNat (upC (gi W.cpus c) true)).length=W.cpus.length:=List.length_set
 have hc2:=wp.a.c2
 exact ⟨c0,c1,sw_sf sw,sw_sf (sw.setCp c0 c1 (x:=upC (gi W.cpus c) true) (ups_ne (by omega) c0 (by omega) (by rw [gi_set _ _ c0 c1 c0,if_pos rfl]; rfl)) hcu.1 hcu.2)⟩
theorem sm_on {W:Wld} {c:Int} (sm:SmW W) (hW:worldB W=true) (hb:cpuB W c false 0=0):SmW (onW W c):=by
 obtain ⟨_,_,_,h⟩:=on_sw hW hb
 exact rel_sm sm h (TreeC.refl _)
theorem encW_cp (W:Wld) (c:Int) (x:Cpu) (m:MW):encW (setCp W c x) m=encW W m:=by simp [encW,setCp]
noncomputable abbrev onB (W:Wld) (c:Int):Int:=cpuB W c false 0
section
variable {W W':Wld} {m:MW} {w:World}
theorem k_spec_CpuOn {c:Int} (h:RdW [] w W m) (hl:LenW W) :
  Calls Tryz.prog fn_spec_CpuOn #[.agg (encW W m).toArray,.int .i64 c] w fun e w'=>∃v,e = .returned v∧AnsW (ansD W (cpuB W c false 0) (onW W c)) w v w':=by
 refine e_spec_CpuOn W.now m.cO W.cpus.length m.cC m.tO W.tasks.length m.tC m.gO W.groups.length m.gC c (R:=fun v w'=>AnsW (ansD W (cpuB W c false 0) (onW W c)) w v w') ?_
 intro y hy y1 hy1 wr hx2 hs2
 have hm9:=maxLen_big
 have hlc:=hl.c
 refine Calls.mono (k_spec_l10Begin (h.ext hx2) hl) ?_
 rintro e wv (⟨hW,he,hy2⟩ | ⟨hW,m',he,hM,hy2⟩)
 ·exact ⟨_,_,_,_,_,_,_,_,_,_,_,he,kept_of hy2 hs2,fun g=>by simp at g,true,fun g=>by simp at g,fun _ wr1 hx3=>AnsW.bad hW ((hx2.trans hy2).fresh hx3 fun z hm=>.inl (two_new hy hy1 z hm)),fun g=>by simp at g⟩
 have hK:=Wk.begin hy hy1 hx2 hs2 hM hy2
 have hr:=hK.rd
 have wp:=decB_t.1 hW
 have hm0:=maxLen_le
 refine ⟨_,_,_,_,_,_,_,_,_,_,_,he,kept_of hy2 hs2,fun _=>⟨by omega,by omega⟩,cpuIn W c,fun _=>k_spec_l1In,fun g wr1 hx3 => ?_,fun g => ?_⟩
 ·have g:cpuIn W c=false:=by
   cases hc:cpuIn W c with
   | false=>rfl
   | true=>rw [hc] at g; split at g <;> simp at g
  have hb:cpuB W c false 0=1:=by unfold cpuB; rw [if_pos g]
  exact AnsW.no hW (by rw [hb]; decide) (hK.step hx3) hb
 have g:cpuIn W c=true:=by
  cases hc:cpuIn W c with
  | true=>rfl
  | false=>rw [hc] at g; simp at g
 obtain ⟨c0,c1⟩:=cpuIn_t g
 refine ⟨hr.c.ix encC_c c0 c1,_,hr.c.f c0 c1 (j:=0) rfl,fun g2 wr2 hx3 => ?_,fun g2=>⟨fun g3 wr3 hx3 => ?_,fun g3 => ?_⟩⟩
 ·have hb:cpuB W c false 0=6:=by unfold cpuB; rw [if_neg (by rw [g]; decide),if_pos (by rw [g2]; decide)]
  exact AnsW.no hW (by rw [hb]; decide) (hK.step hx3) hb
 ·have hr0:¬roomB W=true:=fun hr=>by rw [if_pos hr] at g3; simp at g3
  have hb:cpuB W c false 0=10:=by rw [cpuB_eq g g2 rfl,if_pos (by simpa using hr0)]
  rw [if_neg hr0]
  exact AnsW.no hW (by rw [hb]; decide) (hK.step hx3) hb
 have hr0:roomB W=true:=Decidable.byContradiction fun hr=>by rw [if_neg hr] at g3; simp at g3
 have hb:cpuB W c false 0=0:=by rw [cpuB_eq g g2 rfl,if_neg (by rw [hr0]; decide)]
 obtain ⟨_,_,_,sf⟩:=on_sw hW hb
 have hset:Wk 8 [y,y1] w (sto wv m'.cO (Int.toNat c*5+0) [.bool true]) (setCp W c (upC (gi W.cpus c) true)) m':=hK.sto (hK.own.stoC c0 c1 (j:=0) (vs:=[.bool true]) (x:=upC (gi W.cpus c) true) rfl (by simp)) subC
 refine ⟨hr.c.ix encC_c c0 c1,wrC hK.own hK.nb c0 c1 (by decide),fun wr4 hx4 hs4 => ?_⟩
 have e5:encW (setCp W c (upC (gi W.cpus c) true)) m'=encW W m':=encW_cp _ _ _ _
 have hE:onW W c=settleD (relD (setCp W c (upC (gi W.cpus c) true))):=rfl
 rw [hE]
 generalize setCp W c (upC (gi W.cpus c) true)=V at hset sf e5
 have hK4:=hset.step hx4
 have hcall:=k_spec_l10Relocate hK4.own sf (Int.le_refl _) (by simp only [lagB]; decide)
 rw [e5] at hcall
 refine Calls.mono hcall ?_
 rintro e1 wv1 ⟨he1,hy3⟩
 refine ⟨_,_,_,_,_,_,_,_,_,_,he1,hK4.kept hy3 hs4,fun wr5 hx5 hs5 => ?_⟩
 have hK5:=(hK4.deed hy3 hs4).step hx5
 have hcall2:=k_spec_l8Settle hK5.own (relD_ok sf (Int.le_refl _)).1.w (by simp only [lagB]; decide) (by simp only [lagB]; decide) hK5.base
 rw [encW_rel sf (Int.le_refl _),e5] at hcall2
 refine Calls.mono hcall2 ?_
 rintro e2 wv2 ⟨m2,he2,hy4⟩
 exact ⟨_,_,_,_,_,_,_,_,_,_,he2,hK5.kept hy4 hs5,fun wr6 hx6=>AnsW.ok hW hb ((hK5.deed hy4 hs5).step hx6)⟩
theorem k_attemptCpu_1 {base pb:Nat} {cap cap1 cap2 cap3:Option Addr} {c:Int} {up:Bool} {last:Int} {lf cf:Fn} {la lk ca ck:Array Value} (h:PW base pb w W m) (hW:worldB W=true)
  (h0:CellsX [] w cap 0 [.int .i64 c]) (h1:CellsX [] w cap1 0 [.bool up]) (h2:CellsX [] w cap2 0 [.func lf la lk]) (h3:CellsX [] w cap3 0 [.func cf ca ck])
  (hlast:∀w1,ExtX [] w w1→CallF Tryz.prog (.func lf la lk) [.pointer (pA pb)] w1 fun e w2=>(last≠0∧e = .returned (.iface ty_impl_refusal (.agg #[.int .i64 last]))∨last=0∧e = .returned .nilIface)∧ExtX [] w1 w2)
  (hcall:cpuB W c up last=0→∀w1,ExtX [] w w1→CallF Tryz.prog (.func cf ca ck) [.pointer (pA pb),.agg #[.pointer (pA pb),.int .i64 c]] w1 fun e w2=>e = .returned (.tuple #[])∧∃m2,Done base pb [] w1 m w2 W' m2) :
  Calls Tryz.prog fn_impl_attemptCpu_1 #[.pointer (pA pb),.pointer cap,.pointer cap1,.pointer cap2,.pointer cap3] w fun e w2=>(cpuB W c up last≠0∧e = .returned (.iface ty_impl_refusal (.agg #[.int .i64 (cpuB W c up last)]))∧ExtX [] w w2)∨(cpuB W c up last=0∧e = .returned .nilIface∧∃m2,Done base pb [] w m w2 W' m2):=by
 have wp:=decB_t.1 hW
 have hp:=(Mp.start h).wpt
 refine (e_impl_attemptCpu_1 (pA pb) cap cap1 cap2 cap3 (R:=fun v w2=>(cpuB W c up last≠0∧v = .iface ty_impl_refusal (.agg #[.int .i64 (cpuB W c up last)])∧ExtX [] w w2)∨(cpuB W c up last=0∧v = .nilIface∧∃m2,Done base pb [] w m w2 W' m2)) ?_).mono fun e w' ⟨v,he,h3⟩=>by
  rw [he]
  rcases h3 with ⟨a,b,c⟩ | ⟨a,b,c⟩
  ·exact .inl ⟨a,by rw [b],c⟩
  ·exact .inr ⟨a,by rw [b],c⟩
 have hc2:=wp.a.c2
 have hm9:=maxLen_big
 refine ⟨c,h0,cpuIn W c,k_impl_cpuThere hp (by omega),fun g wr hx=>.inl ?_,fun g => ?_⟩
 ·have hb:cpuB W c up last=1:=by unfold cpuB; rw [if_pos (by simpa using g)]
  rw [hb]
  exact ⟨by decide,rfl,hx⟩
 have g:cpuIn W c=true:=by simpa using g
 obtain ⟨c0,c1⟩:=cpuIn_t g
 refine ⟨hp.some,_,_,_,hp.cpus,c,h0,hp.rd.c.ix encC_c c0 c1,_,hp.rd.c.f c0 c1 (j:=0) rfl,up,h1,fun g2 wr hx=>.inl ?_,fun g2=>⟨lf,la,lk,h2,fun wr hx _ => ?_⟩⟩
 ·have g2:(gi W.cpus c).up≠up:=by simpa using g2
  have hb:cpuB W c up last=6:=by unfold cpuB; rw [if_neg (by rw [g]; decide),if_pos g2]
  rw [hb]
  exact ⟨by decide,rfl,hx⟩
 have g2:(gi W.cpus c).up=up:=by simpa using g2
 refine (hlast wr hx).mono fun e w2 ⟨hA,hy⟩ => ?_
 rcases hA with ⟨a1,a2⟩ | ⟨a1,a2⟩
 ·have hb:cpuB W c up last=last:=by unfold cpuB; rw [if_neg (by rw [g]; decide),if_neg (by simpa using g2),if_pos a1]
  refine ⟨_,a2,kept_nil,true,fun wq=>by kernel_rfl,fun _ wr3 hx3=>.inl ?_,fun g=>by cases g⟩
  rw [hb]
  exact ⟨a1,rfl,(hx.trans hy).trans hx3⟩
 ·have hM:=(Mp.start h).nil (hx.trans hy)
  have hp2:=hM.wpt
  refine ⟨_,a2,kept_nil,false,fun wq=>by kernel_rfl,fun g=>(by cases g),fun _=>⟨_,k_impl_roomW hp2 wp.a,fun g3 wr4 hx4=>.inl ?_,fun g3 => ?_⟩⟩
  ·have g3:roomB W=false:=by simpa using g3
   have hb:cpuB W c up last=10:=by rw [cpuB_eq g g2 a1,if_pos g3]
   rw [hb]
   exact ⟨by decide,rfl,(hx.trans hy).trans hx4⟩
  have g3:roomB W=true:=by simpa using g3
  have hb:cpuB W c up last=0:=by rw [cpuB_eq g g2 a1,if_neg (by rw [g3]; decide)]
  refine ⟨cf,ca,ck,h3.ext (hx.trans hy),c,h0.ext (hx.trans hy),pA pb,c,k_impl_lane,fun wr5 hx5 _ => ?_⟩
  refine (hcall hb wr5 ((hx.trans hy).trans hx5)).mono fun e1 w3 ⟨b1,m2,b2⟩ => ?_
  exact ⟨b1,kept_nil,fun wr6 hx6=>.inr ⟨hb,rfl,m2,(b2.pre ((hx.trans hy).trans hx5)).post hx6⟩⟩
theorem k_attemptCpu {c:Int} {up:Bool} {last:Int} {lf cf:Fn} {la lk ca ck:Array Value} (h:RdW [] w W m) (hl:LenW W) (hg:GlobE w)
  (hlast:∀(base pb:Nat) (w1:World) (m1:MW),worldB W=true→PW base pb w1 W m1→CallF Tryz.prog (.func lf la lk) [.pointer (pA pb)] w1 fun e w2=>(last≠0∧e = .returned (.iface ty_impl_refusal (.agg #[.int .i64 last]))∨last=0∧e = .returned .nilIface)∧ExtX [] w1 w2)
  (hcall:∀(base pb:Nat) (w1:World) (m1:MW),worldB W=true→cpuB W c up last=0→ExtX [] w w1→w.heap.size≤base→base≤pb→PW base pb w1 W m1→CallF Tryz.prog (.func cf ca ck) [.pointer (pA pb),.agg #[.pointer (pA pb),.int .i64 c]] w1 fun e w2=>e = .returned (.tuple #[])∧∃m2,Done base pb [] w1 m1 w2 W' m2) :
  Calls Tryz.prog fn_impl_attemptCpu #[.agg (encW W m).toArray,.int .i64 c,.bool up,.func lf la lk,.func cf ca ck] w fun e w'=>∃v,e = .returned v∧AnsW (ansD W (cpuB W c up last) W') w v w':=by
 refine e_impl_attemptCpu W.now m.cO W.cpus.length m.cC m.tO W.tasks.length m.tC m.gO W.groups.length m.gC c up lf la lk cf ca ck (R:=fun v w'=>AnsW (ansD W (cpuB W c up last) W') w v w') ?_
 intro x hx b1 wb hx1 hb1 hc1 hn1 b2 wb1 hxb hb2 hc2 hn2 b3 wb2 hxb2 hb3 hc3 hn3 b4 wb3 hxb3 hb4 hc4 hn4 b5 hb5 wr hx2 hs
 have hX0:ExtX [] w wb1:=hx1.fresh hxb fun y hy=>.inl (le_mem1 hy hx)
 have hX1:ExtX [] w wb2:=hX0.fresh hxb2 fun y hy=>.inl (le_mem1 hy hx)
 have hX3:ExtX [] w wb3:=hX1.fresh hxb3 fun y hy=>.inl (le_mem1 hy hx)
 have hX:ExtX [] w wr:=hX3.fresh hx2 fun y hy=>.inl (le_mem1 hy hx)
 have c1:=blk_ext (blk_ext (blk_ext (blk_ext hc1 hxb hn1) hxb2 hn1) hxb3 hn1) hx2 hn1
 have c2:=blk_ext (blk_ext (blk_ext hc2 hxb2 hn2) hxb3 hn2) hx2 hn2
 have c3:=blk_ext (blk_ext hc3 hxb3 hn3) hx2 hn3
 have c4:=blk_ext hc4 hx2 hn4
 have cell:∀{b:Nat} {v:Value} {t:TypeId} {w1:World},wr.heap[b]? = some (Obj.cells ([v]:List Value).toArray t (0,0))→ExtX [] wr w1→CellsX [] w1 (some ⟨b,0,none⟩) 0 [v]:=fun hb hx=>cellX_blk (blk_ext hb hx (by simp)) (by simp) (k0:=0) rfl
 refine Calls.mono (k_attempt (bar:=cpuB W c up last) (W':=W') (h.ext hX) hl (hg.ext hX) fun w1 pb m1 hW hx3 hpb hP=>.inl ⟨fn_impl_attemptCpu_1,_,rfl,k_attemptCpu_1 hP hW (cell c1 hx3) (cell c2 hx3) (cell c3 hx3) (cell c4 hx3) (fun w9 hx9=>hlast _ pb w9 m1 hW (hP.ext0 hx9)) fun hb w9 hx9=>hcall _ pb w9 m1 hW hb ((hX.trans hx3).trans hx9) hX.size hpb (hP.ext0 hx9)⟩) ?_
 rintro e wv ⟨v,he,n',m',hv,hM,hy⟩
 subst hv
 refine ⟨_,_,_,_,_,_,_,_,_,_,_,he,kept_of hy hs,fun wr1 hx4=>⟨n',m',rfl,(hM.ext hx4 fun y hy hm => ?_).mono hX.size,(hX.trans hy).fresh hx4 fun y hm => ?_⟩⟩
 ·have:=(hM.lt y hy).1
  have:=hs y hm
  omega
 ·simp only [List.mem_cons,List.not_mem_nil,or_false] at hm
  rcases hm with rfl | rfl
  ·exact .inl hx
  ·exact .inl (Nat.le_trans hX3.size hb5)
theorem k_noCheck {p:Option Addr} {bs:List Nat}:PureX bs Tryz.prog fn_impl_noCheck #[.pointer p] w .nilIface:=p_impl_noCheck p fun _ _=>rfl
theorem up_cell {base pb:Nat} {bs:List Nat} {w0:World} {m0:MW} {c:Int} {b:Bool} (hM:Mp base pb bs w0 m0 w W m) (c0:0≤c) (c1:c<(W.cpus.length:Int)) :
  (m.cO.map (·.add (Int.toNat c*5))).isSome=true∧WrX [] w (m.cO.map (·.add (Int.toNat c*5))) (0+0) 1∧Mp base pb bs w0 m0 (sto w (m.cO.map (·.add (Int.toNat c*5))) (0+0) [.bool b]) (setCp W c (upC (gi W.cpus c) b)) m:=by
 have hp:=hM.wpt
 refine ⟨some_atW (hp.rd.c c c0 c1),wrX_add.2 (wrC hM.own (by simp) c0 c1 (j:=0) (by decide)),?_⟩
 rw [sto_add]
 exact hM.deed (hM.own.stoC c0 c1 (j:=0) (vs:=[.bool b]) (x:=upC (gi W.cpus c) b) rfl (by simp)) subC (encW_cp _ _ _ _)
theorem k_CpuOn_1 {base pb:Nat} {c:Int} (h:PW base pb w W m) (hW:worldB W=true) (hb:cpuB W c false 0=0) :
  Calls Tryz.prog fn_impl_CpuOn_1 #[.pointer (pA pb),.agg #[.pointer (pA pb),.int .i64 c]] w fun e w2=>e = .returned (.tuple #[])∧∃m2,Done base pb [] w m w2 (onW W c) m2:=by
 refine (e_impl_CpuOn_1 (pA pb) (pA pb) c (R:=fun v w2=>v = .tuple #[]∧∃m2,Done base pb [] w m w2 (onW W c) m2) ?_).mono fun e w' ⟨v,he,hv,h3⟩=>⟨by rw [he,hv],h3⟩
 intro b hbb
 obtain ⟨c0,c1,_,sf⟩:=on_sw hW hb
 have hM:=Mp.start h
 obtain ⟨s1,s2,s3⟩:=up_cell (b:=true) (hM.add hbb) c0 c1
 have hE:onW W c=settleD (relD (setCp W c (upC (gi W.cpus c) true))):=rfl
 rw [hE]
 refine ⟨_,k_impl_cpu hM.wpt c0 c1,s1,s2,fun wr hx hs => ?_⟩
 generalize setCp W c (upC (gi W.cpus c) true)=V at s3 sf
 have hM2:Mp base pb [b] w m wr V m:=s3.call0 hx
 refine Calls.mono (k_impl_relocate hM2.pw sf (Int.le_refl _) (by simp only [lagB]; decide)) ?_
 rintro e wv ⟨he,hy⟩
 refine ⟨he,hM2.kept hy hs,fun wr4 hx4 hs4 => ?_⟩
 have hM3:=(hM2.call hy hs).step hx4
 refine Calls.mono (k_impl_settle hM3.pw (relD_ok sf (Int.le_refl _)).1.w (by simp only [lagB]; decide) (by simp only [lagB]; decide)) ?_
 rintro e1 wv2 ⟨he1,hy1⟩
 exact ⟨he1,hM3.kept hy1 hs4,fun wr5 hx5=>⟨rfl,m,((hM3.call hy1 hs4).step hx5).close.done⟩⟩
theorem k_impl_CpuOn {c:Int} (h:RdW [] w W m) (hl:LenW W) (hg:GlobE w) :
  Calls Tryz.prog fn_impl_CpuOn #[.agg (encW W m).toArray,.int .i64 c] w fun e w'=>∃v,e = .returned v∧AnsW (ansD W (cpuB W c false 0) (onW W c)) w v w':=by
 refine e_impl_CpuOn W.now m.cO W.cpus.length m.cC m.tO W.tasks.length m.tC m.gO W.groups.length m.gC c (R:=fun v w'=>AnsW (ansD W (cpuB W c false 0) (onW W c)) w v w') ?_
 intro x hx b1 hb1 wr hx1 hs
 refine Calls.mono (k_attemptCpu (up:=false) (last:=0) (W':=onW W c) (c:=c) (h.ext hx1) hl (hg.ext hx1) (fun base pb w1 m1 hW hP=>.inl ⟨fn_impl_noCheck,_,rfl,(k_noCheck (bs:=[]) w1 (ExtX.refl _ _)).mono fun e w2 ⟨he,hx⟩=>⟨.inr ⟨rfl,he⟩,hx⟩⟩) fun base pb w1 m1 hW hb hx3 _ _ hP=>.inl ⟨fn_impl_CpuOn_1,_,rfl,k_CpuOn_1 hP hW hb⟩) ?_
 rintro e wv ⟨v,he,n',m',hv,hM,hy⟩
 subst hv
 refine ⟨_,_,_,_,_,_,_,_,_,_,_,he,kept_of hy hs,fun wr1 hx4=>⟨n',m',rfl,(hM.ext hx4 fun y hy hm => ?_).mono hx1.size,(hx1.trans hy).fresh hx4 fun y hm=>.inl (two_new hx hb1 y hm)⟩⟩
 have:=(hM.lt y hy).1
 have:=hs y hm
 omega
end
end Go.Proofs.YthhmnlcimojhlaaGreatDoor
namespace Go.Proofs.YthhmnlcimojhlaaGreatDoor
open Go.RowKit
set_option linter.unusedVariables false
set_option linter.unusedSimpArgs false
set_option maxRecDepth 10000
set_option maxHeartbeats 1000000 in
theorem k_FnExactCpuOn {D:Wld} {M:MW} {c:Int} {w:World} (ft:FitW w D M) (_:InR .i64 c) (hg:GlobE w) :
  Calls Tryz.prog fn_laws_FnExactCpuOn #[.agg (encW D M).toArray,.int .i64 c] w fun e w'=>e = .returned (.bool true)∧ExtX [] w w':=by
 refine (e_laws_FnExactCpuOn D.now M.cO D.cpus.length M.cC M.tO D.tasks.length M.tC M.gO D.groups.length M.gC c (R:=fun v w'=>v = .bool true∧ExtX [] w w') ?_).mono fun e w' ⟨v,he,hv,h3⟩=>⟨by rw [he,hv],h3⟩
 have hl:LenW D:=⟨ft.lc,ft.lt,ft.lg,ft.ft⟩
 have hrd:=ft.rd
 intro b hb
 refine ⟨_,k_szWorld ft (by decide) (by decide),fun _ w1 hx1=>⟨rfl,hx1⟩,fun hs => ?_⟩
 have hs:=of_decide_eq_false hs
 have sm:=(szWd_nn (W:=D) (left:=1048576) (by decide) (by omega)).1
 have smr:SmW (ansD D (onB D c) (onW D c)).1:=ans_sm sm fun hW hb=>sm_on sm hW hb
 have hmD:=mK_pos sm
 generalize hr:ansD D (onB D c) (onW D c)=r at smr
 have hmR:=mK_pos smr
 intro wr1 hx1 hs1
 have s1:Sc w [b] wr1:=((Sc.start w).add hb).call0 hx1
 refine Calls.mono (k_toW hrd s1 hs1 sm) ?_
 rintro e wv ⟨mA,he,hA,hy⟩
 refine ⟨_,_,_,_,_,_,_,_,_,_,he,kept_of hy hs1,fun wr2 hx2 hs2 => ?_⟩
 have s2:=(s1.call0 hy).step hx2
 have hA2:=hA.step hx2
 refine Calls.mono (k_spec_CpuOn (c:=c) hA2.rd0 hl) ?_
 rintro e1 wv1 ⟨v,he1,nW,mW,hv,hW0,hy1⟩
 subst hv
 rw [hr] at he1 hW0
 have s3:=s2.call0 hy1
 have hW1:=(OW.of hW0 hs2).mono s2.ext.size
 refine ⟨_,_,_,_,_,_,_,_,_,_,_,he1,kept_of hy1 hs2,fun b1 hb1 wr3 hx3 hs3 => ?_⟩
 have s4:=s3.put hx3 hb1
 have hW2:=hW1.put hx3 hb1
 refine Calls.mono (k_toW hrd s4 hs3 sm) ?_
 rintro e2 wv2 ⟨mX,he2,hX0,hy2⟩
 have n0:=sepW hW2.own hX0.own (Nat.le_refl _)
 have s5:=s4.call0 hy2
 have hW3:=hW2.call0 hy2
 have hX1:=hX0.mono s4.ext.size
 refine ⟨_,_,_,_,_,_,_,_,_,_,he2,kept_of hy2 hs3,fun b2 hb2 wr4 hx4 hs4 => ?_⟩
 have s6:=s5.put hx4 hb2
 have hW4:=hW3.put hx4 hb2
 have hX2:=hX1.put hx4 hb2
 refine Calls.mono (k_impl_CpuOn (c:=c) hX2.rd0 hl (hg.ext s6.ext)) ?_
 rintro e3 wv3 ⟨v,he3,nG,mG,hv,hG0,hy3⟩
 subst hv
 rw [hr] at he3 hG0
 have n1:=sepW hX2.own hG0 (Nat.le_refl _)
 have n2:=sepW hW4.own hG0 (Nat.le_refl _)
 have s7:=s6.call0 hy3
 have hW5:=hW4.call0 hy3
 have hX3:=hX2.call0 hy3
 have hG1:=(OW.of hG0 hs4).mono s6.ext.size
 refine ⟨_,_,_,_,_,_,_,_,_,_,_,he3,kept_of hy3 hs4,fun b3 hb3=>⟨true,eqWW hG1.rd hW5.rd smr,fun hbad=>(by simp at hbad),fun _ wr6 hx6 hs6 => ?_⟩⟩
 have s8:=s7.put hx6 hb3
 have hW6:=hW5.put hx6 hb3
 have hX4:=hX3.put hx6 hb3
 have hG2:=hG1.put hx6 hb3
 refine Calls.mono (k_toW hrd s8 hs6 sm) ?_
 rintro e4 wv4 ⟨mY,he4,hY,hy4⟩
 refine ⟨_,_,_,_,_,_,_,_,_,_,he4,kept_of hy4 hs6,rfl,true,eqWW (hX4.call0 hy4).rd hY.rd sm,fun hbad=>(by simp at hbad),fun _ wr8 hx8 hs8 => ?_⟩
 have s9:=(s8.call0 hy4).step hx8
 have hW7:=(hW6.call0 hy4).step hx8
 have hX5:=(hX4.call0 hy4).step hx8
 have hG3:=(hG2.call0 hy4).step hx8
 refine Calls.mono (k_markWorld hX5.own sm) ?_
 rintro e5 wv5 ⟨he5,_,hy5⟩
 have s10:=s9.call hy5 fun x hx=>(hX5.own.lt x hx).1
 have hW8:=hW7.call hy5 n0.1
 have hG4:=hG3.call hy5 n1.2
 refine ⟨_,he5,kept_sep hy5 hs8 hX5.nb,true,fun _=>eqWW hG4.rd hW8.rd smr,fun hbad => ?_,fun _ wr10 hx10 hs10 => ?_⟩
 ·rw [decide_eq_false (by omega)] at hbad
  simp at hbad
 have s11:=s10.step hx10
 have hW9:=hW8.step hx10
 have hG5:=hG4.step hx10
 refine Calls.mono (k_markWorld hG5.own smr) ?_
 rintro e6 wv6 ⟨he6,hGm,hy6⟩
 have s12:=s11.call hy6 fun x hx=>(hG5.own.lt x hx).1
 have hW10:=hW9.call hy6 n2.1
 have hH:OW nG w.heap.size _ wv6 (markW r.1) mG:=⟨hGm,hG5.nb⟩
 refine ⟨_,he6,kept_sep hy6 hs10 hG5.nb,_,k_heldWorld hH.rd smr,fun hbad => ?_,fun _=>⟨fun hbad=>(by simp at hbad),fun _ wr13 hx13 hs13 => ?_⟩⟩
 ·have:=of_decide_eq_true hbad
  omega
 have s13:=s12.step hx13
 have hW11:=hW10.step hx13
 have hH2:=hH.step hx13
 refine Calls.mono (k_toW hrd s13 hs13 sm) ?_
 rintro e7 wv7 ⟨mZ,he7,hZ,hy7⟩
 refine ⟨_,_,_,_,_,_,_,_,_,_,he7,kept_of hy7 hs13,fun wr14 hx14 hs14 => ?_⟩
 have s14:=(s13.call0 hy7).step hx14
 have hW12:=(hW11.call0 hy7).step hx14
 have hH3:=(hH2.call0 hy7).step hx14
 refine Calls.mono (k_impl_CpuOn (c:=c) (hZ.step hx14).rd0 hl (hg.ext s14.ext)) ?_
 rintro e8 wv8 ⟨v,he8,nI,mI,hv,hI0,hy8⟩
 subst hv
 rw [hr] at he8 hI0
 have s15:=s14.call0 hy8
 have hW13:=hW12.call0 hy8
 have hH4:=hH3.call0 hy8
 have hI:=OW.of hI0 hs14
 refine ⟨_,_,_,_,_,_,_,_,_,_,_,he8,kept_of hy8 hs14,fun b4 hb4=>⟨true,eqWW hI.rd hW13.rd smr,fun hbad=>(by simp at hbad),fun _=>⟨_,k_heldWorld hH4.rd smr,fun hbad => ?_,fun _=>⟨fun hbad=>(by simp at hbad),fun _ wr18 hx18=>⟨rfl,(s15.step hx18).ext⟩⟩⟩⟩⟩
 have:=of_decide_eq_true hbad
 omega
end Go.Proofs.YthhmnlcimojhlaaGreatDoor
