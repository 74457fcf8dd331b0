/- Part 16 of what the law FnExactTaskWake needs: the engine, the functions' propositions, the contracts. -/
import Derived.Test.YtajdcjidpolloaaGreatDoorFnExactTaskWakePo
import Derived.Shelf.Abstract
namespace Go.Proofs.YtajdcjidpolloaaGreatDoor
open Go.RowKit
set_option linter.unusedVariables false
set_option linter.unusedSimpArgs false
set_option maxRecDepth 10000
theorem bestN_app {lt:Int→Int→Bool} {l r:List Int}:∀k:Nat,k≤l.length→bestN lt (l++r) k=bestN lt l k
 | 0,_=>rfl
 | k+1,hk=>by
  have e:gi (l++r) (k:Int)=gi l (k:Int):=by
   unfold gi
   rw [Int.toNat_natCast]
   simp [List.getElem?_append_left (show k<l.length by omega)]
  simp only [bestN]
  rw [bestN_app k (by omega),e]
theorem bestN_snoc {lt:Int→Int→Bool} {l:List Int} {x:Int}:bestN lt (l++[x]) (l++[x]).length=if (!(bestN lt l l.length).2||lt x (bestN lt l l.length).1)=true then (x,true) else bestN lt l l.length:=by
 rw [List.length_append,List.length_singleton]
 simp only [bestN]
 rw [bestN_app l.length (Nat.le_refl _),gi_app_len l [] x]
section
variable {W:Wld} {m:MW} {w:World} {bs:List Nat} {p:Option Addr}
end
end Go.Proofs.YtajdcjidpolloaaGreatDoor
namespace Go.Proofs.YtajdcjidpolloaaGreatDoor
open Go.RowKit
set_option linter.unusedVariables false
set_option linter.unusedSimpArgs false
set_option maxRecDepth 10000
theorem mCnt_len (m:Int):∀k:Nat,mCnt m k=((msL m k).length:Int)
 | 0=>rfl
 | k+1=>by
  simp only [mCnt]
  cases h:mHas m (k:Int) with
  | true=>rw [if_pos rfl,msL_step h,mCnt_len m k]; simp
  | false=>rw [if_neg (by decide),msL_skip h,mCnt_len m k]
theorem results_tmp1 {fn:Func} {t:Tmp} (h:fn.results = #[.tmp t]) {tmps:Array Value} {w:World} {P:Program}:(results fn tmps).run P w = .ok (tmps.getD t undef) w:=by
 simp [results,h]
theorem count_shape:bodyOf Tryz.f37=seqs t_impl_MaskCount_pre (.seq (.seq t_impl_MaskCount_mid (.block 0 (.rangeFunc (.tmp 5) #[6] .skip t_impl_MaskCount_body))) t_impl_MaskCount_post):=by kernel_rfl
theorem k_impl_MaskCount {m:Int} {w:World}:Calls Tryz.prog fn_impl_MaskCount #[.int .i64 m] w fun e w'=>e = .returned (.int .i64 (mCnt m 4))∧ExtX [] w w':=by
 refine calls_marks2 (args:=[.int .i64 m]) (n:=10) Tryz.func37 (body:=bodyOf Tryz.f37) rfl (by kernel_rfl) (by simp) fun a hn ha hd => ?_
 rw [count_shape]
 have a0:=ha 0 _ rfl
 refine g_impl_MaskCount_pre none (R:=fun e vs w1=>e = .normal∧∃b:Nat,vs=[.pointer (some ⟨b,0,none⟩)]∧w.heap.size≤b∧(∃t,w1.heap[b]? = some (.cells ([.int .i64 0]:List Value).toArray t (0,0)))∧ExtX [] w w1) hn ?_ ?_ ?_ (fun e vs a1 w1 hne hR _=>absurd hR.1 hne)
 ·intro p hp
  cases hp
 ·intro b wb hx hb0 hcell _
  refine ⟨wrX_blk (k0:=0) hcell (by simp) (by simp),fun wr hx2 => ?_⟩
  have e1:ExtX [b] wb (sto wb (some ⟨b,0,none⟩) 0 [.int .i64 0]):=sto_ext (bs:=[b]) (by simp)
  refine ⟨rfl,b,rfl,hb0,⟨_,blk_ext (sto_blk (vs:=[.int .i64 0]) (n:=0) hcell) hx2 (by simp)⟩,hx.fresh (e1.trans hx2.of_nil) fun x hm=>.inl ?_⟩
  have:x=b:=by simpa using hm
  omega
 rintro vs a2 w1 ⟨_,b,rfl,hwb,hB,hX⟩ fo
 have o3:a2.tmps.getD 3 undef = .pointer (some ⟨b,0,none⟩):=by
  have:=fo.out
  simpa using this
 have o0:a2.tmps.getD 0 undef = .int .i64 m:=(fo.kept 0 (by decide +kernel)).trans a0
 refine wpIn_seq (wpIn_seq (g_impl_MaskCount_mid none m (R:=fun e vs w2=>e = .normal∧∃bm:Nat,vs=[.func (.func fn_impl_cpuSet_members_1) #[] #[.pointer (some ⟨bm,0,none⟩)]]∧CellsX [] w2 (some ⟨bm,0,none⟩) 0 [.int .i64 m]∧w1.heap.size≤bm∧ExtX [] w1 w2) (by rw [fo.size,hn]) (fun p hp => ?_) (fun wr hx _ => ?_) fun e vs a3 w2 hR fo3 => ?_))
 ·simp only [List.mem_cons,List.not_mem_nil,or_false] at hp
  subst hp
  exact ⟨Nat.le_of_ble_eq_true rfl,o0⟩
 ·refine (k_members (m:=m)).mono fun e w2 ⟨bm,hbm,he,hcm,hx3⟩=>⟨_,_,_,he,kept_nil,fun wr1 hx4=>⟨rfl,bm,rfl,hcm.ext hx4,by have:=hx.size; omega,(hx.trans hx3).trans hx4⟩⟩
 obtain ⟨rfl,bm,rfl,hcm,hbm,hx2⟩:=hR
 have p5:a3.tmps.getD 5 undef = .func (.func fn_impl_cpuSet_members_1) #[] #[.pointer (some ⟨bm,0,none⟩)]:=by
  have:=fo3.out
  simpa using this
 have p3:=(fo3.kept 3 (by decide +kernel)).trans o3
 have hsz3:a3.tmps.size=10:=by rw [fo3.size,fo.size,hn]
 have hd3:a3.defers=[]:=by rw [fo3.defers,fo.defers,hd]
 have hX2:=hX.trans hx2
 obtain ⟨t0,hB⟩:=hB
 have hB2:=blk_ext hB hx2 (by simp)
 have hbL:=blk_lt hB
 have hbL2:=blk_lt hB2
 have hbmL:=cell_in hcm
 have hlen:(msL m 4).length≤4:=by
  have:=(mCnt_range m 4).2
  rw [mCnt_len] at this
  omega
 refine wpIn_block (rangeY (gf:=fn_impl_cpuSet_members_1) (lb:=#[.pointer (some ⟨bm,0,none⟩)]) p5 (enters_of Tryz.func182 (by kernel_rfl) rfl)
  (fun k W1=>(∃t,W1.heap[b]? = some (.cells ([.int .i64 (k:Int)]:List Value).toArray t (0,0)))∧CellsX [] W1 (some ⟨bm,0,none⟩) 0 [.int .i64 m]∧ExtX [] w W1)
  (fun _ _=>False) (msL m 4).length (fun k=>[.int .i64 (gi (msL m 4) (k:Int))])
  (fun k W1 W2 ys h hx hy=>⟨h.1.imp fun _ h=>blk_ext h hx fun hm=>by have:=hy _ hm; omega,cell_keep h.2.1 hx fun hm=>by have:=hy _ hm; omega,h.2.2.fresh hx fun x hm=>.inl (by have:=hy x hm; have:=hX2.size; omega)⟩)
  (fun cd W1 W2 ys h hx hy=>h)
  ⟨⟨t0,hB2⟩,hcm,hX2⟩ (fun k=>rfl) (it_members (m:=m) (bm:=bm) (w:=w2) (I:=fun k W1=>(∃t,W1.heap[b]? = some (.cells ([.int .i64 (k:Int)]:List Value).toArray t (0,0)))∧CellsX [] W1 (some ⟨bm,0,none⟩) 0 [.int .i64 m]∧ExtX [] w W1) (fun k W1 h=>h.2.1)) ?_ ?_ (fun D c W _ h _=>h.elim))
 ·rintro l k W hk ⟨⟨t1,hb⟩,hc,hXW⟩ hl
  rw [fold_one]
  refine wpIn_skip ⟨⟨[],ExtX.refl _ _,by simp⟩,fun W2 hx5 => ?_⟩
  have hbn:b∉[l]:=fun hm=>by
   have:b=l:=by simpa using hm
   omega
  have hb5:=blk_ext hb hx5 hbn
  have hX5:ExtX [] w W2:=hXW.fresh hx5 fun x hm=>.inl (by
   have:x=l:=by simpa using hm
   have:=hX2.size
   omega)
  have hc5:=cell_keep hc hx5 fun hm=>by
   have:bm=l:=by simpa using hm
   omega
  have q3:(a3.tmps.setIfInBounds 6 (.int .i64 (gi (msL m 4) (k:Int)))).getD 3 undef = .pointer (some ⟨b,0,none⟩):=(getD_set_other (i:=6) (j:=3) (by decide)).trans p3
  refine g_impl_MaskCount_body (some l) (some ⟨b,0,none⟩) (R:=fun e _ W3=>e = .normal∧(∃X,ExtX X W2 W3∧∀x∈X,x<w2.heap.size)∧(∃t,W3.heap[b]? = some (.cells ([.int .i64 ((k:Int)+1)]:List Value).toArray t (0,0)))∧CellsX [] W3 (some ⟨bm,0,none⟩) 0 [.int .i64 m]∧ExtX [] w W3) (by simpa using hsz3) (fun p hp => ?_) ⟨(k:Int),box_cell ⟨_,hb5⟩,⟨by omega,by omega⟩,wrX_blk (k0:=0) hb5 (by simp) (by simp),fun wr hx => ?_⟩ fun e vs a5 W3 hR _ => ?_
  ·simp only [List.mem_cons,List.not_mem_nil,or_false] at hp
   subst hp
   exact ⟨Nat.le_of_ble_eq_true rfl,q3⟩
  ·have e1:ExtX [b] W2 (sto W2 (some ⟨b,0,none⟩) 0 [.int .i64 ((k:Int)+1)]):=sto_ext (bs:=[b]) (by simp)
   have eX:ExtX [b] W2 wr:=e1.trans hx.of_nil
   refine ⟨rfl,⟨[b],eX,fun x hm => ?_⟩,⟨t1,?_⟩,cell_keep hc5 eX fun hm => ?_,hX5.fresh eX fun x hm=>.inl ?_⟩
   ·have:x=b:=by simpa using hm
    omega
   ·exact blk_ext (sto_blk (vs:=[.int .i64 ((k:Int)+1)]) (n:=0) hb5) hx (by simp)
   ·have:bm=b:=by simpa using hm
    omega
   ·have:x=b:=by simpa using hm
    omega
  ·obtain ⟨rfl,hX3,h3,h4⟩:=hR
   exact ⟨hX3,h3,h4⟩
 ·intro D W hD ⟨⟨t1,hb⟩,hc,hXW⟩ hdD
  refine g_impl_MaskCount_post none (some ⟨b,0,none⟩) (R:=fun e vs W1=>e = .ret∧vs=[.int .i64 (mCnt m 4)]∧ExtX [] W W1) hsz3 (fun p hp => ?_) ⟨_,box_cell ⟨_,hb⟩,fun wr hx=>⟨rfl,by rw [mCnt_len],hx⟩⟩ fun e vs a6 W1 hR fo6 => ?_
  ·simp only [List.mem_cons,List.not_mem_nil,or_false] at hp
   subst hp
   exact ⟨Nat.le_of_ble_eq_true rfl,p3⟩
  ·obtain ⟨rfl,rfl,hx6⟩:=hR
   have hr:∀w',(results Tryz.f37 a6.tmps).run Tryz.prog w' = .ok (.int .i64 (mCnt m 4)) w':=fun w'=>by
    rw [results_tmp1 (t:=2) (by kernel_rfl)]
    have:=fo6.out
    simp only [List.map_cons,List.map_nil,List.cons.injEq,and_true] at this
    rw [this]
   exact (leave_mark (D:=D) (by rw [fo6.defers]; simp [hd3]) ((hx6.block D (Array.getElem?_eq_some_iff.1 hdD).1 (by simp)).trans hdD) hr fun w' hx=>⟨rfl,(hXW.trans hx6).fresh hx fun x hm=>.inl (by
    have:x=D:=by simpa using hm
    have:=hX2.size
    omega)⟩).2
theorem pla_best (W:Wld) (m:Int):∀k:Nat,bestN (ltPl W) (msL m k) (msL m k).length=if plaN W m k<0 then (0,false) else (plaN W m k,true)
 | 0=>rfl
 | k+1=>by
  have ih:=pla_best W m k
  have hr:=plaN_range W m k
  cases hh:mHas m (k:Int) with
  | false=>rw [msL_skip hh,ih,plaN_no (by rw [hh]; rfl)]
  | true =>
   rw [msL_step hh,bestN_snoc,ih]
   by_cases hn:plaN W m k<0
   ·rw [if_pos hn,plaN_yes (by rw [hh,decide_eq_true hn]; rfl),if_neg (by omega:¬(k:Int)<0),if_pos (by rfl)]
   ·rw [if_neg hn]
    cases hl:ltPl W (k:Int) (plaN W m k) with
    | true=>rw [plaN_yes (by rw [hh,hl]; simp),if_neg (by omega:¬(k:Int)<0),if_pos (by rfl)]
    | false=>rw [plaN_no (by rw [hh,hl,decide_eq_false hn]; rfl),if_neg hn,if_neg (by simp)]
theorem pla_high {W:Wld} {m:Int} (h4:W.cpus.length≤4) (hs:∀c:Int,mHas m c=true→c<(W.cpus.length:Int)):plaN W m 4=plaD W m:=by
 have key:∀j:Nat,W.cpus.length+j≤4→plaN W m (W.cpus.length+j)=plaN W m W.cpus.length:=by
  intro j
  induction j with
  | zero=>intro _; rfl
  | succ j ih =>
   intro hj
   rw [show W.cpus.length+(j+1)=(W.cpus.length+j)+1 from rfl,plaN_no ?_,ih (by omega)]
   have:mHas m ((W.cpus.length+j:Nat):Int)=false:=by
    cases h:mHas m ((W.cpus.length+j:Nat):Int) with
    | false=>rfl
    | true=>have:=hs _ h; omega
   rw [this]; rfl
 have:=key (4 - W.cpus.length) (by omega)
 rwa [show W.cpus.length+(4 - W.cpus.length)=4 by omega] at this
section
variable {W:Wld} {m:MW} {w:World} {bs:List Nat} {p:Option Addr}
theorem k_impl_crowd {c:Int} (h:WPt bs w p W m) (htl:W.tasks.length=12) (hl:LdW W):PureX bs Tryz.prog fn_impl_World_crowd #[.pointer p,.int .i64 c] w (.tuple #[.int .i64 (ldsS W c),.int .i64 (rdyS W c)]) :=
 p_impl_World_crowd p c fun wr hx=>by
  have h:=(h.ext hx).less (cs:=[]) (by simp)
  refine ⟨h.some,_,_,_,h.tasks,?_⟩
  refine ⟨fun vs=>∃k:Nat,k≤12∧vs=[.int .i64 (sumF (ldsF W c) k),.int .i64 (sumF (rdyF W c) k),.int .i64 (k:Int)],cntM 12 2,⟨0,Nat.zero_le _,rfl⟩,?_⟩
  rintro ld ct x ⟨k,hk,he⟩
  simp only [List.cons.injEq,Value.int.injEq,true_and,and_true] at he
  obtain ⟨rfl,rfl,rfl⟩:=he
  refine ⟨fun hlt => ?_,fun hge => ?_⟩
  ·have hlt:=of_decide_eq_true hlt
   have hr:=rdyS_range (W:=W) c k
   have hr2:=ldsS_range hl c k (by omega)
   have hl1:=hl (k:Int) (by omega) (by omega)
   refine ⟨h.rd.t.ix encT_c (by omega) hlt,_,_,_,_,_,_,_,_,_,h.rd.t (k:Int) (by omega) hlt,fun b hb=>⟨fun g => ?_,fun g => ?_⟩⟩
   ·have g:onC W c k=true:=g
    refine ⟨⟨by show _≤sumF (ldsF W c) k+(tkk W (k:Int)).load; omega,by show sumF (ldsF W c) k+(tkk W (k:Int)).load≤_; omega⟩,⟨by omega,by omega⟩,⟨by omega,by omega⟩,⟨k+1,by omega,?_⟩,?_⟩
    ·simp only [sumF,ldsF,rdyF]; rw [if_pos g,if_pos g]; rfl
    ·simp only [cntM,ctrAt,List.getElem?_cons_zero,List.getElem?_cons_succ]; omega
   ·have g:onC W c k=false:=g
    refine ⟨⟨by omega,by omega⟩,⟨k+1,by omega,?_⟩,?_⟩
    ·simp only [sumF]
     rw [show ldsF W c k=0 from if_neg (by rw [g]; decide),show rdyF W c k=0 from if_neg (by rw [g]; decide),Int.add_zero,Int.add_zero]; rfl
    ·simp only [cntM,ctrAt,List.getElem?_cons_zero,List.getElem?_cons_succ]; omega
  ·have hge:=of_decide_eq_false hge
   have:k=12:=by omega
   subst this
   unfold ldsS rdyS
   rw [htl]
theorem k_bestCpu_1 {b:Nat} {x y:Int} (h:WPt bs w p W m) (htl:W.tasks.length=12) (hl:LdW W) (hb:CellsX bs w (some ⟨b,0,none⟩) 0 [.pointer p]):PureX bs Tryz.prog fn_impl_World_bestCpu_1 #[.int .i64 x,.int .i64 y,.pointer (some ⟨b,0,none⟩)] w (.bool (ltPl W x y)) :=
 p_impl_World_bestCpu_1 x y (some ⟨b,0,none⟩) fun wr hx=>by
  have h:=(h.ext hx).less (cs:=[]) (by simp)
  have hb:=(hb.ext hx).less (cs:=[]) (by simp)
  exact ⟨p,hb,_,_,k_impl_crowd h htl hl,p,hb,_,_,k_impl_crowd h htl hl,rfl⟩
theorem k_impl_bestCpu {x:Int} (h:WPt [] w p W m) (ha:WA W) (hl:LdW W) (hs:∀c:Int,mHas x c=true→0≤c∧c<(W.cpus.length:Int)) (hm:mOk x=true) (h0:x≠0) :
  Calls Tryz.prog fn_impl_World_bestCpu #[.pointer p,.int .i64 x] w fun e w'=>e = .returned (.int .i64 (plaD W x))∧ExtX [] w w':=by
 refine (e_impl_World_bestCpu p x (R:=fun v w'=>v = .int .i64 (plaD W x)∧ExtX [] w w') ?_).mono fun e w' ⟨v,he,hv,h3⟩=>⟨by rw [he,hv],h3⟩
 have hup:=pla_up ha hm h0 hs
 intro b wb hx hb hcell _ wr hx1 _
 refine (k_members (m:=x)).mono fun e w2 ⟨bm,hbm,he,hcm,hx2⟩=>⟨_,_,_,he,kept_nil,fun wr1 hx3 _ => ?_⟩
 have hX:=((hx.trans hx1).trans hx2).trans hx3
 have hcell3:CellsX [] wr1 (some ⟨b,0,none⟩) 0 [.pointer p]:=(((box_cell ⟨_,hcell⟩).ext hx1).ext hx2).ext hx3
 have hp3:=h.ext hX
 refine (k_best (gf:=fn_impl_cpuSet_members_1) (lb:=#[.pointer (some ⟨bm,0,none⟩)]) (bF:=.func fn_impl_World_bestCpu_1) (bA:=#[]) (bK:=#[.pointer (some ⟨b,0,none⟩)]) (xs:=msL x 4) (lt:=ltPl W) (w:=wr1)
  (enters_of Tryz.func182 (by kernel_rfl) rfl)
  (fun I W1 hx4 hI=>it_members (m:=x) (bm:=bm) (I:=I) (w:=W1) fun k W2 hI2=>(hcm.ext hx3).ext (hI k W2 hI2))
  (fun i j hi hj W1 hx4=>.inl ⟨fn_impl_World_bestCpu_1,_,rfl,(k_bestCpu_1 (hp3.ext hx4) ha.t hl (hcell3.ext hx4)) W1 (ExtX.refl _ _)⟩)).mono fun e1 w3 ⟨he1,hx4⟩=>⟨_,_,he1,kept_nil,fun wr2 hx5=>⟨?_,(hX.trans hx4).trans hx5⟩⟩
 rw [pla_best,pla_high ha.c2 fun c hc=>(hs c hc).2,if_neg (by omega)]
end
end Go.Proofs.YtajdcjidpolloaaGreatDoor
namespace Go.Proofs.YtajdcjidpolloaaGreatDoor
open Go.RowKit
set_option linter.unusedVariables false
set_option linter.unusedSimpArgs false
set_option maxRecDepth 10000
noncomputable def wakeB (W:Wld) (t:Int):Int:=if thereD W t=false then 2 else if (tkk W t).state≠2 then 6 else if roomB W=false then 10 else 0
def wakeC (W:Wld) (t:Int):Int:=if rdyS W (tkk W t).cpu>0 then plaD W (whereD W (tkk W t).group (tkk W t).mask) else (tkk W t).cpu
def wakeT (W:Wld) (t c:Int):Tsk:={ putT W t (tkk W t).group c with state:=1 }
def wakeW (W:Wld) (t:Int):Wld:=settleD (endW (setTk W t (wakeT W t (wakeC W t))) (wakeC W t))
theorem setTk_len (W:Wld) (t:Int) (x:Tsk):(setTk W t x).tasks.length=W.tasks.length:=by simp [setTk]
theorem put_blk {W:Wld} {t:Int} (h:(tkk W t).state=2) (c:Int):putW W t (tkk W t).group c=setTk W t (putT W t (tkk W t).group c):=by
 unfold putW
 rw [if_neg (by rw [h]; decide)]
theorem wake_sf {W:Wld} {t c:Int} (sf:SF halfT (halfT+lagB) W) (t0:0≤t) (t1:t<(W.tasks.length:Int)) (n:(tkk W t).state≠0) (c0:0≤c) (c1:c<(W.cpus.length:Int)):SF halfT (halfT+lagB) (setTk W t (wakeT W t c)):=by
 have hl:=sf.w.a.t
 have hu:=(sf.w.t t t0 (by omega) n).1
 have hv:=putT_ok sf (Int.le_refl _) (t:=t) hu c0 c1
 exact sf.setTk t0 (by omega) (x:=wakeT W t c) (fun _=>⟨hu,c0,c1⟩) hv.1 hv.2
theorem wake_sw {W:Wld} {t:Int} (hW:worldB W=true) (hb:wakeB W t=0):thereD W t=true∧(tkk W t).state=2∧roomB W=true∧SF halfT (halfT+lagB) W∧0≤wakeC W t∧wakeC W t<(W.cpus.length:Int):=by
 have wp:=decB_t.1 hW
 unfold wakeB at hb
 split at hb
 ·cases hb
 ·rename_i h1
  split at hb
  ·cases hb
  ·rename_i h2
   split at hb
   ·cases hb
   ·rename_i h3
    have h1:thereD W t=true:=by simpa using h1
    have h2:(tkk W t).state=2:=by simpa using h2
    have h3:roomB W=true:=by simpa using h3
    have sw:=sw_of wp (decB_t.1 h3)
    obtain ⟨t0,t1,n⟩:=thereD_t h1
    have hl:=wp.a.t
    have hc:=sw.t t t0 (by omega) n
    refine ⟨h1,h2,h3,sw_sf sw,?_⟩
    unfold wakeC
    split
    ·have:=pla_where wp.a (tkk W t).group (tkk W t).mask
     exact ⟨this.1,this.2.1⟩
    ·exact hc.2
theorem sm_wake {W:Wld} {t:Int} (sm:SmW W) (hW:worldB W=true) (hb:wakeB W t=0):SmW (wakeW W t):=by
 obtain ⟨h1,_,_,sf,c0,c1⟩:=wake_sw hW hb
 obtain ⟨t0,t1,n⟩:=thereD_t h1
 exact sm_set sm ((wake_sf sf t0 t1 n c0 c1).endW c0 c1).w (by simp only [lagB]; decide) (TreeC.refl _)
section
variable {base pb:Nat} {W W':Wld} {m:MW} {w:World}
set_option maxHeartbeats 1000000 in
theorem k_spec_TaskWake {t:Int} (h:RdW [] w W m) (hl:LenW W) :
  Calls Tryz.prog fn_spec_TaskWake #[.agg (encW W m).toArray,.int .i64 t] w fun e w'=>∃v,e = .returned v∧AnsW (ansD W (wakeB W t) (wakeW W t)) w v w':=by
 refine e_spec_TaskWake W.now m.cO W.cpus.length m.cC m.tO W.tasks.length m.tC m.gO W.groups.length m.gC t (R:=fun v w'=>AnsW (ansD W (wakeB W t) (wakeW W t)) w v w') ?_
 intro y hy y1 hy1 wr hx2 hs2
 refine Calls.mono (k_spec_l10Begin (h.ext hx2) hl) ?_
 rintro e wv (⟨hW,he,hy2⟩ | ⟨hW,m',he,hM,hy2⟩)
 ·exact ⟨_,_,_,_,_,_,_,_,_,_,_,he,kept_of hy2 hs2,fun _ wr1 hx3=>AnsW.bad hW ((hx2.trans hy2).fresh hx3 fun z hm=>.inl (two_new hy hy1 z hm)),fun g=>by simp at g⟩
 have hK:=Wk.begin hy hy1 hx2 hs2 hM hy2
 have hr:=hK.rd
 have wp:=decB_t.1 hW
 refine ⟨_,_,_,_,_,_,_,_,_,_,_,he,kept_of hy2 hs2,fun g=>by split at g <;> simp at g,fun _=>⟨_,k_spec_l8Task hr hl.t,fun g wr2 hx3 => ?_,fun g => ?_⟩⟩
 ·have g:thereD W t=false:=by simpa using g
  have hb:wakeB W t=2:=by unfold wakeB; rw [if_pos g]
  exact AnsW.no hW (by rw [hb]; decide) (hK.step hx3) hb
 have g:thereD W t=true:=by simpa using g
 obtain ⟨t0,t1,tn⟩:=thereD_t g
 have htl:=wp.a.t
 have hix:=hr.t.ix encT_c t0 t1
 refine ⟨hix,_,hr.t.f t0 t1 (j:=0) rfl,fun g2 wr3 hx3 => ?_,fun g2=>⟨fun g3 wr4 hx3 => ?_,fun g3 => ?_⟩⟩
 ·have g2:(tkk W t).state≠2:=by simpa [tkk] using g2
  have hb:wakeB W t=6:=by unfold wakeB; rw [if_neg (by rw [g]; decide),if_pos g2]
  exact AnsW.no hW (by rw [hb]; decide) (hK.step hx3) hb
 ·have g2:¬(tkk W t).state≠2:=by simpa [tkk] using g2
  have hr0:¬roomB W=true:=fun hr=>by rw [if_pos hr] at g3; simp at g3
  have hb:wakeB W t=10:=by unfold wakeB; rw [if_neg (by rw [g]; decide),if_neg g2,if_pos (by simpa using hr0)]
  rw [if_neg hr0]
  exact AnsW.no hW (by rw [hb]; decide) (hK.step hx3) hb
 have g2:¬(tkk W t).state≠2:=by simpa [tkk] using g2
 have hr0:roomB W=true:=Decidable.byContradiction fun hr=>by rw [if_neg hr] at g3; simp at g3
 have hb:wakeB W t=0:=by unfold wakeB; rw [if_neg (by rw [g]; decide),if_neg g2,if_neg (by rw [hr0]; decide)]
 have hs2':(tkk W t).state=2:=by simpa using g2
 obtain ⟨_,_,_,sf,_,_⟩:=wake_sw hW hb
 obtain ⟨hu,c0,c1⟩:=sf.w.t t t0 (by omega) tn
 refine ⟨hix,_,hr.t.f t0 t1 (j:=2) rfl,_,k_spec_l10Ready hr htl,fun g4 => ?_,fun g4 => ?_⟩
 ·have g4:rdyS W (tkk W t).cpu>0:=of_decide_eq_true g4
  have hC:wakeC W t=plaD W (whereD W (tkk W t).group (tkk W t).mask):=if_pos g4
  obtain ⟨d0,d1,_⟩:=pla_where wp.a (tkk W t).group (tkk W t).mask
  refine ⟨hix,_,hr.t.f t0 t1 (j:=1) rfl,hix,_,hr.t.f t0 t1 (j:=4) rfl,_,k_spec_l8Where hr wp.a.c2 wp.a.tree hu,_,k_spec_l10Place hr wp.a (ldw_of wp),hix,_,hr.t.f t0 t1 (j:=1) rfl,fun wr5 hx5 hs5 => ?_⟩
  have hM4:=hK.step hx5
  have hcall:=k_spec_l10Put hM4.own sf (Int.le_refl _) (by simp only [lagB]; decide) (t:=t) (g:=(tkk W t).group) (c:=plaD W (whereD W (tkk W t).group (tkk W t).mask)) t0 (by omega) tn hu d0 d1
  refine Calls.mono hcall ?_
  rintro e1 wv1 ⟨he1,hy3⟩
  rw [put_blk hs2' (plaD W (whereD W (tkk W t).group (tkk W t).mask))] at hy3
  have hK5:=hM4.deed hy3 hs5
  have hset:Wk 8 [y,y1] w (sto wv1 m'.tO (Int.toNat t*9+0) [.int .i64 1]) (setTk W t (wakeT W t (plaD W (whereD W (tkk W t).group (tkk W t).mask)))) m':=by
   have:Wk 8 [y,y1] w (sto wv1 m'.tO (Int.toNat t*9+0) [.int .i64 1]) (setTk (setTk W t (putT W t (tkk W t).group (plaD W (whereD W (tkk W t).group (tkk W t).mask)))) t (wakeT W t (plaD W (whereD W (tkk W t).group (tkk W t).mask)))) m':=hK5.sto (hK5.own.stoT t0 (by rw [setTk_len]; exact t1) (j:=0) (vs:=[.int .i64 1]) (x:=wakeT W t (plaD W (whereD W (tkk W t).group (tkk W t).mask))) (by rw [show gi (setTk W t (putT W t (tkk W t).group (plaD W (whereD W (tkk W t).group (tkk W t).mask)))).tasks t=_ from tk_set t0 t1]; rfl) (by simp)) subT
   rwa [set_set] at this
  have hixT:Ix m'.tO W.tasks.length t:=by
   have:=hK5.rd.t.ix encT_c t0 (by rw [setTk_len]; exact t1)
   rwa [setTk_len] at this
  refine ⟨_,_,_,_,_,_,_,_,_,_,he1,hM4.kept hy3 hs5,hixT,wrT hK5.own hK5.nb t0 (by rw [setTk_len]; exact t1) (j:=0) (by decide),fun wr6 hx6 hs6 => ?_⟩
  have e5:encW (setTk W t (wakeT W t (plaD W (whereD W (tkk W t).group (tkk W t).mask)))) m'=encW W m':=encW_tk _ _ _ _
  have hE:wakeW W t=settleD (endW (setTk W t (wakeT W t (plaD W (whereD W (tkk W t).group (tkk W t).mask)))) (plaD W (whereD W (tkk W t).group (tkk W t).mask))):=by unfold wakeW; rw [hC]
  have sfV:=wake_sf sf t0 t1 tn d0 d1
  rw [hE]
  have hlV:(setTk W t (wakeT W t (plaD W (whereD W (tkk W t).group (tkk W t).mask)))).cpus.length=W.cpus.length:=rfl
  generalize setTk W t (wakeT W t (plaD W (whereD W (tkk W t).group (tkk W t).mask)))=V at hset e5 sfV hlV
  have hK6:=hset.step hx6
  have hcall2:=k_spec_l8End hK6.own d0 (by rw [hlV]; exact d1)
  rw [e5] at hcall2
  refine Calls.mono hcall2 ?_
  rintro e2 wv2 ⟨he2,hy4⟩
  refine ⟨_,_,_,_,_,_,_,_,_,_,he2,hK6.kept hy4 hs6,fun wr7 hx7 hs7 => ?_⟩
  have hK7:=(hK6.deed hy4 hs6).step hx7
  have hcall3:=k_spec_l8Settle hK7.own (sfV.endW d0 (by rw [hlV]; exact d1)).w (by simp only [lagB]; decide) (by simp only [lagB]; decide) hK7.base
  refine Calls.mono hcall3 ?_
  rintro e3 wv3 ⟨m2,he3,hy5⟩
  exact ⟨_,_,_,_,_,_,_,_,_,_,he3,hK7.kept hy5 hs7,fun wr8 hx8=>AnsW.ok hW hb ((hK7.deed hy5 hs7).step hx8)⟩
 ·have g4:¬rdyS W (tkk W t).cpu>0:=of_decide_eq_false g4
  have hC:wakeC W t=(tkk W t).cpu:=if_neg g4
  have d0:=c0
  have d1:=c1
  refine ⟨hix,_,hr.t.f t0 t1 (j:=1) rfl,fun wr5 hx5 hs5 => ?_⟩
  have hM4:=hK.step hx5
  have hcall:=k_spec_l10Put hM4.own sf (Int.le_refl _) (by simp only [lagB]; decide) (t:=t) (g:=(tkk W t).group) (c:=(tkk W t).cpu) t0 (by omega) tn hu d0 d1
  refine Calls.mono hcall ?_
  rintro e1 wv1 ⟨he1,hy3⟩
  rw [put_blk hs2' ((tkk W t).cpu)] at hy3
  have hK5:=hM4.deed hy3 hs5
  have hset:Wk 8 [y,y1] w (sto wv1 m'.tO (Int.toNat t*9+0) [.int .i64 1]) (setTk W t (wakeT W t ((tkk W t).cpu))) m':=by
   have:Wk 8 [y,y1] w (sto wv1 m'.tO (Int.toNat t*9+0) [.int .i64 1]) (setTk (setTk W t (putT W t (tkk W t).group ((tkk W t).cpu))) t (wakeT W t ((tkk W t).cpu))) m':=hK5.sto (hK5.own.stoT t0 (by rw [setTk_len]; exact t1) (j:=0) (vs:=[.int .i64 1]) (x:=wakeT W t ((tkk W t).cpu)) (by rw [show gi (setTk W t (putT W t (tkk W t).group ((tkk W t).cpu))).tasks t=_ from tk_set t0 t1]; rfl) (by simp)) subT
   rwa [set_set] at this
  have hixT:Ix m'.tO W.tasks.length t:=by
   have:=hK5.rd.t.ix encT_c t0 (by rw [setTk_len]; exact t1)
   rwa [setTk_len] at this
  refine ⟨_,_,_,_,_,_,_,_,_,_,he1,hM4.kept hy3 hs5,hixT,wrT hK5.own hK5.nb t0 (by rw [setTk_len]; exact t1) (j:=0) (by decide),fun wr6 hx6 hs6 => ?_⟩
  have e5:encW (setTk W t (wakeT W t ((tkk W t).cpu))) m'=encW W m':=encW_tk _ _ _ _
  have hE:wakeW W t=settleD (endW (setTk W t (wakeT W t ((tkk W t).cpu))) ((tkk W t).cpu)):=by unfold wakeW; rw [hC]
  have sfV:=wake_sf sf t0 t1 tn d0 d1
  rw [hE]
  have hlV:(setTk W t (wakeT W t ((tkk W t).cpu))).cpus.length=W.cpus.length:=rfl
  generalize setTk W t (wakeT W t ((tkk W t).cpu))=V at hset e5 sfV hlV
  have hK6:=hset.step hx6
  have hcall2:=k_spec_l8End hK6.own d0 (by rw [hlV]; exact d1)
  rw [e5] at hcall2
  refine Calls.mono hcall2 ?_
  rintro e2 wv2 ⟨he2,hy4⟩
  refine ⟨_,_,_,_,_,_,_,_,_,_,he2,hK6.kept hy4 hs6,fun wr7 hx7 hs7 => ?_⟩
  have hK7:=(hK6.deed hy4 hs6).step hx7
  have hcall3:=k_spec_l8Settle hK7.own (sfV.endW d0 (by rw [hlV]; exact d1)).w (by simp only [lagB]; decide) (by simp only [lagB]; decide) hK7.base
  refine Calls.mono hcall3 ?_
  rintro e3 wv3 ⟨m2,he3,hy5⟩
  exact ⟨_,_,_,_,_,_,_,_,_,_,he3,hK7.kept hy5 hs7,fun wr8 hx8=>AnsW.ok hW hb ((hK7.deed hy5 hs7).step hx8)⟩
set_option maxHeartbeats 1000000 in
theorem k_TaskWake_1 {cap:Option Addr} {t:Int} (h:PW base pb w W m) (hW:worldB W=true) (hc:CellsX [] w cap 0 [.int .i64 t]) :
  Calls Tryz.prog fn_impl_TaskWake_1 #[.pointer (pA pb),.pointer cap] w fun e w2=>(wakeB W t≠0∧e = .returned (.iface ty_impl_refusal (.agg #[.int .i64 (wakeB W t)]))∧ExtX [] w w2)∨(wakeB W t=0∧e = .returned .nilIface∧∃m2,Done base pb [] w m w2 (wakeW W t) m2):=by
 have wp:=decB_t.1 hW
 have hM:=Mp.start h
 have hp:=hM.wpt
 refine (e_impl_TaskWake_1 (pA pb) cap (R:=fun v w2=>(wakeB W t≠0∧v = .iface ty_impl_refusal (.agg #[.int .i64 (wakeB W t)])∧ExtX [] w w2)∨(wakeB W t=0∧v = .nilIface∧∃m2,Done base pb [] w m w2 (wakeW W t) m2)) ?_).mono fun e w' ⟨v,he,h3⟩=>by
  rw [he]
  rcases h3 with ⟨a,b,c⟩ | ⟨a,b,c⟩
  ·exact .inl ⟨a,by rw [b],c⟩
  ·exact .inr ⟨a,by rw [b],c⟩
 refine ⟨t,hc,_,k_impl_taskThere hp (by have:=wp.a.t; have:=maxLen_big; omega),fun g wr hx=>.inl ?_,fun g => ?_⟩
 ·have g:thereD W t=false:=by unfold thereD; simpa only [Bool.not_eq_true'] using g
  have hb:wakeB W t=2:=by unfold wakeB; rw [if_pos g]
  rw [hb]
  exact ⟨by decide,rfl,hx⟩
 have g:thereD W t=true:=by unfold thereD; simpa only [Bool.not_eq_false'] using g
 obtain ⟨t0,t1,tn⟩:=thereD_t g
 have htl:=wp.a.t
 refine ⟨hp.some,_,_,_,hp.tasks,t,hc,hp.rd.t.ix encT_c t0 t1,_,hp.rd.t.f t0 t1 (j:=0) rfl,fun g2 wr hx=>.inl ?_,fun g2=>⟨_,k_impl_roomW hp wp.a,fun g3 wr hx=>.inl ?_,fun g3 => ?_⟩⟩
 ·have g2:(tkk W t).state≠2:=by simpa [tkk] using g2
  have hb:wakeB W t=6:=by unfold wakeB; rw [if_neg (by rw [g]; decide),if_pos g2]
  rw [hb]
  exact ⟨by decide,rfl,hx⟩
 ·have g2:¬(tkk W t).state≠2:=by simpa [tkk] using g2
  have g3:roomB W=false:=by simpa using g3
  have hb:wakeB W t=10:=by unfold wakeB; rw [if_neg (by rw [g]; decide),if_neg g2,if_pos g3]
  rw [hb]
  exact ⟨by decide,rfl,hx⟩
 have g2:¬(tkk W t).state≠2:=by simpa [tkk] using g2
 have g3:roomB W=true:=by simpa using g3
 have hb:wakeB W t=0:=by unfold wakeB; rw [if_neg (by rw [g]; decide),if_neg g2,if_neg (by rw [g3]; decide)]
 have hs2':(tkk W t).state=2:=by simpa using g2
 obtain ⟨_,_,_,sf,_,_⟩:=wake_sw hW hb
 obtain ⟨hu,c0,c1⟩:=sf.w.t t t0 (by omega) tn
 refine ⟨_,hp.rd.t.f t0 t1 (j:=2) rfl,_,_,k_impl_crowd hp htl (ldw_of wp),fun g4 => ?_,fun g4 => ?_⟩
 ·have g4:rdyS W (tkk W t).cpu>0:=of_decide_eq_true g4
  have hC:wakeC W t=plaD W (whereD W (tkk W t).group (tkk W t).mask):=if_pos g4
  obtain ⟨d0,d1,_⟩:=pla_where wp.a (tkk W t).group (tkk W t).mask
  have hwo:=where_ok wp.a (tkk W t).group (tkk W t).mask
  refine ⟨t,hc,_,k_impl_allowed hp wp.a.c2 wp.a.tree t0 t1 hu,fun wr3 hx3 _ => ?_⟩
  have hM1:=hM.nil hx3
  refine Calls.mono (k_impl_bestCpu hM1.wpt wp.a (ldw_of wp) (fun c hcx=>cpu_of wp.a hcx) hwo.1 hwo.2) ?_
  rintro e wv ⟨he,hy⟩
  have hM1':=hM1.nil hy
  refine ⟨_,he,kept_nil,t,(hc.ext hx3).ext hy,_,hM1'.wpt.rd.t.f t0 t1 (j:=1) rfl,fun wr4 hx4 _ => ?_⟩
  have hM2:=hM1'.nil hx4
  refine Calls.mono (k_impl_put hM2.pw sf (Int.le_refl _) (by simp only [lagB]; decide) (t:=t) (g:=(tkk W t).group) (c:=plaD W (whereD W (tkk W t).group (tkk W t).mask)) t0 (by omega) tn hu d0 d1) ?_
  rintro e1 wv1 ⟨he1,hy1⟩
  rw [put_blk hs2' (plaD W (whereD W (tkk W t).group (tkk W t).mask))] at hy1
  have hM3:=hM2.call hy1 (by simp)
  have hset:Mp base pb [] w m (sto wv1 m.tO (Int.toNat t*9+0) [.int .i64 1]) (setTk W t (wakeT W t (plaD W (whereD W (tkk W t).group (tkk W t).mask)))) m:=by
   have:Mp base pb [] w m (sto wv1 m.tO (Int.toNat t*9+0) [.int .i64 1]) (setTk (setTk W t (putT W t (tkk W t).group (plaD W (whereD W (tkk W t).group (tkk W t).mask)))) t (wakeT W t (plaD W (whereD W (tkk W t).group (tkk W t).mask)))) m:=hM3.deed (hM3.own.stoT t0 (by rw [setTk_len]; exact t1) (j:=0) (vs:=[.int .i64 1]) (x:=wakeT W t (plaD W (whereD W (tkk W t).group (tkk W t).mask))) (by rw [show gi (setTk W t (putT W t (tkk W t).group (plaD W (whereD W (tkk W t).group (tkk W t).mask)))).tasks t=_ from tk_set t0 t1]; rfl) (by simp)) subT (encW_tk _ _ _ _)
   rwa [set_set] at this
  refine ⟨he1,kept_nil,wrT hM3.own hM3.nb t0 (by rw [setTk_len]; exact t1) (j:=0) (by decide),_,_,k_impl_lane,fun wr5 hx5 _ => ?_⟩
  have hE:wakeW W t=settleD (endW (setTk W t (wakeT W t (plaD W (whereD W (tkk W t).group (tkk W t).mask)))) (plaD W (whereD W (tkk W t).group (tkk W t).mask))):=by unfold wakeW; rw [hC]
  have sfV:=wake_sf sf t0 t1 tn d0 d1
  rw [hE]
  have hlV:(setTk W t (wakeT W t (plaD W (whereD W (tkk W t).group (tkk W t).mask)))).cpus.length=W.cpus.length:=rfl
  generalize setTk W t (wakeT W t (plaD W (whereD W (tkk W t).group (tkk W t).mask)))=V at hset sfV hlV
  have hM5:=hset.nil hx5
  refine Calls.mono (k_impl_endSliceW hM5.pw d0 (by rw [hlV]; exact d1)) ?_
  rintro e2 wv2 ⟨he2,hy2⟩
  refine ⟨he2,kept_nil,fun wr6 hx6 _ => ?_⟩
  have hM6:=(hM5.call hy2 (by simp)).nil hx6
  refine Calls.mono (k_impl_settle hM6.pw (sfV.endW d0 (by rw [hlV]; exact d1)).w (by simp only [lagB]; decide) (by simp only [lagB]; decide)) ?_
  rintro e3 wv3 ⟨he3,hy3⟩
  exact ⟨he3,kept_nil,fun wr7 hx7=>.inr ⟨hb,rfl,m,((hM6.call hy3 (by simp)).nil hx7).done⟩⟩
 ·have g4:¬rdyS W (tkk W t).cpu>0:=of_decide_eq_false g4
  have hC:wakeC W t=(tkk W t).cpu:=if_neg g4
  have d0:=c0
  have d1:=c1
  refine ⟨t,hc,_,hp.rd.t.f t0 t1 (j:=1) rfl,fun wr4 hx4 _ => ?_⟩
  have hM2:=hM.nil hx4
  refine Calls.mono (k_impl_put hM2.pw sf (Int.le_refl _) (by simp only [lagB]; decide) (t:=t) (g:=(tkk W t).group) (c:=(tkk W t).cpu) t0 (by omega) tn hu d0 d1) ?_
  rintro e1 wv1 ⟨he1,hy1⟩
  rw [put_blk hs2' ((tkk W t).cpu)] at hy1
  have hM3:=hM2.call hy1 (by simp)
  have hset:Mp base pb [] w m (sto wv1 m.tO (Int.toNat t*9+0) [.int .i64 1]) (setTk W t (wakeT W t ((tkk W t).cpu))) m:=by
   have:Mp base pb [] w m (sto wv1 m.tO (Int.toNat t*9+0) [.int .i64 1]) (setTk (setTk W t (putT W t (tkk W t).group ((tkk W t).cpu))) t (wakeT W t ((tkk W t).cpu))) m:=hM3.deed (hM3.own.stoT t0 (by rw [setTk_len]; exact t1) (j:=0) (vs:=[.int .i64 1]) (x:=wakeT W t ((tkk W t).cpu)) (by rw [show gi (setTk W t (putT W t (tkk W t).group ((tkk W t).cpu))).tasks t=_ from tk_set t0 t1]; rfl) (by simp)) subT (encW_tk _ _ _ _)
   rwa [set_set] at this
  refine ⟨he1,kept_nil,wrT hM3.own hM3.nb t0 (by rw [setTk_len]; exact t1) (j:=0) (by decide),_,_,k_impl_lane,fun wr5 hx5 _ => ?_⟩
  have hE:wakeW W t=settleD (endW (setTk W t (wakeT W t ((tkk W t).cpu))) ((tkk W t).cpu)):=by unfold wakeW; rw [hC]
  have sfV:=wake_sf sf t0 t1 tn d0 d1
  rw [hE]
  have hlV:(setTk W t (wakeT W t ((tkk W t).cpu))).cpus.length=W.cpus.length:=rfl
  generalize setTk W t (wakeT W t ((tkk W t).cpu))=V at hset sfV hlV
  have hM5:=hset.nil hx5
  refine Calls.mono (k_impl_endSliceW hM5.pw d0 (by rw [hlV]; exact d1)) ?_
  rintro e2 wv2 ⟨he2,hy2⟩
  refine ⟨he2,kept_nil,fun wr6 hx6 _ => ?_⟩
  have hM6:=(hM5.call hy2 (by simp)).nil hx6
  refine Calls.mono (k_impl_settle hM6.pw (sfV.endW d0 (by rw [hlV]; exact d1)).w (by simp only [lagB]; decide) (by simp only [lagB]; decide)) ?_
  rintro e3 wv3 ⟨he3,hy3⟩
  exact ⟨he3,kept_nil,fun wr7 hx7=>.inr ⟨hb,rfl,m,((hM6.call hy3 (by simp)).nil hx7).done⟩⟩
theorem k_impl_TaskWake {t:Int} (h:RdW [] w W m) (hl:LenW W) (hg:GlobE w) :
  Calls Tryz.prog fn_impl_TaskWake #[.agg (encW W m).toArray,.int .i64 t] w fun e w'=>∃v,e = .returned v∧AnsW (ansD W (wakeB W t) (wakeW W t)) w v w':=by
 refine e_impl_TaskWake W.now m.cO W.cpus.length m.cC m.tO W.tasks.length m.tC m.gO W.groups.length m.gC t (R:=fun v w'=>AnsW (ansD W (wakeB W t) (wakeW W t)) w v w') ?_
 intro x hx b1 wb hx1 hb1 hc hn b2 hb2 wr hx2 hs
 have hX:ExtX [] w wr:=hx1.fresh hx2 fun y hy=>.inl (le_mem1 hy hx)
 have hc2:=blk_ext hc hx2 hn
 refine Calls.mono (k_attempt (bar:=wakeB W t) (W':=wakeW W t) (h.ext hX) hl (hg.ext hX) fun w1 pb m1 hW hx3 hpb hP=>.inl ⟨fn_impl_TaskWake_1,_,rfl,k_TaskWake_1 hP hW (cellX_blk (blk_ext hc2 hx3 (by simp)) (by simp) (k0:=0) rfl)⟩) ?_
 rintro e wv ⟨v,he,n,m',hv,hM,hy⟩
 subst hv
 refine ⟨_,_,_,_,_,_,_,_,_,_,_,he,kept_of hy hs,fun wr1 hx4=>⟨n,m',rfl,(hM.ext hx4 fun y hy hm => ?_).mono hX.size,(hX.trans hy).fresh hx4 fun y hm => ?_⟩⟩
 ·have:=(hM.lt y hy).1
  have:=hs y hm
  omega
 ·simp only [List.mem_cons,List.not_mem_nil,or_false] at hm
  rcases hm with rfl | rfl
  ·exact .inl hx
  ·exact .inl (Nat.le_trans hx1.size hb2)
end
end Go.Proofs.YtajdcjidpolloaaGreatDoor
namespace Go.Proofs.YtajdcjidpolloaaGreatDoor
open Go.RowKit
set_option linter.unusedVariables false
set_option linter.unusedSimpArgs false
set_option maxRecDepth 10000
set_option maxHeartbeats 1000000 in
theorem k_FnExactTaskWake {D:Wld} {M:MW} {t:Int} {w:World} (ft:FitW w D M) (_:InR .i64 t) (hg:GlobE w) :
  Calls Tryz.prog fn_laws_FnExactTaskWake #[.agg (encW D M).toArray,.int .i64 t] w fun e w'=>e = .returned (.bool true)∧ExtX [] w w':=by
 refine (e_laws_FnExactTaskWake D.now M.cO D.cpus.length M.cC M.tO D.tasks.length M.tC M.gO D.groups.length M.gC t (R:=fun v w'=>v = .bool true∧ExtX [] w w') ?_).mono fun e w' ⟨v,he,hv,h3⟩=>⟨by rw [he,hv],h3⟩
 have hl:LenW D:=⟨ft.lc,ft.lt,ft.lg,ft.ft⟩
 have hrd:=ft.rd
 intro b hb
 refine ⟨_,k_szWorld ft (by decide) (by decide),fun _ w1 hx1=>⟨rfl,hx1⟩,fun hs => ?_⟩
 have hs:=of_decide_eq_false hs
 have sm:=(szWd_nn (W:=D) (left:=1048576) (by decide) (by omega)).1
 have smr:SmW (ansD D (wakeB D t) (wakeW D t)).1:=ans_sm sm fun hW hb=>sm_wake sm hW hb
 have hmD:=mK_pos sm
 generalize hr:ansD D (wakeB D t) (wakeW D t)=r at smr
 have hmR:=mK_pos smr
 intro wr1 hx1 hs1
 have s1:Sc w [b] wr1:=((Sc.start w).add hb).call0 hx1
 refine Calls.mono (k_toW hrd s1 hs1 sm) ?_
 rintro e wv ⟨mA,he,hA,hy⟩
 refine ⟨_,_,_,_,_,_,_,_,_,_,he,kept_of hy hs1,fun wr2 hx2 hs2 => ?_⟩
 have s2:=(s1.call0 hy).step hx2
 have hA2:=hA.step hx2
 refine Calls.mono (k_spec_TaskWake (t:=t) hA2.rd0 hl) ?_
 rintro e1 wv1 ⟨v,he1,nW,mW,hv,hW0,hy1⟩
 subst hv
 rw [hr] at he1 hW0
 have s3:=s2.call0 hy1
 have hW1:=(OW.of hW0 hs2).mono s2.ext.size
 refine ⟨_,_,_,_,_,_,_,_,_,_,_,he1,kept_of hy1 hs2,fun b1 hb1 wr3 hx3 hs3 => ?_⟩
 have s4:=s3.put hx3 hb1
 have hW2:=hW1.put hx3 hb1
 refine Calls.mono (k_toW hrd s4 hs3 sm) ?_
 rintro e2 wv2 ⟨mX,he2,hX0,hy2⟩
 have n0:=sepW hW2.own hX0.own (Nat.le_refl _)
 have s5:=s4.call0 hy2
 have hW3:=hW2.call0 hy2
 have hX1:=hX0.mono s4.ext.size
 refine ⟨_,_,_,_,_,_,_,_,_,_,he2,kept_of hy2 hs3,fun b2 hb2 wr4 hx4 hs4 => ?_⟩
 have s6:=s5.put hx4 hb2
 have hW4:=hW3.put hx4 hb2
 have hX2:=hX1.put hx4 hb2
 refine Calls.mono (k_impl_TaskWake (t:=t) hX2.rd0 hl (hg.ext s6.ext)) ?_
 rintro e3 wv3 ⟨v,he3,nG,mG,hv,hG0,hy3⟩
 subst hv
 rw [hr] at he3 hG0
 have n1:=sepW hX2.own hG0 (Nat.le_refl _)
 have n2:=sepW hW4.own hG0 (Nat.le_refl _)
 have s7:=s6.call0 hy3
 have hW5:=hW4.call0 hy3
 have hX3:=hX2.call0 hy3
 have hG1:=(OW.of hG0 hs4).mono s6.ext.size
 refine ⟨_,_,_,_,_,_,_,_,_,_,_,he3,kept_of hy3 hs4,fun b3 hb3=>⟨true,eqWW hG1.rd hW5.rd smr,fun hbad=>(by simp at hbad),fun _ wr6 hx6 hs6 => ?_⟩⟩
 have s8:=s7.put hx6 hb3
 have hW6:=hW5.put hx6 hb3
 have hX4:=hX3.put hx6 hb3
 have hG2:=hG1.put hx6 hb3
 refine Calls.mono (k_toW hrd s8 hs6 sm) ?_
 rintro e4 wv4 ⟨mY,he4,hY,hy4⟩
 refine ⟨_,_,_,_,_,_,_,_,_,_,he4,kept_of hy4 hs6,rfl,true,eqWW (hX4.call0 hy4).rd hY.rd sm,fun hbad=>(by simp at hbad),fun _ wr8 hx8 hs8 => ?_⟩
 have s9:=(s8.call0 hy4).step hx8
 have hW7:=(hW6.call0 hy4).step hx8
 have hX5:=(hX4.call0 hy4).step hx8
 have hG3:=(hG2.call0 hy4).step hx8
 refine Calls.mono (k_markWorld hX5.own sm) ?_
 rintro e5 wv5 ⟨he5,_,hy5⟩
 have s10:=s9.call hy5 fun x hx=>(hX5.own.lt x hx).1
 have hW8:=hW7.call hy5 n0.1
 have hG4:=hG3.call hy5 n1.2
 refine ⟨_,he5,kept_sep hy5 hs8 hX5.nb,true,fun _=>eqWW hG4.rd hW8.rd smr,fun hbad => ?_,fun _ wr10 hx10 hs10 => ?_⟩
 ·rw [decide_eq_false (by omega)] at hbad
  simp at hbad
 have s11:=s10.step hx10
 have hW9:=hW8.step hx10
 have hG5:=hG4.step hx10
 refine Calls.mono (k_markWorld hG5.own smr) ?_
 rintro e6 wv6 ⟨he6,hGm,hy6⟩
 have s12:=s11.call hy6 fun x hx=>(hG5.own.lt x hx).1
 have hW10:=hW9.call hy6 n2.1
 have hH:OW nG w.heap.size _ wv6 (markW r.1) mG:=⟨hGm,hG5.nb⟩
 refine ⟨_,he6,kept_sep hy6 hs10 hG5.nb,_,k_heldWorld hH.rd smr,fun hbad => ?_,fun _=>⟨fun hbad=>(by simp at hbad),fun _ wr13 hx13 hs13 => ?_⟩⟩
 ·have:=of_decide_eq_true hbad
  omega
 have s13:=s12.step hx13
 have hW11:=hW10.step hx13
 have hH2:=hH.step hx13
 refine Calls.mono (k_toW hrd s13 hs13 sm) ?_
 rintro e7 wv7 ⟨mZ,he7,hZ,hy7⟩
 refine ⟨_,_,_,_,_,_,_,_,_,_,he7,kept_of hy7 hs13,fun wr14 hx14 hs14 => ?_⟩
 have s14:=(s13.call0 hy7).step hx14
 have hW12:=(hW11.call0 hy7).step hx14
 have hH3:=(hH2.call0 hy7).step hx14
 refine Calls.mono (k_impl_TaskWake (t:=t) (hZ.step hx14).rd0 hl (hg.ext s14.ext)) ?_
 rintro e8 wv8 ⟨v,he8,nI,mI,hv,hI0,hy8⟩
 subst hv
 rw [hr] at he8 hI0
 have s15:=s14.call0 hy8
 have hW13:=hW12.call0 hy8
 have hH4:=hH3.call0 hy8
 have hI:=OW.of hI0 hs14
 refine ⟨_,_,_,_,_,_,_,_,_,_,_,he8,kept_of hy8 hs14,fun b4 hb4=>⟨true,eqWW hI.rd hW13.rd smr,fun hbad=>(by simp at hbad),fun _=>⟨_,k_heldWorld hH4.rd smr,fun hbad => ?_,fun _=>⟨fun hbad=>(by simp at hbad),fun _ wr18 hx18=>⟨rfl,(s15.step hx18).ext⟩⟩⟩⟩⟩
 have:=of_decide_eq_true hbad
 omega
end Go.Proofs.YtajdcjidpolloaaGreatDoor
