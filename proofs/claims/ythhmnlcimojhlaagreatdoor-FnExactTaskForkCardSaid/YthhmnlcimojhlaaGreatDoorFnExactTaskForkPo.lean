/- Part 15 of what the law FnExactTaskFork needs: the engine, the functions' propositions, the contracts. -/
import Derived.Test.YthhmnlcimojhlaaGreatDoorFnExactTaskForkPn
import Derived.Shelf.Abstract
namespace Go.Proofs.YthhmnlcimojhlaaGreatDoor
open Go.RowKit
set_option linter.unusedVariables false
set_option linter.unusedSimpArgs false
set_option maxRecDepth 10000
theorem bestN_app {lt:Int→Int→Bool} {l r:List Int}:∀k:Nat,k≤l.length→bestN lt (l++r) k=bestN lt l k
 | 0,_=>rfl
 | k+1,hk=>by
  have e:gi (l++r) (k:Int)=gi l (k:Int):=by
   unfold gi
   rw [Int.toNat_natCast]
   simp [List.getElem?_append_left (show k<l.length by omega)]
  simp only [bestN]
  rw [bestN_app k (by omega),e]
theorem bestN_snoc {lt:Int→Int→Bool} {l:List Int} {x:Int}:bestN lt (l++[x]) (l++[x]).length=if (!(bestN lt l l.length).2||lt x (bestN lt l l.length).1)=true then (x,true) else bestN lt l l.length:=by
 rw [List.length_append,List.length_singleton]
 simp only [bestN]
 rw [bestN_app l.length (Nat.le_refl _),gi_app_len l [] x]
section
variable {W:Wld} {m:MW} {w:World} {bs:List Nat} {p:Option Addr}
end
end Go.Proofs.YthhmnlcimojhlaaGreatDoor
namespace Go.Proofs.YthhmnlcimojhlaaGreatDoor
open Go.RowKit
set_option linter.unusedVariables false
set_option linter.unusedSimpArgs false
set_option maxRecDepth 10000
theorem mCnt_len (m:Int):∀k:Nat,mCnt m k=((msL m k).length:Int)
 | 0=>rfl
 | k+1=>by
  simp only [mCnt]
  cases h:mHas m (k:Int) with
  | true=>rw [if_pos rfl,msL_step h,mCnt_len m k]; simp
  | false=>rw [if_neg (by decide),msL_skip h,mCnt_len m k]
theorem results_tmp1 {fn:Func} {t:Tmp} (h:fn.results = #[.tmp t]) {tmps:Array Value} {w:World} {P:Program}:(results fn tmps).run P w = .ok (tmps.getD t undef) w:=by
 simp [results,h]
theorem count_shape:bodyOf Tryz.f93=seqs t_impl_MaskCount_pre (.seq (.seq t_impl_MaskCount_mid (.block 0 (.rangeFunc (.tmp 5) #[6] .skip t_impl_MaskCount_body))) t_impl_MaskCount_post):=by kernel_rfl
theorem k_impl_MaskCount {m:Int} {w:World}:Calls Tryz.prog fn_impl_MaskCount #[.int .i64 m] w fun e w'=>e = .returned (.int .i64 (mCnt m 4))∧ExtX [] w w':=by
 refine calls_marks2 (args:=[.int .i64 m]) (n:=10) Tryz.func93 (body:=bodyOf Tryz.f93) rfl (by kernel_rfl) (by simp) fun a hn ha hd => ?_
 rw [count_shape]
 have a0:=ha 0 _ rfl
 refine g_impl_MaskCount_pre none (R:=fun e vs w1=>e = .normal∧∃b:Nat,vs=[.pointer (some ⟨b,0,none⟩)]∧w.heap.size≤b∧(∃t,w1.heap[b]? = some (.cells ([.int .i64 0]:List Value).toArray t (0,0)))∧ExtX [] w w1) hn ?_ ?_ ?_ (fun e vs a1 w1 hne hR _=>absurd hR.1 hne)
 ·intro p hp
  cases hp
 ·intro b wb hx hb0 hcell _
  refine ⟨wrX_blk (k0:=0) hcell (by simp) (by simp),fun wr hx2 => ?_⟩
  have e1:ExtX [b] wb (sto wb (some ⟨b,0,none⟩) 0 [.int .i64 0]):=sto_ext (bs:=[b]) (by simp)
  refine ⟨rfl,b,rfl,hb0,⟨_,blk_ext (sto_blk (vs:=[.int .i64 0]) (n:=0) hcell) hx2 (by simp)⟩,hx.fresh (e1.trans hx2.of_nil) fun x hm=>.inl ?_⟩
  have:x=b:=by simpa using hm
  omega
 rintro vs a2 w1 ⟨_,b,rfl,hwb,hB,hX⟩ fo
 have o3:a2.tmps.getD 3 undef = .pointer (some ⟨b,0,none⟩):=by
  have:=fo.out
  simpa using this
 have o0:a2.tmps.getD 0 undef = .int .i64 m:=(fo.kept 0 (by decide +kernel)).trans a0
 refine wpIn_seq (wpIn_seq (g_impl_MaskCount_mid none m (R:=fun e vs w2=>e = .normal∧∃bm:Nat,vs=[.func (.func fn_impl_cpuSet_members_1) #[] #[.pointer (some ⟨bm,0,none⟩)]]∧CellsX [] w2 (some ⟨bm,0,none⟩) 0 [.int .i64 m]∧w1.heap.size≤bm∧ExtX [] w1 w2) (by rw [fo.size,hn]) (fun p hp => ?_) (fun wr hx _ => ?_) fun e vs a3 w2 hR fo3 => ?_))
 ·simp only [List.mem_cons,List.not_mem_nil,or_false] at hp
  subst hp
  exact ⟨Nat.le_of_ble_eq_true rfl,o0⟩
 ·refine (k_members (m:=m)).mono fun e w2 ⟨bm,hbm,he,hcm,hx3⟩=>⟨_,_,_,he,kept_nil,fun wr1 hx4=>⟨rfl,bm,rfl,hcm.ext hx4,by have:=hx.size; omega,(hx.trans hx3).trans hx4⟩⟩
 obtain ⟨rfl,bm,rfl,hcm,hbm,hx2⟩:=hR
 have p5:a3.tmps.getD 5 undef = .func (.func fn_impl_cpuSet_members_1) #[] #[.pointer (some ⟨bm,0,none⟩)]:=by
  have:=fo3.out
  simpa using this
 have p3:=(fo3.kept 3 (by decide +kernel)).trans o3
 have hsz3:a3.tmps.size=10:=by rw [fo3.size,fo.size,hn]
 have hd3:a3.defers=[]:=by rw [fo3.defers,fo.defers,hd]
 have hX2:=hX.trans hx2
 obtain ⟨t0,hB⟩:=hB
 have hB2:=blk_ext hB hx2 (by simp)
 have hbL:=blk_lt hB
 have hbL2:=blk_lt hB2
 have hbmL:=cell_in hcm
 have hlen:(msL m 4).length≤4:=by
  have:=(mCnt_range m 4).2
  rw [mCnt_len] at this
  omega
 refine wpIn_block (rangeY (gf:=fn_impl_cpuSet_members_1) (lb:=#[.pointer (some ⟨bm,0,none⟩)]) p5 (enters_of Tryz.func227 (by kernel_rfl) rfl)
  (fun k W1=>(∃t,W1.heap[b]? = some (.cells ([.int .i64 (k:Int)]:List Value).toArray t (0,0)))∧CellsX [] W1 (some ⟨bm,0,none⟩) 0 [.int .i64 m]∧ExtX [] w W1)
  (fun _ _=>False) (msL m 4).length (fun k=>[.int .i64 (gi (msL m 4) (k:Int))])
  (fun k W1 W2 ys h hx hy=>⟨h.1.imp fun _ h=>blk_ext h hx fun hm=>by have:=hy _ hm; omega,cell_keep h.2.1 hx fun hm=>by have:=hy _ hm; omega,h.2.2.fresh hx fun x hm=>.inl (by have:=hy x hm; have:=hX2.size; omega)⟩)
  (fun cd W1 W2 ys h hx hy=>h)
  ⟨⟨t0,hB2⟩,hcm,hX2⟩ (fun k=>rfl) (it_members (m:=m) (bm:=bm) (w:=w2) (I:=fun k W1=>(∃t,W1.heap[b]? = some (.cells ([.int .i64 (k:Int)]:List Value).toArray t (0,0)))∧CellsX [] W1 (some ⟨bm,0,none⟩) 0 [.int .i64 m]∧ExtX [] w W1) (fun k W1 h=>h.2.1)) ?_ ?_ (fun D c W _ h _=>h.elim))
 ·rintro l k W hk ⟨⟨t1,hb⟩,hc,hXW⟩ hl
  rw [fold_one]
  refine wpIn_skip ⟨⟨[],ExtX.refl _ _,by simp⟩,fun W2 hx5 => ?_⟩
  have hbn:b∉[l]:=fun hm=>by
   have:b=l:=by simpa using hm
   omega
  have hb5:=blk_ext hb hx5 hbn
  have hX5:ExtX [] w W2:=hXW.fresh hx5 fun x hm=>.inl (by
   have:x=l:=by simpa using hm
   have:=hX2.size
   omega)
  have hc5:=cell_keep hc hx5 fun hm=>by
   have:bm=l:=by simpa using hm
   omega
  have q3:(a3.tmps.setIfInBounds 6 (.int .i64 (gi (msL m 4) (k:Int)))).getD 3 undef = .pointer (some ⟨b,0,none⟩):=(getD_set_other (i:=6) (j:=3) (by decide)).trans p3
  refine g_impl_MaskCount_body (some l) (some ⟨b,0,none⟩) (R:=fun e _ W3=>e = .normal∧(∃X,ExtX X W2 W3∧∀x∈X,x<w2.heap.size)∧(∃t,W3.heap[b]? = some (.cells ([.int .i64 ((k:Int)+1)]:List Value).toArray t (0,0)))∧CellsX [] W3 (some ⟨bm,0,none⟩) 0 [.int .i64 m]∧ExtX [] w W3) (by simpa using hsz3) (fun p hp => ?_) ⟨(k:Int),box_cell ⟨_,hb5⟩,⟨by omega,by omega⟩,wrX_blk (k0:=0) hb5 (by simp) (by simp),fun wr hx => ?_⟩ fun e vs a5 W3 hR _ => ?_
  ·simp only [List.mem_cons,List.not_mem_nil,or_false] at hp
   subst hp
   exact ⟨Nat.le_of_ble_eq_true rfl,q3⟩
  ·have e1:ExtX [b] W2 (sto W2 (some ⟨b,0,none⟩) 0 [.int .i64 ((k:Int)+1)]):=sto_ext (bs:=[b]) (by simp)
   have eX:ExtX [b] W2 wr:=e1.trans hx.of_nil
   refine ⟨rfl,⟨[b],eX,fun x hm => ?_⟩,⟨t1,?_⟩,cell_keep hc5 eX fun hm => ?_,hX5.fresh eX fun x hm=>.inl ?_⟩
   ·have:x=b:=by simpa using hm
    omega
   ·exact blk_ext (sto_blk (vs:=[.int .i64 ((k:Int)+1)]) (n:=0) hb5) hx (by simp)
   ·have:bm=b:=by simpa using hm
    omega
   ·have:x=b:=by simpa using hm
    omega
  ·obtain ⟨rfl,hX3,h3,h4⟩:=hR
   exact ⟨hX3,h3,h4⟩
 ·intro D W hD ⟨⟨t1,hb⟩,hc,hXW⟩ hdD
  refine g_impl_MaskCount_post none (some ⟨b,0,none⟩) (R:=fun e vs W1=>e = .ret∧vs=[.int .i64 (mCnt m 4)]∧ExtX [] W W1) hsz3 (fun p hp => ?_) ⟨_,box_cell ⟨_,hb⟩,fun wr hx=>⟨rfl,by rw [mCnt_len],hx⟩⟩ fun e vs a6 W1 hR fo6 => ?_
  ·simp only [List.mem_cons,List.not_mem_nil,or_false] at hp
   subst hp
   exact ⟨Nat.le_of_ble_eq_true rfl,p3⟩
  ·obtain ⟨rfl,rfl,hx6⟩:=hR
   have hr:∀w',(results Tryz.f93 a6.tmps).run Tryz.prog w' = .ok (.int .i64 (mCnt m 4)) w':=fun w'=>by
    rw [results_tmp1 (t:=2) (by kernel_rfl)]
    have:=fo6.out
    simp only [List.map_cons,List.map_nil,List.cons.injEq,and_true] at this
    rw [this]
   exact (leave_mark (D:=D) (by rw [fo6.defers]; simp [hd3]) ((hx6.block D (Array.getElem?_eq_some_iff.1 hdD).1 (by simp)).trans hdD) hr fun w' hx=>⟨rfl,(hXW.trans hx6).fresh hx fun x hm=>.inl (by
    have:x=D:=by simpa using hm
    have:=hX2.size
    omega)⟩).2
theorem pla_best (W:Wld) (m:Int):∀k:Nat,bestN (ltPl W) (msL m k) (msL m k).length=if plaN W m k<0 then (0,false) else (plaN W m k,true)
 | 0=>rfl
 | k+1=>by
  have ih:=pla_best W m k
  have hr:=plaN_range W m k
  cases hh:mHas m (k:Int) with
  | false=>rw [msL_skip hh,ih,plaN_no (by rw [hh]; rfl)]
  | true =>
   rw [msL_step hh,bestN_snoc,ih]
   by_cases hn:plaN W m k<0
   ·rw [if_pos hn,plaN_yes (by rw [hh,decide_eq_true hn]; rfl),if_neg (by omega:¬(k:Int)<0),if_pos (by rfl)]
   ·rw [if_neg hn]
    cases hl:ltPl W (k:Int) (plaN W m k) with
    | true=>rw [plaN_yes (by rw [hh,hl]; simp),if_neg (by omega:¬(k:Int)<0),if_pos (by rfl)]
    | false=>rw [plaN_no (by rw [hh,hl,decide_eq_false hn]; rfl),if_neg hn,if_neg (by simp)]
theorem pla_high {W:Wld} {m:Int} (h4:W.cpus.length≤4) (hs:∀c:Int,mHas m c=true→c<(W.cpus.length:Int)):plaN W m 4=plaD W m:=by
 have key:∀j:Nat,W.cpus.length+j≤4→plaN W m (W.cpus.length+j)=plaN W m W.cpus.length:=by
  intro j
  induction j with
  | zero=>intro _; rfl
  | succ j ih =>
   intro hj
   rw [show W.cpus.length+(j+1)=(W.cpus.length+j)+1 from rfl,plaN_no ?_,ih (by omega)]
   have:mHas m ((W.cpus.length+j:Nat):Int)=false:=by
    cases h:mHas m ((W.cpus.length+j:Nat):Int) with
    | false=>rfl
    | true=>have:=hs _ h; omega
   rw [this]; rfl
 have:=key (4 - W.cpus.length) (by omega)
 rwa [show W.cpus.length+(4 - W.cpus.length)=4 by omega] at this
section
variable {W:Wld} {m:MW} {w:World} {bs:List Nat} {p:Option Addr}
theorem k_impl_crowd {c:Int} (h:WPt bs w p W m) (htl:W.tasks.length=12) (hl:LdW W):PureX bs Tryz.prog fn_impl_World_crowd #[.pointer p,.int .i64 c] w (.tuple #[.int .i64 (ldsS W c),.int .i64 (rdyS W c)]) :=
 p_impl_World_crowd p c fun wr hx=>by
  have h:=(h.ext hx).less (cs:=[]) (by simp)
  refine ⟨h.some,_,_,_,h.tasks,?_⟩
  refine ⟨fun vs=>∃k:Nat,k≤12∧vs=[.int .i64 (sumF (ldsF W c) k),.int .i64 (sumF (rdyF W c) k),.int .i64 (k:Int)],cntM 12 2,⟨0,Nat.zero_le _,rfl⟩,?_⟩
  rintro ld ct x ⟨k,hk,he⟩
  simp only [List.cons.injEq,Value.int.injEq,true_and,and_true] at he
  obtain ⟨rfl,rfl,rfl⟩:=he
  refine ⟨fun hlt => ?_,fun hge => ?_⟩
  ·have hlt:=of_decide_eq_true hlt
   have hr:=rdyS_range (W:=W) c k
   have hr2:=ldsS_range hl c k (by omega)
   have hl1:=hl (k:Int) (by omega) (by omega)
   refine ⟨h.rd.t.ix encT_c (by omega) hlt,_,_,_,_,_,_,_,_,_,h.rd.t (k:Int) (by omega) hlt,fun b hb=>⟨fun g => ?_,fun g => ?_⟩⟩
   ·have g:onC W c k=true:=g
    refine ⟨⟨by show _≤sumF (ldsF W c) k+(tkk W (k:Int)).load; omega,by show sumF (ldsF W c) k+(tkk W (k:Int)).load≤_; omega⟩,⟨by omega,by omega⟩,⟨by omega,by omega⟩,⟨k+1,by omega,?_⟩,?_⟩
    ·simp only [sumF,ldsF,rdyF]; rw [if_pos g,if_pos g]; rfl
    ·simp only [cntM,ctrAt,List.getElem?_cons_zero,List.getElem?_cons_succ]; omega
   ·have g:onC W c k=false:=g
    refine ⟨⟨by omega,by omega⟩,⟨k+1,by omega,?_⟩,?_⟩
    ·simp only [sumF]
     rw [show ldsF W c k=0 from if_neg (by rw [g]; decide),show rdyF W c k=0 from if_neg (by rw [g]; decide),Int.add_zero,Int.add_zero]; rfl
    ·simp only [cntM,ctrAt,List.getElem?_cons_zero,List.getElem?_cons_succ]; omega
  ·have hge:=of_decide_eq_false hge
   have:k=12:=by omega
   subst this
   unfold ldsS rdyS
   rw [htl]
theorem k_bestCpu_1 {b:Nat} {x y:Int} (h:WPt bs w p W m) (htl:W.tasks.length=12) (hl:LdW W) (hb:CellsX bs w (some ⟨b,0,none⟩) 0 [.pointer p]):PureX bs Tryz.prog fn_impl_World_bestCpu_1 #[.int .i64 x,.int .i64 y,.pointer (some ⟨b,0,none⟩)] w (.bool (ltPl W x y)) :=
 p_impl_World_bestCpu_1 x y (some ⟨b,0,none⟩) fun wr hx=>by
  have h:=(h.ext hx).less (cs:=[]) (by simp)
  have hb:=(hb.ext hx).less (cs:=[]) (by simp)
  exact ⟨p,hb,_,_,k_impl_crowd h htl hl,p,hb,_,_,k_impl_crowd h htl hl,rfl⟩
theorem k_impl_bestCpu {x:Int} (h:WPt [] w p W m) (ha:WA W) (hl:LdW W) (hs:∀c:Int,mHas x c=true→0≤c∧c<(W.cpus.length:Int)) (hm:mOk x=true) (h0:x≠0) :
  Calls Tryz.prog fn_impl_World_bestCpu #[.pointer p,.int .i64 x] w fun e w'=>e = .returned (.int .i64 (plaD W x))∧ExtX [] w w':=by
 refine (e_impl_World_bestCpu p x (R:=fun v w'=>v = .int .i64 (plaD W x)∧ExtX [] w w') ?_).mono fun e w' ⟨v,he,hv,h3⟩=>⟨by rw [he,hv],h3⟩
 have hup:=pla_up ha hm h0 hs
 intro b wb hx hb hcell _ wr hx1 _
 refine (k_members (m:=x)).mono fun e w2 ⟨bm,hbm,he,hcm,hx2⟩=>⟨_,_,_,he,kept_nil,fun wr1 hx3 _ => ?_⟩
 have hX:=((hx.trans hx1).trans hx2).trans hx3
 have hcell3:CellsX [] wr1 (some ⟨b,0,none⟩) 0 [.pointer p]:=(((box_cell ⟨_,hcell⟩).ext hx1).ext hx2).ext hx3
 have hp3:=h.ext hX
 refine (k_best (gf:=fn_impl_cpuSet_members_1) (lb:=#[.pointer (some ⟨bm,0,none⟩)]) (bF:=.func fn_impl_World_bestCpu_1) (bA:=#[]) (bK:=#[.pointer (some ⟨b,0,none⟩)]) (xs:=msL x 4) (lt:=ltPl W) (w:=wr1)
  (enters_of Tryz.func227 (by kernel_rfl) rfl)
  (fun I W1 hx4 hI=>it_members (m:=x) (bm:=bm) (I:=I) (w:=W1) fun k W2 hI2=>(hcm.ext hx3).ext (hI k W2 hI2))
  (fun i j hi hj W1 hx4=>.inl ⟨fn_impl_World_bestCpu_1,_,rfl,(k_bestCpu_1 (hp3.ext hx4) ha.t hl (hcell3.ext hx4)) W1 (ExtX.refl _ _)⟩)).mono fun e1 w3 ⟨he1,hx4⟩=>⟨_,_,he1,kept_nil,fun wr2 hx5=>⟨?_,(hX.trans hx4).trans hx5⟩⟩
 rw [pla_best,pla_high ha.c2 fun c hc=>(hs c hc).2,if_neg (by omega)]
end
end Go.Proofs.YthhmnlcimojhlaaGreatDoor
namespace Go.Proofs.YthhmnlcimojhlaaGreatDoor
open Go.RowKit
set_option linter.unusedVariables false
set_option linter.unusedSimpArgs false
set_option maxRecDepth 10000
def fstN (p:Nat→Bool):Nat→Int
 | 0 => -1
 | k+1=>if (decide (fstN p k<0)&&p k)=true then (k:Int) else fstN p k
theorem fstN_spec (p:Nat→Bool):∀k:Nat,(fstN p k = -1∧∀j,j<k→p j=false)∨(0≤fstN p k∧fstN p k<(k:Int)∧p (fstN p k).toNat=true∧∀j:Nat,(j:Int)<fstN p k→p j=false)
 | 0=>.inl ⟨rfl,fun j hj=>absurd hj (Nat.not_lt_zero j)⟩
 | k+1=>by
  simp only [fstN]
  rcases fstN_spec p k with ⟨h1,h2⟩ | ⟨h1,h2,h3,h4⟩
  ·cases hp:p k with
   | true =>
    rw [h1,if_pos (by rfl)]
    exact .inr ⟨by omega,by omega,by simpa using hp,fun j hj=>h2 j (by omega)⟩
   | false =>
    rw [if_neg (by simp),h1]
    refine .inl ⟨rfl,fun j hj => ?_⟩
    by_cases e:j=k
    ·rw [e]; exact hp
    ·exact h2 j (by omega)
  ·rw [if_neg (by rw [decide_eq_false (by omega:¬fstN p k<0)]; simp)]
   exact .inr ⟨h1,by omega,h3,h4⟩
theorem fstN_no {p:Nat→Bool} {n:Nat} (h:∀j,j<n→p j=false):fstN p n = -1:=by
 rcases fstN_spec p n with ⟨h1,_⟩ | ⟨h1,h2,h3,_⟩
 ·exact h1
 ·rw [h _ (by omega)] at h3; cases h3
theorem fstN_is {p:Nat→Bool} {n:Nat} {a:Int} (a0:0≤a) (a1:a<(n:Int)) (hp:p a.toNat=true) (hn:∀j:Nat,(j:Int)<a→p j=false):fstN p n=a:=by
 rcases fstN_spec p n with ⟨_,h2⟩ | ⟨h1,h2,h3,h4⟩
 ·rw [h2 _ (by omega)] at hp; cases hp
 ·by_cases l:fstN p n<a
  ·rw [hn _ (by omega)] at h3; cases h3
  ·by_cases g:a<fstN p n
   ·rw [h4 _ (by omega)] at hp; cases hp
   ·omega
def isFree (W:Wld) (j:Nat):Bool:=(tkk W (j:Int)).state==0
def freeT (W:Wld):Int:=fstN (isFree W) 12
noncomputable def forkB (W:Wld) (g n x:Int):Int:=if weightOf n=0∨mOk x=false∨x=0 then 1 else if usedD W.groups g=false then 2 else if freeT W<0 then 3 else if roomB W=false then 10 else 0
def forkC (W:Wld) (g x:Int):Int:=plaD W (whereD W g x)
def forkT (W:Wld) (g n x:Int):Tsk:=⟨1,g,forkC W g x,n,x,(shf W g (forkC W g x)).floor,0,0,0⟩
def forkW (W:Wld) (g n x:Int):Wld:=settleD (endW (setTk W (freeT W) (forkT W g n x)) (forkC W g x))
noncomputable def ans3D (W:Wld) (bar:Int) (W':Wld) (a:Int):Wld×Int×Int:=if worldB W=false then (zeroW,-1,1) else if bar≠0 then (W,-1,bar) else (W',a,0)
def Ans3 (r:Wld×Int×Int) (w:World) (v:Value) (w':World):Prop:=∃n m',v = .tuple #[.agg (encW r.1 m').toArray,.int .i64 r.2.1,.int .i64 r.2.2]∧MWd n w.heap.size w' r.1 m'∧ExtX [] w w'
structure ForkP (W:Wld) (g n x:Int):Prop where
 w:weightOf n≠0
 m:mOk x=true
 m0:x≠0
 u:usedD W.groups g=true
 f0:0≤freeT W
 f1:freeT W<12
 f2:(tkk W (freeT W)).state=0
 r:roomB W=true
 sw:SW halfT W
 c0:0≤forkC W g x
 c1:forkC W g x<(W.cpus.length:Int)
 ch:mHas (whereD W g x) (forkC W g x)=true
 sw2:SW halfT (setTk W (freeT W) (forkT W g n x))
theorem fork_ok {W:Wld} {g n x:Int} (hW:worldB W=true) (hb:forkB W g n x=0):ForkP W g n x:=by
 have wp:=decB_t.1 hW
 unfold forkB at hb
 split at hb
 ·cases hb
 ·rename_i h1
  split at hb
  ·cases hb
  ·rename_i h2
   split at hb
   ·cases hb
   ·rename_i h3
    split at hb
    ·cases hb
    ·rename_i h4
     have h4:roomB W=true:=by simpa using h4
     have h2:usedD W.groups g=true:=by simpa using h2
     have sw:=sw_of wp (decB_t.1 h4)
     have hf:0≤freeT W∧freeT W<12∧isFree W (freeT W).toNat=true:=by
      rcases fstN_spec (isFree W) 12 with ⟨a,_⟩ | ⟨a,b,c,_⟩
      ·unfold freeT at h3; omega
      ·exact ⟨a,b,c⟩
     obtain ⟨c0,c1,ch⟩:=pla_where wp.a g x
     have hs:=sw.s g _ h2 c0 c1
     have e:(((freeT W).toNat:Nat):Int)=freeT W:=by omega
     refine ⟨fun h=>h1 (.inl h),?_,fun h=>h1 (.inr (.inr h)),h2,hf.1,hf.2.1,?_,h4,sw,c0,c1,ch,sw.setTk hf.1 hf.2.1 (x:=forkT W g n x) (fun _=>⟨h2,c0,c1⟩) hs.1 hs.2.1⟩
     ·cases hm:mOk x with
      | true=>rfl
      | false=>exact absurd (.inr (.inl hm)) h1
     ·have:=hf.2.2
      unfold isFree at this
      rw [e] at this
      exact eq_of_beq this
theorem sm_fork {W:Wld} {g n x:Int} (sm:SmW W) (hW:worldB W=true) (hb:forkB W g n x=0):SmW (forkW W g n x):=by
 have h:=fork_ok hW hb
 exact sm_set sm (h.sw2.endW h.c0 h.c1) (by decide) (TreeC.refl _)
theorem ans3_sm {W W':Wld} {bar a:Int} (sm:SmW W) (h:worldB W=true→bar=0→SmW W'):SmW (ans3D W bar W' a).1:=by
 unfold ans3D
 split
 ·exact sm_zero
 ·rename_i hW
  split
  ·exact sm
  ·rename_i hb
   exact h (by simpa using hW) (by simpa using hb)
section
variable {W W':Wld} {m:MW} {w:World} {bar a:Int}
theorem Ans3.bad {w':World} (hW:worldB W=false) (hx:ExtX [] w w'):Ans3 (ans3D W bar W' a) w (.tuple #[.agg (encW zeroW noM).toArray,.int .i64 (-1),.int .i64 1]) w':=by
 rw [show ans3D W bar W' a=(zeroW,-1,1) from if_pos hW]
 exact ⟨0,noM,rfl,MWd.zero _ _,hx⟩
theorem Ans3.no {n:Nat} {bs:List Nat} {w':World} {m':MW} (hW:worldB W=true) (hb:bar≠0) (hk:Wk n bs w w' W m') {c:Int} (hc:bar=c):Ans3 (ans3D W bar W' a) w (.tuple #[.agg (encW W m').toArray,.int .i64 (-1),.int .i64 c]) w':=by
 rw [show ans3D W bar W' a=(W,-1,c) by unfold ans3D; rw [if_neg (by rw [hW]; decide),if_pos hb,hc]]
 exact ⟨n,m',rfl,hk.fin⟩
theorem Ans3.ok {n:Nat} {bs:List Nat} {w':World} {m':MW} (hW:worldB W=true) (hb:bar=0) (hk:Wk n bs w w' W' m'):Ans3 (ans3D W bar W' a) w (.tuple #[.agg (encW W' m').toArray,.int .i64 a,.int .i64 0]) w':=by
 rw [show ans3D W bar W' a=(W',a,0) by unfold ans3D; rw [if_neg (by rw [hW]; decide),if_neg (by simpa using hb)]]
 exact ⟨n,m',rfl,hk.fin⟩
set_option maxHeartbeats 1000000 in
theorem k_spec_TaskFork {g n x:Int} (h:RdW [] w W m) (hl:LenW W) :
  Calls Tryz.prog fn_spec_TaskFork #[.agg (encW W m).toArray,.int .i64 g,.int .i64 n,.int .i64 x] w fun e w'=>∃v,e = .returned v∧Ans3 (ans3D W (forkB W g n x) (forkW W g n x) (freeT W)) w v w':=by
 refine e_spec_TaskFork W.now m.cO W.cpus.length m.cC m.tO W.tasks.length m.tC m.gO W.groups.length m.gC g n x (R:=fun v w'=>Ans3 (ans3D W (forkB W g n x) (forkW W g n x) (freeT W)) w v w') ?_
 intro y hy y1 hy1 wr hx2 hs2
 refine Calls.mono (k_spec_l10Begin (h.ext hx2) hl) ?_
 rintro e wv (⟨hW,he,hy2⟩ | ⟨hW,m',he,hM,hy2⟩)
 ·exact ⟨_,_,_,_,_,_,_,_,_,_,_,he,kept_of hy2 hs2,fun _ wr1 hx3=>Ans3.bad hW ((hx2.trans hy2).fresh hx3 fun z hm=>.inl (two_new hy hy1 z hm)),fun g=>by simp at g⟩
 have hK:=Wk.begin hy hy1 hx2 hs2 hM hy2
 have hr:=hK.rd
 have wp:=decB_t.1 hW
 have htl:=wp.a.t
 refine ⟨_,_,_,_,_,_,_,_,_,_,_,he,kept_of hy2 hs2,fun g=>by split at g <;> simp at g,fun _=>⟨_,k_spec_WeightOf,_,fun _=>k_spec_MaskOk,fun g1 wr2 hx3 => ?_,fun g1=>⟨_,k_spec_l6Used hr.g,fun g2 wr3 hx3 => ?_,fun g2=>⟨⟨by omega,by omega⟩,?_⟩⟩⟩⟩
 ·have hb:forkB W g n x=1:=by
   unfold forkB
   rw [if_pos]
   simp only [Bool.or_eq_true,beq_iff_eq,Bool.not_eq_true'] at g1
   rcases g1 with (g1 | g1) | g1
   ·exact .inl g1
   ·exact .inr (.inl g1)
   ·exact .inr (.inr g1)
  exact Ans3.no hW (by rw [hb]; decide) (hK.step hx3) hb
 ·have n1:¬(weightOf n=0∨mOk x=false∨x=0):=by
   simp only [Bool.or_eq_false_iff,beq_eq_false_iff_ne,Bool.not_eq_false',ne_eq] at g1
   rintro (h | h | h)
   ·exact g1.1.1 h
   ·rw [g1.1.2] at h; cases h
   ·exact g1.2 h
  have hb:forkB W g n x=2:=by unfold forkB; rw [if_neg n1,if_pos (by simpa using g2)]
  exact Ans3.no hW (by rw [hb]; decide) (hK.step hx3) hb
 have n1:¬(weightOf n=0∨mOk x=false∨x=0):=by
  simp only [Bool.or_eq_false_iff,beq_eq_false_iff_ne,Bool.not_eq_false',ne_eq] at g1
  rintro (h | h | h)
  ·exact g1.1.1 h
  ·rw [g1.1.2] at h; cases h
  ·exact g1.2 h
 have hu:usedD W.groups g=true:=by simpa using g2
 have n2:¬usedD W.groups g=false:=by rw [hu]; decide
 refine ⟨fun vs w1=>∃a t:Int,vs=[.int .i64 a,.int .i64 t]∧-1≤t∧t<12∧(a = -1∧(∀j:Nat,t<(j:Int)→j<12→isFree W j=false)∨t<a∧a<12∧isFree W a.toNat=true∧∀j:Nat,t<(j:Int)→(j:Int)<a→isFree W j=false)∧ExtX [y,y1] wv w1,
  fun vs _=>(ctrAt 1 vs+1).toNat,fun w1 hx0 _=>⟨-1,_,rfl,by omega,by omega,.inl ⟨rfl,fun j h1 h2=>by omega⟩,hx0⟩,?_⟩
 rintro av tv wv1 hs3 ⟨a,t,he2,ht0,ht1,hcond,hxw⟩
 simp only [List.cons.injEq,Value.int.injEq,true_and,and_true] at he2
 obtain ⟨rfl,rfl⟩:=he2
 have hK1:=hK.step hxw
 have hr1:=hK1.rd
 refine ⟨fun hlt => ?_,fun hge => ?_⟩
 ·have hlt:=of_decide_eq_true hlt
  have e:((tv.toNat:Nat):Int)=tv:=by omega
  have hst:isFree W tv.toNat=((tkk W tv).state==0):=by unfold isFree; rw [e]
  refine ⟨hr1.t.ix encT_c hlt (by omega),_,hr1.t.f hlt (by omega) (j:=0) rfl,fun g3=>⟨⟨by omega,by omega⟩,fun wr5 hx5 _=>⟨⟨tv,tv - 1,rfl,by omega,by omega,.inr ⟨by omega,ht1,by rw [hst]; exact g3,fun j h1 h2=>by omega⟩,hxw.trans hx5⟩,?_⟩⟩,fun g3=>⟨⟨by omega,by omega⟩,fun wr6 hx6 _=>⟨⟨av,tv - 1,rfl,by omega,by omega,?_,hxw.trans hx6⟩,?_⟩⟩⟩
  ·simp only [ctrAt,List.getElem?_cons_zero,List.getElem?_cons_succ]; omega
  ·have g3:isFree W tv.toNat=false:=by rw [hst]; exact g3
   have one:∀j:Nat,tv - 1<(j:Int)→¬tv<(j:Int)→isFree W j=false:=fun j h1 h2=>by
    have:j=tv.toNat:=by omega
    rw [this]; exact g3
   rcases hcond with ⟨h1,h2⟩ | ⟨h1,h2,h3,h4⟩
   ·exact .inl ⟨h1,fun j j1 j2=>if h:tv<(j:Int) then h2 j h j2 else one j j1 h⟩
   ·exact .inr ⟨by omega,h2,h3,fun j j1 j2=>if h:tv<(j:Int) then h4 j h j2 else one j j1 h⟩
  ·simp only [ctrAt,List.getElem?_cons_zero,List.getElem?_cons_succ]; omega
 ·have hge:=of_decide_eq_false hge
  have ht:tv = -1:=by omega
  subst ht
  have hfree:av=freeT W:=by
   rcases hcond with ⟨h1,h2⟩ | ⟨h1,h2,h3,h4⟩
   ·rw [h1]; exact (fstN_no fun j hj=>h2 j (by omega) hj).symm
   ·exact (fstN_is (by omega) h2 h3 fun j hj=>h4 j (by omega) hj).symm
  subst hfree
  refine ⟨fun g4 wr7 hx7 => ?_,fun g4=>⟨fun g5 wr8 hx8 => ?_,fun g5 => ?_⟩⟩
  ·have g4:=of_decide_eq_true g4
   have hb:forkB W g n x=3:=by unfold forkB; rw [if_neg n1,if_neg n2,if_pos g4]
   exact Ans3.no hW (by rw [hb]; decide) (hK1.step hx7) hb
  ·have g4:=of_decide_eq_false g4
   have hr0:¬roomB W=true:=fun hr=>by rw [if_pos hr] at g5; simp at g5
   have hb:forkB W g n x=10:=by unfold forkB; rw [if_neg n1,if_neg n2,if_neg g4,if_pos (by simpa using hr0)]
   rw [if_neg hr0]
   exact Ans3.no hW (by rw [hb]; decide) (hK1.step hx8) hb
  have g4:=of_decide_eq_false g4
  have hr0:roomB W=true:=Decidable.byContradiction fun hr=>by rw [if_neg hr] at g5; simp at g5
  have hb:forkB W g n x=0:=by unfold forkB; rw [if_neg n1,if_neg n2,if_neg g4,if_neg (by rw [hr0]; decide)]
  have hf:=fork_ok hW hb
  obtain ⟨u0,u1,_⟩:=usedD_iff.1 hu
  have hsl:=wp.a.sl hu
  have c0:=hf.c0
  have c1:=hf.c1
  have f0:=hf.f0
  have f1:=hf.f1
  have hset:Wk 8 [y,y1] w (sto wv1 m'.tO (Int.toNat (freeT W)*9) (encT (forkT W g n x))) (setTk W (freeT W) (forkT W g n x)) m':=hK1.sto (hK1.own.stoT f0 (by rw [htl]; exact f1) (j:=0) (vs:=encT (forkT W g n x)) (x:=forkT W g n x) (by simp [encT]) (by simp [encT])) subT
  refine ⟨_,k_spec_l8Where hr1 wp.a.c2 wp.a.tree hu,_,k_spec_l10Place hr1 wp.a (ldw_of wp),hr1.g.ix u0 u1,_,_,_,hr1.g.shelf u0 u1,(hr1.g.shelves g u0 u1).ix encS_c c0 (by rw [hsl]; exact c1),(shf W g (forkC W g x)).floor,RdS.f (hr1.g.shelves g u0 u1) c0 (by rw [hsl]; exact c1) (j:=0) rfl,hr1.t.ix encT_c f0 (by rw [htl]; exact f1),wrT hK1.own hK1.nb f0 (by rw [htl]; exact f1) (j:=0) (k:=9) (by decide),fun wr9 hx9 hs9 => ?_⟩
  have e5:encW (setTk W (freeT W) (forkT W g n x)) m'=encW W m':=encW_tk _ _ _ _
  have hK4:=hset.step hx9
  have hcall2:=k_spec_l8End hK4.own c0 (show forkC W g x<((setTk W (freeT W) (forkT W g n x)).cpus.length:Int) from c1)
  rw [e5] at hcall2
  refine Calls.mono hcall2 ?_
  rintro e2 wv2 ⟨he2,hy4⟩
  refine ⟨_,_,_,_,_,_,_,_,_,_,he2,hK4.kept hy4 hs9,fun wr10 hx10 hs10 => ?_⟩
  have hK7:=(hK4.deed hy4 hs9).step hx10
  have hcall3:=k_spec_l8Settle hK7.own (hf.sw2.endW c0 c1) (by decide) (by decide) hK7.base
  refine Calls.mono hcall3 ?_
  rintro e3 wv3 ⟨m2,he3,hy5⟩
  exact ⟨_,_,_,_,_,_,_,_,_,_,he3,hK7.kept hy5 hs10,fun wr8 hx8=>Ans3.ok hW hb ((hK7.deed hy5 hs10).step hx8)⟩
theorem k_free {p:Option Addr} (h:WPt [] w p W m) (htl:W.tasks.length=12) :
  Calls Tryz.prog fn_slices_IndexFunc_impl_Task_impl_Task #[.slice m.tO W.tasks.length m.tC,.func (.func fn_impl_TaskFork_1_1) #[] #[]] w fun e w'=>e = .returned (.int .i64 (freeT W))∧ExtX [] w w':=by
 refine (e_slices_IndexFunc_impl_Task_impl_Task m.tO W.tasks.length m.tC (.func fn_impl_TaskFork_1_1) #[] #[] (R:=fun v w'=>v = .int .i64 (freeT W)∧ExtX [] w w') ?_).mono fun e w' ⟨v,he,hv,h3⟩=>⟨by rw [he,hv],h3⟩
 refine loop1w 12 0 rfl (fun k w1=>k≤12∧(∀j:Nat,j<k→isFree W j=false)∧ExtX [] w w1) (fun wr hx _=>⟨Nat.zero_le _,fun j hj=>absurd hj (Nat.not_lt_zero j),hx⟩) fun k w1 _ ⟨hk,hno,hxw⟩ => ?_
 refine ⟨fun hlt => ?_,fun hge wr4 hx4=>⟨?_,hxw.trans hx4⟩⟩
 ·have hlt:=of_decide_eq_true hlt
  have hp:=h.ext hxw
  refine ⟨hp.rd.t.ix encT_c (by omega) hlt,_,_,_,_,_,_,_,_,_,hp.rd.t (k:Int) (by omega) hlt,fun wr1 hx1 _=>.inl ⟨fn_impl_TaskFork_1_1,_,rfl,?_⟩⟩
  refine ((p_impl_TaskFork_1_1 _ _ _ _ _ _ _ _ _ fun _ _=>fun _ _=>rfl) wr1 (ExtX.refl [] _)).mono fun e w2 ⟨he,hx2⟩=>⟨_,he,kept_nil,fun g wr2 hx3=>⟨?_,((hxw.trans hx1).trans hx2).trans hx3⟩,fun g=>⟨⟨by omega,by omega⟩,fun wr3 hx3 _=>loop1w_next (by omega) ⟨by omega,fun j hj => ?_,((hxw.trans hx1).trans hx2).trans hx3⟩⟩⟩
  ·have g:isFree W k=true:=g
   rw [show freeT W=(k:Int) from fstN_is (by omega) (by omega) (by simpa using g) fun j hj=>hno j (by omega)]
  ·by_cases e:j=k
   ·rw [e]; exact g
   ·exact hno j (by omega)
 ·have hge:=of_decide_eq_false hge
  have:k=12:=by omega
  subst this
  rw [show freeT W = -1 from fstN_no hno]
theorem nice_wt (n:Int):inB n (-10) 9=true↔weightOf n≠0:=by
 unfold weightOf
 split
 ·rename_i h
  have:=inB_t.1 h
  exact ⟨fun _=>by omega,fun _=>h⟩
 ·rename_i h
  exact ⟨fun h'=>absurd h' h,fun h'=>absurd rfl h'⟩
end
section
variable {base pb:Nat} {W W':Wld} {m:MW} {w:World}
set_option maxHeartbeats 1000000 in
theorem k_TaskFork_1 {b5:Nat} {cap cap1 cap2:Option Addr} {t5:TypeId} {g n x:Int} (h:PW base pb w W m) (hW:worldB W=true)
  (h0:CellsX [] w cap 0 [.int .i64 n]) (h1:CellsX [] w cap1 0 [.int .i64 x]) (h2:CellsX [] w cap2 0 [.int .i64 g])
  (h5:w.heap[b5]? = some (.cells ([.int .i64 (-1)]:List Value).toArray t5 (0,0))) (hb5:b5<base) (hpb:base≤pb) :
  Calls Tryz.prog fn_impl_TaskFork_1 #[.pointer (pA pb),.pointer cap,.pointer cap1,.pointer cap2,.pointer (some ⟨b5,0,none⟩)] w fun e w2=>(forkB W g n x≠0∧e = .returned (.iface ty_impl_refusal (.agg #[.int .i64 (forkB W g n x)]))∧ExtX [] w w2)∨(forkB W g n x=0∧e = .returned .nilIface∧(∃t,w2.heap[b5]? = some (.cells ([.int .i64 (freeT W)]:List Value).toArray t (0,0)))∧∃m2,Done base pb [b5] w m w2 (forkW W g n x) m2):=by
 have wp:=decB_t.1 hW
 have hM:=Mp.start h
 have hp:=hM.wpt
 have htl:=wp.a.t
 have hm9:=maxLen_big
 refine (e_impl_TaskFork_1 (pA pb) cap cap1 cap2 (some ⟨b5,0,none⟩) (R:=fun v w2=>(forkB W g n x≠0∧v = .iface ty_impl_refusal (.agg #[.int .i64 (forkB W g n x)])∧ExtX [] w w2)∨(forkB W g n x=0∧v = .nilIface∧(∃t,w2.heap[b5]? = some (.cells ([.int .i64 (freeT W)]:List Value).toArray t (0,0)))∧∃m2,Done base pb [b5] w m w2 (forkW W g n x) m2)) ?_).mono fun e w' ⟨v,he,h3⟩=>by
  rw [he]
  rcases h3 with ⟨a,b,c⟩ | ⟨a,b,c⟩
  ·exact .inl ⟨a,by rw [b],c⟩
  ·exact .inr ⟨a,by rw [b],c⟩
 refine ⟨n,h0,_,k_impl_niceOk,x,fun _=>h1,_,fun _=>mask_full,fun g1 wr hx=>.inl ?_,fun g1=>⟨hp.some,_,_,_,hp.groups,g,h2,_,k_impl_groupUsed hp.rd.g (by have:=wp.a.gl; omega),fun g2 wr hx=>.inl ?_,fun g2 => ?_⟩⟩
 ·have hb:forkB W g n x=1:=by
   unfold forkB
   rw [if_pos]
   by_cases hn:weightOf n=0
   ·exact .inl hn
   ·rw [(nice_wt n).2 hn] at g1
    refine .inr ?_
    cases hm:mOk x with
    | false=>exact .inl rfl
    | true=>rw [hm] at g1; exact .inr (by simpa using g1)
  rw [hb]
  exact ⟨by decide,rfl,hx⟩
 ·have n1:¬(weightOf n=0∨mOk x=false∨x=0):=by
   simp only [Bool.or_eq_false_iff,Bool.not_eq_false',Bool.and_eq_true,bne_iff_ne,ne_eq] at g1
   rintro (h | h | h)
   ·exact (nice_wt n).1 g1.1 h
   ·rw [g1.2.1] at h; cases h
   ·exact g1.2.2 h
  have hb:forkB W g n x=2:=by unfold forkB; rw [if_neg n1,if_pos (by simpa using g2)]
  rw [hb]
  exact ⟨by decide,rfl,hx⟩
 have n1:¬(weightOf n=0∨mOk x=false∨x=0):=by
  simp only [Bool.or_eq_false_iff,Bool.not_eq_false',Bool.and_eq_true,bne_iff_ne,ne_eq] at g1
  rintro (h | h | h)
  ·exact (nice_wt n).1 g1.1 h
  ·rw [g1.2.1] at h; cases h
  ·exact g1.2.2 h
 have hu:usedD W.groups g=true:=by simpa using g2
 have n2:¬usedD W.groups g=false:=by rw [hu]; decide
 refine ⟨hp.some,_,_,_,hp.tasks,fun wr2 hx2 _ => ?_⟩
 have hM2:=hM.nil hx2
 refine Calls.mono (k_free hM2.wpt htl) ?_
 rintro e wv ⟨he,hy⟩
 have hX:=hx2.trans hy
 have hM3:=hM2.nil hy
 have hp3:=hM3.wpt
 refine ⟨_,he,kept_nil,fun g4 wr3 hx3=>.inl ?_,fun g4=>⟨_,k_impl_roomW hp3 wp.a,fun g5 wr4 hx4=>.inl ?_,fun g5 => ?_⟩⟩
 ·have g4:=of_decide_eq_true g4
  have hb:forkB W g n x=3:=by unfold forkB; rw [if_neg n1,if_neg n2,if_pos g4]
  rw [hb]
  exact ⟨by decide,rfl,hX.trans hx3⟩
 ·have g4:=of_decide_eq_false g4
  have g5:roomB W=false:=by simpa using g5
  have hb:forkB W g n x=10:=by unfold forkB; rw [if_neg n1,if_neg n2,if_neg g4,if_pos g5]
  rw [hb]
  exact ⟨by decide,rfl,hX.trans hx4⟩
 have g4:=of_decide_eq_false g4
 have g5:roomB W=true:=by simpa using g5
 have hb:forkB W g n x=0:=by unfold forkB; rw [if_neg n1,if_neg n2,if_neg g4,if_neg (by rw [g5]; decide)]
 have hf:=fork_ok hW hb
 obtain ⟨u0,u1,_⟩:=usedD_iff.1 hu
 have hsl:=wp.a.sl hu
 have c0:=hf.c0
 have c1:=hf.c1
 have f0:=hf.f0
 have f1:=hf.f1
 have hwo:=where_ok wp.a g x
 refine ⟨x,h1.ext hX,g,h2.ext hX,_,k_impl_allowedIn hp3 wp.a.c2 wp.a.tree hu,fun wr5 hx5 _ => ?_⟩
 have hM5:=hM3.nil hx5
 refine Calls.mono (k_impl_bestCpu hM5.wpt wp.a (ldw_of wp) (fun c hcx=>cpu_of wp.a hcx) hwo.1 hwo.2) ?_
 rintro e1 wv2 ⟨he1,hy1⟩
 have hX2:=(hX.trans hx5).trans hy1
 have hM6:=hM5.nil hy1
 have hp6:=hM6.wpt
 refine ⟨_,he1,kept_nil,_,_,k_impl_lane,fun b hbb=>⟨hp6.some,_,_,_,hp6.tasks,g,h2.ext hX2,n,h0.ext hX2,x,h1.ext hX2,g,h2.ext hX2,_,k_impl_shelf hp6 u0 u1 c0 (by rw [hsl]; exact c1),?_⟩⟩
 have hsh:=hp6.rd.g.shelves g u0 u1
 have hcs:=hsh (forkC W g x) c0 (by rw [hsl]; exact c1)
 have hM6b:Mp base pb [b] w m wv2 W m:=hM6.add hbb
 have hset:Mp base pb [b] w m (sto wv2 m.tO (Int.toNat (freeT W)*9) (encT (forkT W g n x))) (setTk W (freeT W) (forkT W g n x)) m:=hM6b.deed (hM6b.own.stoT f0 (by rw [htl]; exact f1) (j:=0) (vs:=encT (forkT W g n x)) (x:=forkT W g n x) (by simp [encT]) (by simp [encT])) subT (encW_tk _ _ _ _)
 refine ⟨some_atW hcs,(shf W g (forkC W g x)).floor,cell_atW hcs (j:=0) rfl,hp6.rd.t.ix encT_c f0 (by rw [htl]; exact f1),wrT hM6.own hM6.nb f0 (by rw [htl]; exact f1) (j:=0) (k:=9) (by decide),fun wr6 hx6 hs6 => ?_⟩
 have hM7:Mp base pb [b] w m wr6 (setTk W (freeT W) (forkT W g n x)) m:=hset.call0 hx6
 refine Calls.mono (k_impl_endSliceW hM7.pw c0 (show forkC W g x<((setTk W (freeT W) (forkT W g n x)).cpus.length:Int) from c1)) ?_
 rintro e2 wv3 ⟨he2,hy2⟩
 refine ⟨he2,hM7.kept hy2 hs6,fun wr7 hx7 hs7 => ?_⟩
 have hM8:=(hM7.call hy2 hs6).step hx7
 refine Calls.mono (k_impl_settle hM8.pw (hf.sw2.endW c0 c1) (by decide) (by decide)) ?_
 rintro e3 wv4 ⟨he3,hy3⟩
 have hM9:=hM8.call hy3 hs7
 have h5':=cap_out h hb5 hpb h5 hM9.close
 have hb5b:b5≠b:=fun e=>by
  have:=blk_lt h5
  have:=hX2.size
  omega
 have hn5:b5∉wBlks 8 m:=fun hm=>by
  have:=(h.own.lt b5 hm).1
  omega
 refine ⟨he3,hM8.kept hy3 hs7,wrX_blk (k0:=0) h5' (by simpa using hb5b) (by simp),fun wr8 hx8=>.inr ⟨hb,rfl,?_⟩⟩
 have hst:ExtX [b5] wv4 (sto wv4 (some ⟨b5,0,none⟩) 0 [.int .i64 (freeT W)]):=sto_ext (bs:=[b5]) (by simp)
 have hcell:=blk_ext (sto_blk (k:=0) (n:=0) (vs:=[.int .i64 (freeT W)]) h5') hx8 (by simpa using hb5b)
 refine ⟨⟨_,hcell⟩,m,?_⟩
 have hD:=hM9.close
 have hown:MWd 8 base wr8 (forkW W g n x) m:=(hD.own.ext hst fun y hy hm=>hn5 ((by simpa using hm:y=b5)▸hy)).ext hx8 hM9.nb
 refine ⟨hown,blk_ext (blk_ext hD.pt hst (by simp; omega)) hx8 hM9.pb,?_,fun y hy=>.inl hy⟩
 refine ((hD.v.ext.mono (cs:=[b5]++(pb::wBlks 8 m)) fun y hy=>by simp [hy]).trans (hst.mono fun y hy=>by simp at hy; simp [hy])).fresh hx8 fun y hy=>.inl ?_
 have:y=b:=by simpa using hy
 rw [this]
 exact Nat.le_trans hX2.size hbb
theorem RdW.new {w1:World} {bs:List Nat} (h:RdW [] w W m) (hb:∀y∈bs,w.heap.size≤y) {wb:World} (hx:ExtX [] w wb) (hx1:ExtX bs wb w1):RdW [] w1 W m :=
 (((h.wide (cs:=bs) fun y hy=>.inr (hb y hy)).ext hx.of_nil).ext hx1).less (by simp)
theorem k_impl_TaskFork {g n x:Int} (h:RdW [] w W m) (hl:LenW W) (hg:GlobE w) :
  Calls Tryz.prog fn_impl_TaskFork #[.agg (encW W m).toArray,.int .i64 g,.int .i64 n,.int .i64 x] w fun e w'=>∃v,e = .returned v∧Ans3 (ans3D W (forkB W g n x) (forkW W g n x) (freeT W)) w v w':=by
 refine e_impl_TaskFork W.now m.cO W.cpus.length m.cC m.tO W.tasks.length m.tC m.gO W.groups.length m.gC g n x (R:=fun v w'=>Ans3 (ans3D W (forkB W g n x) (forkW W g n x) (freeT W)) w v w') ?_
 intro y hy b1 wb hx1 hb1 hc1 hn1 b2 wb1 hxb hb2 hc2 hn2 b3 wb2 hxb2 hb3 hc3 hn3 b4 hb4 b5 wb3 hxb3 hb5 hc5 hn5
 refine ⟨wrX_blk (k0:=0) hc5 hn5 (by simp),fun wr hx2 hs => ?_⟩
 have hX0:ExtX [] w wb1:=hx1.fresh hxb fun z hz=>.inl (le_mem1 hz hy)
 have hX1:ExtX [] w wb2:=hX0.fresh hxb2 fun z hz=>.inl (le_mem1 hz hy)
 have hX2:ExtX [] w wb3:=hX1.fresh hxb3 fun z hz=>.inl (le_mem1 hz hy)
 have hst:ExtX [b5] wb3 (sto wb3 (some ⟨b5,0,none⟩) 0 [.int .i64 (-1)]):=sto_ext (bs:=[b5]) (by simp)
 have hb5w:w.heap.size≤b5:=Nat.le_trans hX1.size hb5
 have two:∀z∈[y,b4],w.heap.size≤z:=fun z hm=>by
  simp only [List.mem_cons,List.not_mem_nil,or_false] at hm
  rcases hm with rfl | rfl
  ·exact hy
  ·exact Nat.le_trans hX1.size hb4
 have hX:ExtX [] w wr:=(hX2.fresh hst fun z hz=>.inl (by
  have:z=b5:=by simpa using hz
  omega)).fresh hx2 fun z hz=>.inl (two z hz)
 have n15:∀{b:Nat} {o:Obj} {w9:World},w9.heap[b]? = some o→w9.heap.size≤b5→b∉[b5]:=fun {b o w9} hb hl hm=>by
  have:b=b5:=by simpa using hm
  have:=blk_lt hb
  omega
 have s1:=hxb.size
 have s2:=hxb2.size
 have n2:b2∉[y,b4]:=fun hm=>by
  simp only [List.mem_cons,List.not_mem_nil,or_false] at hm
  have:=blk_lt hc2
  rcases hm with rfl | rfl
  ·exact hn2 (by simp)
  ·omega
 have n1:b1∉[y,b4]:=fun hm=>by
  simp only [List.mem_cons,List.not_mem_nil,or_false] at hm
  have:=blk_lt hc1
  rcases hm with rfl | rfl
  ·exact hn1 (by simp)
  ·omega
 have n3:b3∉[y,b4]:=fun hm=>by
  simp only [List.mem_cons,List.not_mem_nil,or_false] at hm
  have:=blk_lt hc3
  rcases hm with rfl | rfl
  ·exact hn3 (by simp)
  ·omega
 have c1:=blk_ext (blk_ext (blk_ext (blk_ext (blk_ext hc1 hxb hn1) hxb2 hn1) hxb3 hn1) hst (n15 hc1 (by omega))) hx2 n1
 have c2:=blk_ext (blk_ext (blk_ext (blk_ext hc2 hxb2 hn2) hxb3 hn2) hst (n15 hc2 (by omega))) hx2 n2
 have c3:=blk_ext (blk_ext (blk_ext hc3 hxb3 hn3) hst (n15 hc3 hb5)) hx2 n3
 have c5:=blk_ext (sto_blk (k:=0) (n:=0) (vs:=[.int .i64 (-1)]) hc5) hx2 hn5
 have hgw:=hg.ext hX
 have hb5r:=blk_lt c5
 have hrdX:∀w1,ExtX [b5] wr w1→RdW [] w1 W m:=fun w1 hx=>RdW.new h (bs:=[b5]) (by simpa using hb5w) hX hx
 have cell:∀{b:Nat} {v:Value} {t:TypeId} {w1:World},wr.heap[b]? = some (Obj.cells ([v]:List Value).toArray t (0,0))→ExtX [] wr w1→CellsX [] w1 (some ⟨b,0,none⟩) 0 [v]:=fun hb hx=>cellX_blk (blk_ext hb hx (by simp)) (by simp) (k0:=0) rfl
 have hglt:=hg.lt
 refine Calls.mono (k_attemptE (bar:=forkB W g n x) (W':=forkW W g n x) [b5] (fun w2=>∃t,w2.heap[b5]? = some (.cells ([.int .i64 (freeT W)]:List Value).toArray t (0,0)))
  (fun a b bs ha hx hb=>ha.imp fun _ h=>blk_ext h hx fun hm=>by have:=hb _ hm; omega) (by simpa using hb5r) (by simp; omega) (h.ext hX) (fun z hz w1 hx=>hrdX w1 hx) hl hgw
  fun w1 pb m1 hW hx3 hpb hP=>.inl ⟨fn_impl_TaskFork_1,_,rfl,k_TaskFork_1 hP hW (cell c2 hx3) (cell c3 hx3) (cell c1 hx3) (blk_ext c5 hx3 (by simp)) hb5r hpb⟩) ?_
 rintro e wv ⟨v,he,⟨n',m',hv,hM,hy2⟩,hdone,hno⟩
 subst hv
 have hkept:Kept [y,b4] wr wv:=fun z hz=>hy2.block z (hs z hz) fun hm=>by
  have:z=b5:=by simpa using hm
  subst this
  exact hn5 hz
 refine ⟨_,_,_,_,_,_,_,_,_,_,_,he,hkept,fun b6 hb6 => ?_⟩
 have hXv:ExtX [] w wv:=hX.fresh hy2 fun z hz=>.inl (by
  have:z=b5:=by simpa using hz
  omega)
 have fin:∀wr1,ExtX [y,b4] wv wr1→MWd n' w.heap.size wr1 (ansD W (forkB W g n x) (forkW W g n x)).1 m'∧ExtX [] w wr1:=fun wr1 hx4=>⟨(hM.ext hx4 fun z hz hm=>by
  have:=(hM.lt z hz).1
  have:=hs z hm
  omega).mono hX.size,hXv.fresh hx4 fun z hm=>.inl (two z hm)⟩
 by_cases hcond:worldB W=true∧forkB W g n x=0
 ·obtain ⟨hW,hb⟩:=hcond
  obtain ⟨t9,hd⟩:=hdone hW hb
  have hc9:CellsX [y,b4] wv (some ⟨b5,0,none⟩) 0 [.int .i64 (freeT W)]:=cellX_blk hd hn5 (k0:=0) rfl
  refine ⟨freeT W,hc9,hc9,fun wr1 hx4 => ?_⟩
  obtain ⟨f1,f2⟩:=fin wr1 hx4
  rw [ans_ok hW hb] at f1 ⊢
  rw [show ans3D W (forkB W g n x) (forkW W g n x) (freeT W)=(forkW W g n x,freeT W,0) by unfold ans3D; rw [if_neg (by rw [hW]; decide),if_neg (by simpa using hb)]]
  exact ⟨n',m',rfl,f1,f2⟩
 ·have hX9:=hno (by
   cases hW:worldB W with
   | false=>exact .inl rfl
   | true=>exact .inr fun hb=>hcond ⟨hW,hb⟩)
  have hc9:CellsX [y,b4] wv (some ⟨b5,0,none⟩) 0 [.int .i64 (-1)]:=cellX_blk (blk_ext c5 hX9 (by simp)) hn5 (k0:=0) rfl
  refine ⟨-1,hc9,hc9,fun wr1 hx4 => ?_⟩
  obtain ⟨f1,f2⟩:=fin wr1 hx4
  cases hW:worldB W with
  | false =>
   rw [ans_bad hW] at f1 ⊢
   rw [show ans3D W (forkB W g n x) (forkW W g n x) (freeT W)=(zeroW,-1,1) from if_pos hW]
   exact ⟨n',m',rfl,f1,f2⟩
  | true =>
   have hb:forkB W g n x≠0:=fun hb=>hcond ⟨hW,hb⟩
   rw [ans_bar hW hb] at f1 ⊢
   rw [show ans3D W (forkB W g n x) (forkW W g n x) (freeT W)=(W,-1,forkB W g n x) by unfold ans3D; rw [if_neg (by rw [hW]; decide),if_pos hb]]
   exact ⟨n',m',rfl,f1,f2⟩
end
end Go.Proofs.YthhmnlcimojhlaaGreatDoor
namespace Go.Proofs.YthhmnlcimojhlaaGreatDoor
open Go.RowKit
set_option linter.unusedVariables false
set_option linter.unusedSimpArgs false
set_option maxRecDepth 10000
set_option maxHeartbeats 1000000 in
theorem k_FnExactTaskFork {D:Wld} {M:MW} {g n x:Int} {w:World} (ft:FitW w D M) (_:InR .i64 g) (_:InR .i64 n) (_:InR .i64 x) (hg:GlobE w) :
  Calls Tryz.prog fn_laws_FnExactTaskFork #[.agg (encW D M).toArray,.int .i64 g,.int .i64 n,.int .i64 x] w fun e w'=>e = .returned (.bool true)∧ExtX [] w w':=by
 refine (e_laws_FnExactTaskFork D.now M.cO D.cpus.length M.cC M.tO D.tasks.length M.tC M.gO D.groups.length M.gC g n x (R:=fun v w'=>v = .bool true∧ExtX [] w w') ?_).mono fun e w' ⟨v,he,hv,h3⟩=>⟨by rw [he,hv],h3⟩
 have hl:LenW D:=⟨ft.lc,ft.lt,ft.lg,ft.ft⟩
 have hrd:=ft.rd
 intro b hb
 refine ⟨_,k_szWorld ft (by decide) (by decide),fun _ w1 hx1=>⟨rfl,hx1⟩,fun hs => ?_⟩
 have hs:=of_decide_eq_false hs
 have sm:=(szWd_nn (W:=D) (left:=1048576) (by decide) (by omega)).1
 have smr:SmW (ans3D D (forkB D g n x) (forkW D g n x) (freeT D)).1:=ans3_sm sm fun hW hb=>sm_fork sm hW hb
 have hmD:=mK_pos sm
 generalize hr:ans3D D (forkB D g n x) (forkW D g n x) (freeT D)=r at smr
 have hmR:=mK_pos smr
 intro wr1 hx1 hs1
 have s1:Sc w [b] wr1:=((Sc.start w).add hb).call0 hx1
 refine Calls.mono (k_toW hrd s1 hs1 sm) ?_
 rintro e wv ⟨mA,he,hA,hy⟩
 refine ⟨_,_,_,_,_,_,_,_,_,_,he,kept_of hy hs1,fun wr2 hx2 hs2 => ?_⟩
 have s2:=(s1.call0 hy).step hx2
 have hA2:=hA.step hx2
 refine Calls.mono (k_spec_TaskFork (g:=g) (n:=n) (x:=x) hA2.rd0 hl) ?_
 rintro e1 wv1 ⟨v,he1,nW,mW,hv,hW0,hy1⟩
 subst hv
 rw [hr] at he1 hW0
 have s3:=s2.call0 hy1
 have hW1:=(OW.of hW0 hs2).mono s2.ext.size
 refine ⟨_,_,_,_,_,_,_,_,_,_,_,_,he1,kept_of hy1 hs2,fun b1 hb1 wr3 hx3 hs3 => ?_⟩
 have s4:=s3.put hx3 hb1
 have hW2:=hW1.put hx3 hb1
 refine Calls.mono (k_toW hrd s4 hs3 sm) ?_
 rintro e2 wv2 ⟨mX,he2,hX0,hy2⟩
 have n0:=sepW hW2.own hX0.own (Nat.le_refl _)
 have s5:=s4.call0 hy2
 have hW3:=hW2.call0 hy2
 have hX1:=hX0.mono s4.ext.size
 refine ⟨_,_,_,_,_,_,_,_,_,_,he2,kept_of hy2 hs3,fun b2 hb2 wr4 hx4 hs4 => ?_⟩
 have s6:=s5.put hx4 hb2
 have hW4:=hW3.put hx4 hb2
 have hX2:=hX1.put hx4 hb2
 refine Calls.mono (k_impl_TaskFork (g:=g) (n:=n) (x:=x) hX2.rd0 hl (hg.ext s6.ext)) ?_
 rintro e3 wv3 ⟨v,he3,nG,mG,hv,hG0,hy3⟩
 subst hv
 rw [hr] at he3 hG0
 have n1:=sepW hX2.own hG0 (Nat.le_refl _)
 have n2:=sepW hW4.own hG0 (Nat.le_refl _)
 have s7:=s6.call0 hy3
 have hW5:=hW4.call0 hy3
 have hX3:=hX2.call0 hy3
 have hG1:=(OW.of hG0 hs4).mono s6.ext.size
 refine ⟨_,_,_,_,_,_,_,_,_,_,_,_,he3,kept_of hy3 hs4,fun b3 hb3=>⟨true,eqWW hG1.rd hW5.rd smr,fun hbad=>(by simp at hbad),fun _ wr6 hx6 hs6 => ?_⟩⟩
 have s8:=s7.put hx6 hb3
 have hW6:=hW5.put hx6 hb3
 have hX4:=hX3.put hx6 hb3
 have hG2:=hG1.put hx6 hb3
 refine Calls.mono (k_toW hrd s8 hs6 sm) ?_
 rintro e4 wv4 ⟨mY,he4,hY,hy4⟩
 refine ⟨_,_,_,_,_,_,_,_,_,_,he4,kept_of hy4 hs6,rfl,true,eqWW (hX4.call0 hy4).rd hY.rd sm,fun hbad=>(by simp at hbad),fun _ wr8 hx8 hs8 => ?_⟩
 have s9:=(s8.call0 hy4).step hx8
 have hW7:=(hW6.call0 hy4).step hx8
 have hX5:=(hX4.call0 hy4).step hx8
 have hG3:=(hG2.call0 hy4).step hx8
 refine Calls.mono (k_markWorld hX5.own sm) ?_
 rintro e5 wv5 ⟨he5,_,hy5⟩
 have s10:=s9.call hy5 fun x hx=>(hX5.own.lt x hx).1
 have hW8:=hW7.call hy5 n0.1
 have hG4:=hG3.call hy5 n1.2
 refine ⟨_,he5,kept_sep hy5 hs8 hX5.nb,true,fun _=>eqWW hG4.rd hW8.rd smr,fun hbad => ?_,fun _ wr10 hx10 hs10 => ?_⟩
 ·rw [decide_eq_false (by omega)] at hbad
  simp at hbad
 have s11:=s10.step hx10
 have hW9:=hW8.step hx10
 have hG5:=hG4.step hx10
 refine Calls.mono (k_markWorld hG5.own smr) ?_
 rintro e6 wv6 ⟨he6,hGm,hy6⟩
 have s12:=s11.call hy6 fun x hx=>(hG5.own.lt x hx).1
 have hW10:=hW9.call hy6 n2.1
 have hH:OW nG w.heap.size _ wv6 (markW r.1) mG:=⟨hGm,hG5.nb⟩
 refine ⟨_,he6,kept_sep hy6 hs10 hG5.nb,_,k_heldWorld hH.rd smr,fun hbad => ?_,fun _=>⟨fun hbad=>(by simp at hbad),fun _ wr13 hx13 hs13 => ?_⟩⟩
 ·have:=of_decide_eq_true hbad
  omega
 have s13:=s12.step hx13
 have hW11:=hW10.step hx13
 have hH2:=hH.step hx13
 refine Calls.mono (k_toW hrd s13 hs13 sm) ?_
 rintro e7 wv7 ⟨mZ,he7,hZ,hy7⟩
 refine ⟨_,_,_,_,_,_,_,_,_,_,he7,kept_of hy7 hs13,fun wr14 hx14 hs14 => ?_⟩
 have s14:=(s13.call0 hy7).step hx14
 have hW12:=(hW11.call0 hy7).step hx14
 have hH3:=(hH2.call0 hy7).step hx14
 refine Calls.mono (k_impl_TaskFork (g:=g) (n:=n) (x:=x) (hZ.step hx14).rd0 hl (hg.ext s14.ext)) ?_
 rintro e8 wv8 ⟨v,he8,nI,mI,hv,hI0,hy8⟩
 subst hv
 rw [hr] at he8 hI0
 have s15:=s14.call0 hy8
 have hW13:=hW12.call0 hy8
 have hH4:=hH3.call0 hy8
 have hI:=OW.of hI0 hs14
 refine ⟨_,_,_,_,_,_,_,_,_,_,_,_,he8,kept_of hy8 hs14,fun b4 hb4=>⟨true,eqWW hI.rd hW13.rd smr,fun hbad=>(by simp at hbad),fun _=>⟨_,k_heldWorld hH4.rd smr,fun hbad => ?_,fun _=>⟨fun hbad=>(by simp at hbad),fun _ wr18 hx18=>⟨rfl,(s15.step hx18).ext⟩⟩⟩⟩⟩
 have:=of_decide_eq_true hbad
 omega
end Go.Proofs.YthhmnlcimojhlaaGreatDoor
