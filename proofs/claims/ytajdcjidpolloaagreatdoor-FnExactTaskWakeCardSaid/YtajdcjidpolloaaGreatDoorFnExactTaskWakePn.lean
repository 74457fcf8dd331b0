/- Part 14 of what the law FnExactTaskWake needs: the engine, the functions' propositions, the contracts. -/
import Derived.Test.YtajdcjidpolloaaGreatDoorFnExactTaskWakePm
import Derived.Test.YtajdcjidpolloaaGreatDoorRows
import Derived.ChangeSame
import Derived.ChangeVars
import Derived.JoinedOf
import Derived.LaidLaws
import Derived.LaidHandle
import Derived.Stop.Joined
namespace Go.Proofs.YtajdcjidpolloaaGreatDoor
open Go.ChangeShapes Go.WideShapes Go.RowKit
set_option linter.unusedVariables false
set_option linter.unusedSimpArgs false
set_option maxRecDepth 100000
abbrev laidE : List (String × DataW Unit) := [("errors.errorType", Rows.laid_errors_errorType)]
theorem door_et : Tryz.prog.globalNamed "errors.errorType" = some 0 := by kernel_rfl
theorem door_rt : (Tryz.prog.cutTypes.find? (·.1 == "internal/reflectlite.rtype")).map (·.2) = some 189 := by kernel_rfl
theorem door_size:Tryz.prog.types.size=261:=by kernel_rfl
theorem door_oneRow:((List.range 261).filter fun t=>Tryz.prog.rowNamed t [101,114,114,111,114])=[60]:=by kernel_rfl
theorem door_handle:typeHandle Tryz.prog 60 = .pointer (some ⟨1,60,none⟩):=by kernel_rfl
theorem glob_of_laid {W:World} (h:laidMetH Tryz.prog laidE W):GlobE W:=by
 have h':laidMet Tryz.prog [] W∧handlesMet Tryz.prog laidE W:=h
 obtain ⟨name,u,ty,e1,e2,e3,e4,e5⟩:=h'.2 _ (List.mem_singleton.2 rfl)
 have en:name=[101,114,114,111,114]:=(Option.some.inj e1).symm
 subst en
 obtain rfl:=Option.some.inj (door_rt.symm.trans e2)
 have hm:ty∈(List.range 261).filter fun t=>Tryz.prog.rowNamed t [101,114,114,111,114]:=List.mem_filter.2 ⟨List.mem_range.2 (by rw [←door_size]; exact e3),e4⟩
 rw [door_oneRow] at hm
 obtain rfl:=List.mem_singleton.1 hm
 rw [door_handle] at e5
 unfold GlobE
 simpa using World.var?_cell door_et e5 0
noncomputable def laidWorld (os:Os):World :=
 let w0:=World.holding Tryz.prog os ⟨#[],#[],[]⟩
 { w0 with heap:=w0.heap.modify 0 fun
   | .cells _ t frozen=>.cells #[.iface 189 (.agg #[.pointer (some ⟨1,60,none⟩)])] t frozen
   | o=>o }
theorem laidWorld_met (os:Os) (args:Array Value):laidMetH Tryz.prog laidE ((laidWorld os).forCall (fun _ _=>0) ⟨#[],args,[]⟩).memory :=
 laidMetH_of_parts (laidMet_nil _ _) (by kernel_rfl)
end Go.Proofs.YtajdcjidpolloaaGreatDoor
namespace Go.Proofs.YtajdcjidpolloaaGreatDoor
open Go.RowKit
set_option linter.unusedVariables false
set_option linter.unusedSimpArgs false
set_option maxRecDepth 10000
def IterY (P:Program) (gf:FuncId) (lb:Array Value) (N:Nat) (vals:Nat→List Value) (I:Nat→World→Prop) (w:World):Prop :=
 ∀(l:Nat) (J:Nat→World→Prop) (Jx:Unit→World→Prop) (W:World),ExtX [] w W→(∀k W1,J k W1→I k W1)→AbX W.heap.size J→AbX W.heap.size Jx →
  (∀k W1,k<N→J k W1→CallF P (.func (.yield l) #[] #[]) (vals k) W1 fun e W2=>(∃X,ExtX X W1 W2∧∀x∈X,x<W.heap.size)∧((e = .returned (.bool true)∧J (k+1) W2)∨(e = .returned (.bool false)∧Jx () W2))) →
  J 0 W→Calls P gf (#[.func (.yield l) #[] #[]]++lb) W fun e W2=>(∃v,e = .returned v)∧(J N W2∨Jx () W2)
theorem rangeY {P:Program} {g:Operand} {ps:Array Tmp} {asg body:Code} {Q:Exit→Act→World→Prop} {a:Act} {w:World} {gf:FuncId} {lb:Array Value} (hg:a.eval g = .func (.func gf) #[] lb) (eg:∀args w,(callFunc gf args).run P w = .ok (.enter gf args) w)
  (I:Nat→World→Prop) (Ix:Code→World→Prop) (N:Nat) (vals:Nat→List Value) (hI:AbX w.heap.size I) (hIx:AbX w.heap.size Ix) (h0:I 0 w) (hps:∀k,(vals k).length=ps.size)
  (hit:IterY P gf lb N vals I w)
  (hround:∀l k W,k<N→I k W→w.heap.size≤l→asg.wpIn (fnc (some l)) 0 P (Exit.then (fun a1 W1=>(∃X,ExtX X W W1∧∀x∈X,x<w.heap.size)∧∀W2,ExtX [l] W1 W2→body.wpIn (fnc (some l)) 0 P (roundX w.heap.size I Ix k W2) a1 W2) (fun _ _ _=>False))
   { tmps:=(ps.zip (vals k).toArray).foldl (fun t (p,v)=>t.setIfInBounds p v) a.tmps,defers:=[] } W)
  (hdone:∀D W,w.heap.size≤D→I N W→W.heap[D]? = some (.deferred (some []))→Q .normal { a with defers:=markOf D::a.defers } W)
  (hstop:∀D c W,w.heap.size≤D→Ix c W→W.heap[D]? = some (.deferred (some []))→c.wpIn (fnc none) 0 P Q { a with defers:=markOf D::a.defers } W) :
  (Code.rangeFunc g ps asg body).wpIn (fnc none) 0 P Q a w:=by
 refine wpIn_rangeFunc fun fn _ => ?_
 obtain ⟨rec,hrec⟩:∃rec:LoopState→Option Code→Loop,rec=fun st pe=>{ state:=st,pending:=pe,fn,tmps:=a.tmps,params:=ps,assign:=asg,body,defers:=w.heap.size }:=⟨_,rfl⟩
 obtain ⟨W1,hW1⟩:∃W1,(w.alloc (.deferred (some []))).alloc (.loop (rec .ready none))=W1:=⟨_,rfl⟩
 have hL1:W1.heap[w.heap.size+1]? = some (.loop (rec .ready none)):=by
  have:=World.alloc_heap_new (w.alloc (.deferred (some []))) (.loop (rec .ready none))
  rw [World.size_alloc] at this
  rw [←hW1]; exact this
 have hD1:W1.heap[w.heap.size]? = some (.deferred (some [])):=by
  rw [←hW1]; exact (Below.heap_alloc _ _ _ (by simp)).trans (World.alloc_heap_new w _)
 have hX1:ExtX [] w W1:=by rw [←hW1]; exact ((ExtX.refl [] w).alloc _).alloc _
 have hsz:W1.heap.size=w.heap.size+2:=by rw [←hW1]; simp
 refine ⟨w.heap.size+1,[markOf w.heap.size],W1,{ target:=.fn (.func gf) lb,args := #[.func (.yield (w.heap.size+1)) #[] #[]] },W1,gf,#[.func (.yield (w.heap.size+1)) #[] #[]]++lb,W1,?_,?_,fun _ _=>trivial,?_,fun hx=>(by simp [fnc,Fence.wide] at hx),fnc_calls ?_⟩
 ·rw [←hW1,hrec]; exact run_enterLoop_outer _ _ _ _ _
 ·simp only [resolve,hg]
  simp [go_sem]
 ·simp [invoke,eg]
 have keep:∀{W W':World} {ys:List Nat} {x:Nat} {o:Obj},W.heap[x]? = some o→ExtX ys W W'→x∉ys→W'.heap[x]? = some o:=fun {W W' ys x o} h hx hn=>(hx.block x (Array.getElem?_eq_some_iff.1 h).1 hn).trans h
 refine (hit (w.heap.size+1)
  (fun k W=>I k W∧W.heap[w.heap.size+1]? = some (.loop (rec .ready none))∧W.heap[w.heap.size]? = some (.deferred (some [])))
  (fun _ W=>∃c,Ix c W∧W.heap[w.heap.size+1]? = some (.loop (rec .done (some c)))∧W.heap[w.heap.size]? = some (.deferred (some [])))
  W1 hX1 (fun k W h=>h.1)
  (fun k W W' ys h hx hy=>⟨hI k W W' ys h.1 hx fun y hm=>by have:=hy y hm; omega,keep h.2.1 hx fun hm=>by have:=hy _ hm; omega,keep h.2.2 hx fun hm=>by have:=hy _ hm; omega⟩)
  (fun k W W' ys h hx hy=>by
   obtain ⟨c,h1,h2,h3⟩:=h
   exact ⟨c,hIx c W W' ys h1 hx fun y hm=>by have:=hy y hm; omega,keep h2 hx fun hm=>by have:=hy _ hm; omega,keep h3 hx fun hm=>by have:=hy _ hm; omega⟩)
  ?_ ⟨hI 0 _ _ [] h0 hX1 (by simp),hL1,hD1⟩).mono ?_
 ·rintro k W hk ⟨hi,hl,hd⟩
  have hy:=run_yield (P:=P) (args:=(vals k).toArray) hl (by rw [hrec]; simpa using hps k)
  rw [←callV_yield] at hy
  rw [hrec] at hy
  refine .inr ⟨w.heap.size+1,fn,_,asg,body,hy,?_⟩
  have hr:=roundIn_of_wpIn (F:=fnc none) (n:=0) (P:=P) (l:=w.heap.size+1) (f:=fn) (assign:=asg) (body:=body) (w:=W) (R:=fun e W2=>(∃X,ExtX X W W2∧∀x∈X,x<W1.heap.size)∧((e = .returned (.bool true)∧I (k+1) W2∧W2.heap[w.heap.size+1]? = some (.loop (rec .ready none))∧W2.heap[w.heap.size]? = some (.deferred (some [])))∨(e = .returned (.bool false)∧∃c,Ix c W2∧W2.heap[w.heap.size+1]? = some (.loop (rec .done (some c)))∧W2.heap[w.heap.size]? = some (.deferred (some []))))) trivial
   (wpIn_mono (hround (w.heap.size+1) k W hk hi (by omega)) fun e a1 W1' hq => ?_)
  ·exact ⟨trivial,fun c cs _=>hr.2 c cs (fnc_room _ _)⟩
  ·cases e with
   | normal =>
    obtain ⟨⟨X,hX,hXl⟩,hb⟩:=hq
    have hl1:=keep hl hX fun hm=>by have:=hXl _ hm; omega
    have hd1:=keep hd hX fun hm=>by have:=hXl _ hm; omega
    refine ⟨_,run_beginRound hl1 (by rw [hrec]),?_⟩
    have hl2:(W1'.putObj (w.heap.size+1) (.loop { rec .ready none with state:=.busy })).heap[w.heap.size+1]? = some (.loop { rec .ready none with state:=.busy }):=World.putObj_heap_same (Array.getElem?_eq_some_iff.1 hl1).1
    have hd2:=keep hd1 (ext_putObj W1' (w.heap.size+1) (.loop { rec .ready none with state:=.busy })) (by simp)
    refine wpIn_mono (hb _ (ext_putObj _ _ _)) fun e2 a2 W3 hr => ?_
    obtain ⟨⟨X2,hX2,hXl2⟩,hm⟩:=hr
    have hl3:=keep hl2 hX2 fun hm=>by have:=hXl2 _ hm; omega
    have hd3:=keep hd2 hX2 fun hm=>by have:=hXl2 _ hm; omega
    have fin:∀(jump:Option Code),(Instr.endRound (w.heap.size+1) jump).run P W3 = .ok (.bool jump.isNone) (W3.putObj (w.heap.size+1) (.loop (rec (if jump.isNone then .ready else .done) jump))) ∧
      (W3.putObj (w.heap.size+1) (.loop (rec (if jump.isNone then .ready else .done) jump))).heap[w.heap.size+1]? = some (.loop (rec (if jump.isNone then .ready else .done) jump)) ∧
      (W3.putObj (w.heap.size+1) (.loop (rec (if jump.isNone then .ready else .done) jump))).heap[w.heap.size]? = some (.deferred (some [])):=fun jump=>by
     have:=run_endRound (P:=P) jump hl3
     rw [hrec] at this ⊢
     exact ⟨this,World.putObj_heap_same (Array.getElem?_eq_some_iff.1 hl3).1,keep hd3 (ext_putObj _ _ _) (by simp)⟩
    have hall:∀o,∃X,ExtX X W (W3.putObj (w.heap.size+1) o)∧∀x∈X,x<W1.heap.size:=fun o=>by
     have m1:ExtX (X++[w.heap.size+1]++X2) W W1':=hX.mono fun x hm=>by simp [hm]
     have m2:ExtX (X++[w.heap.size+1]++X2) W1' (W1'.putObj (w.heap.size+1) (.loop { rec .ready none with state:=.busy })):=(ext_putObj _ _ _).mono fun x hm=>by
      have:x=w.heap.size+1:=by simpa using hm
      simp [this]
     have m3:ExtX (X++[w.heap.size+1]++X2) _ W3:=hX2.mono fun x hm=>by simp [hm]
     have m4:ExtX (X++[w.heap.size+1]++X2) W3 (W3.putObj (w.heap.size+1) o):=(ext_putObj _ _ _).mono fun x hm=>by
      have:x=w.heap.size+1:=by simpa using hm
      simp [this]
     refine ⟨_,((m1.trans m2).trans m3).trans m4,fun x hm => ?_⟩
     simp only [List.mem_append,List.mem_singleton] at hm
     rcases hm with (hm | hm) | hm
     ·have:=hXl x hm; omega
     ·omega
     ·have:=hXl2 x hm; omega
    cases e2 with
    | normal =>
     obtain ⟨f1,f2,f3⟩:=fin none
     exact ⟨_,_,f1,hall _,.inl ⟨rfl,hI _ _ _ [w.heap.size+1] hm (ext_putObj _ _ _) (by simp),f2,f3⟩⟩
    | ret =>
     obtain ⟨f1,f2,f3⟩:=fin (some .ret)
     exact ⟨_,_,f1,hall _,.inr ⟨rfl,.ret,hIx _ _ _ [w.heap.size+1] hm (ext_putObj _ _ _) (by simp),f2,f3⟩⟩
    | exit i =>
     obtain ⟨f1,f2,f3⟩:=fin (some (.exit i))
     exact ⟨_,_,f1,hall _,.inr ⟨rfl,.exit i,hIx _ _ _ [w.heap.size+1] hm (ext_putObj _ _ _) (by simp),f2,f3⟩⟩
    | goto t =>
     obtain ⟨f1,f2,f3⟩:=fin (some (.goto t))
     exact ⟨_,_,f1,hall _,.inr ⟨rfl,.goto t,hIx _ _ _ [w.heap.size+1] hm (ext_putObj _ _ _) (by simp),f2,f3⟩⟩
    | panic ch=>exact hm.elim
    | outgrown=>exact hm.elim
   | _=>exact hq.elim
 ·rintro e W2 ⟨⟨v,rfl⟩,(⟨hi,hl,hd⟩ | ⟨c,hi,hl,hd⟩)⟩
  ·have:=run_endLoop (P:=P) hl (by rw [hrec]; simp)
   rw [hrec] at this
   exact ⟨none,_,this,hdone _ _ (Nat.le_refl _) (hI _ _ _ [w.heap.size+1] hi (ext_putObj _ _ _) (by simp)) (keep hd (ext_putObj _ _ _) (by simp))⟩
  ·have:=run_endLoop (P:=P) hl (by rw [hrec]; simp)
   rw [hrec] at this
   exact ⟨some c,_,this,hstop _ c _ (Nat.le_refl _) (hIx _ _ _ [w.heap.size+1] hi (ext_putObj _ _ _) (by simp)) (keep hd (ext_putObj _ _ _) (by simp))⟩
end Go.Proofs.YtajdcjidpolloaaGreatDoor
namespace Go.Proofs.YtajdcjidpolloaaGreatDoor
open Go.RowKit
set_option linter.unusedVariables false
set_option linter.unusedSimpArgs false
set_option maxRecDepth 10000
def msL (m:Int) (k:Nat):List Int:=((List.range k).filter fun (i:Nat)=>mHas m (i:Int)).map fun (i:Nat)=>(i:Int)
theorem msL_step {m:Int} {k:Nat} (h:mHas m (k:Int)=true):msL m (k+1)=msL m k++[(k:Int)]:=by
 unfold msL
 rw [List.range_succ,List.filter_append]; simp [h]
theorem msL_skip {m:Int} {k:Nat} (h:mHas m (k:Int)=false):msL m (k+1)=msL m k:=by
 unfold msL
 rw [List.range_succ,List.filter_append]; simp [h]
theorem msL_pre (m:Int) (k j:Nat):∃r,msL m (k+j)=msL m k++r:=by
 induction j with
 | zero=>exact ⟨[],by simp⟩
 | succ j ih =>
  obtain ⟨r,hr⟩:=ih
  rw [show k+(j+1)=(k+j)+1 from rfl]
  cases h:mHas m ((k+j:Nat):Int) with
  | true=>rw [msL_step h,hr]; exact ⟨r++[((k+j:Nat):Int)],by simp⟩
  | false=>rw [msL_skip h,hr]; exact ⟨r,rfl⟩
theorem gi_app_len {α:Type} [Inhabited α] (l r:List α) (x:α):gi (l++(x::r)) (l.length:Int)=x:=by
 unfold gi
 simp
theorem msL_at {m:Int} {k:Nat} (hk:k<4) (h:mHas m (k:Int)=true):(msL m k).length<(msL m 4).length∧gi (msL m 4) ((msL m k).length:Int)=(k:Int):=by
 obtain ⟨r,hr⟩:=msL_pre m (k+1) (4 - (k+1))
 rw [show k+1+(4 - (k+1))=4 by omega,msL_step h,List.append_assoc] at hr
 rw [hr]
 exact ⟨by simp,gi_app_len _ _ _⟩
theorem it_members {m:Int} {bm:Nat} {I:Nat→World→Prop} {w:World} (hI:∀k W1,I k W1→CellsX [] W1 (some ⟨bm,0,none⟩) 0 [.int .i64 m]) :
  IterY Tryz.prog fn_impl_cpuSet_members_1 #[.pointer (some ⟨bm,0,none⟩)] (msL m 4).length (fun k=>[.int .i64 (gi (msL m 4) (k:Int))]) I w:=by
 intro l J Jx W hx hJI hAJ hAx hY h0
 refine (e_impl_cpuSet_members_1 (.yield l) #[] #[] (some ⟨bm,0,none⟩) (R:=fun v w'=>J (msL m 4).length w'∨Jx () w') ?_).mono fun e w' ⟨v,he,hr⟩=>⟨⟨v,he⟩,hr⟩
 refine loop1w 4 0 rfl (fun k w1=>k≤4∧J (msL m k).length w1) (fun w1 hx1 _=>⟨Nat.zero_le _,hAJ 0 _ _ [] h0 hx1 (by simp)⟩) fun k w1 _ ⟨hk,hJ⟩=>⟨fun hlt => ?_,fun hge wr hx2=>.inl ?_⟩
 ·have hlt:=of_decide_eq_true hlt
  have hk4:k<4:=by omega
  refine ⟨m,hI _ _ (hJI _ _ hJ),mHas m (k:Int),k_impl_has,fun h wr1 hx1 _ => ?_,fun h=>⟨fun g=>(by cases g),fun _=>⟨⟨by omega,by omega⟩,fun wr5 hx5 _=>loop1w_next hk4 ⟨by omega,?_⟩⟩⟩⟩
  ·obtain ⟨hl,hg⟩:=msL_at hk4 h
   have hc:=hY (msL m k).length wr1 hl (hAJ _ _ _ [] hJ hx1 (by simp))
   dsimp only at hc
   rw [hg] at hc
   refine hc.mono fun e w2 ⟨_,hr⟩ => ?_
   rcases hr with ⟨he,hJ2⟩ | ⟨he,hJx⟩
   ·refine ⟨true,he,kept_nil,fun g=>(by rw [h] at g; cases g),fun _=>⟨⟨by omega,by omega⟩,fun wr3 hx3 _=>loop1w_next hk4 ⟨by omega,?_⟩⟩⟩
    rw [msL_step h,List.length_append]
    exact hAJ _ _ _ [] hJ2 hx3 (by simp)
   ·exact ⟨false,he,kept_nil,fun _ wr2 hx2=>.inr (hAx _ _ _ [] hJx hx2 (by simp)),fun g=>(by rw [h] at g; cases g)⟩
  ·have h:mHas m (k:Int)=false:=by simpa using h
   rw [msL_skip h]
   exact hAJ _ _ _ [] hJ hx5 (by simp)
 ·have hge:=of_decide_eq_false hge
  have:k=4:=by omega
  subst this
  exact hAJ _ _ _ [] hJ hx2 (by simp)
theorem k_members {m:Int} {w:World}:Calls Tryz.prog fn_impl_cpuSet_members #[.int .i64 m] w fun e w'=>∃b:Nat,w.heap.size≤b∧e = .returned (.func (.func fn_impl_cpuSet_members_1) #[] #[.pointer (some ⟨b,0,none⟩)])∧CellsX [] w' (some ⟨b,0,none⟩) 0 [.int .i64 m]∧ExtX [] w w':=by
 refine (e_impl_cpuSet_members m (R:=fun v w'=>∃b:Nat,w.heap.size≤b∧v = .func (.func fn_impl_cpuSet_members_1) #[] #[.pointer (some ⟨b,0,none⟩)]∧CellsX [] w' (some ⟨b,0,none⟩) 0 [.int .i64 m]∧ExtX [] w w') ?_).mono fun e w' ⟨v,he,b,hb,hv,h1⟩=>⟨b,hb,by rw [he,hv],h1⟩
 intro b wb hx hb hcell _ wr hx2
 refine ⟨b,hb,rfl,?_,hx.trans hx2⟩
 have hc:=blk_ext hcell hx2 (by simp)
 exact cellsX_one ⟨⟨b,0,none⟩,rfl,by simp,by rw [Addr.add_lit,Nat.add_zero,cell_blk hc]; rfl⟩
def bestN (lt:Int→Int→Bool) (xs:List Int):Nat→Int×Bool
 | 0=>(0,false)
 | k+1=>if (!(bestN lt xs k).2||lt (gi xs (k:Int)) (bestN lt xs k).1)=true then (gi xs (k:Int),true) else bestN lt xs k
theorem bestN_mem {lt:Int→Int→Bool} {xs:List Int}:∀k:Nat,(bestN lt xs k).2=true→∃j:Nat,j<k∧(bestN lt xs k).1=gi xs (j:Int)
 | 0,h=>by cases h
 | k+1,h=>by
  simp only [bestN] at h ⊢
  split
  ·exact ⟨k,by omega,rfl⟩
  ·rename_i hn
   rw [if_neg hn] at h
   obtain ⟨j,hj,he⟩:=bestN_mem k h
   exact ⟨j,by omega,he⟩
theorem best_shape:bodyOf Tryz.f136=seqs t_impl_best_int_pre (.seq (.seq t_impl_best_int_mid (.block 0 (.rangeFunc (.tmp 9) #[10] t_impl_best_int_asg t_impl_best_int_body))) t_impl_best_int_post):=by kernel_rfl
structure BestB (b b1 b2:Nat) (bef:Value) (st:Int×Bool) (W:World):Prop where
 c0:∃t,W.heap[b]? = some (.cells ([bef]:List Value).toArray t (0,0))
 c1:∃t,W.heap[b1]? = some (.cells ([.int .i64 st.1]:List Value).toArray t (0,0))
 c2:∃t,W.heap[b2]? = some (.cells ([.bool st.2]:List Value).toArray t (0,0))
theorem BestB.ext {b b1 b2:Nat} {bef:Value} {st:Int×Bool} {W W':World} {ys:List Nat} (h:BestB b b1 b2 bef st W) (hx:ExtX ys W W') (h0:b∉ys) (h1:b1∉ys) (h2:b2∉ys):BestB b b1 b2 bef st W' :=
 ⟨h.c0.imp fun _ h=>blk_ext h hx h0,h.c1.imp fun _ h=>blk_ext h hx h1,h.c2.imp fun _ h=>blk_ext h hx h2⟩
theorem box_cell {W:World} {b:Nat} {v:Value} (h:∃t,W.heap[b]? = some (.cells ([v]:List Value).toArray t (0,0))):CellsX [] W (some ⟨b,0,none⟩) 0 [v]:=by
 obtain ⟨t,h⟩:=h
 exact cellsX_one ⟨⟨b,0,none⟩,rfl,by simp,by rw [Addr.add_lit,Nat.add_zero,cell_blk h]; rfl⟩
theorem getD_set_same {a:Array Value} {i:Nat} {v:Value} (h:i<a.size):(a.setIfInBounds i v).getD i undef=v:=by
 rw [Array.getD_eq_getD_getElem?,Array.getElem?_setIfInBounds_self_of_lt h]; rfl
theorem getD_set_other {a:Array Value} {i j:Nat} {v:Value} (h:i≠j):(a.setIfInBounds i v).getD j undef=a.getD j undef:=by
 rw [Array.getD_eq_getD_getElem?,Array.getD_eq_getD_getElem?,Array.getElem?_setIfInBounds_ne h]
theorem calls_marks2 {P:Program} {f:FuncId} {fn:Func} {body:Code} {n:Nat} {args:List Value} {w:World} {R:Ending→World→Prop} (hf:P.funcs[f]? = some fn) (hb:fn.body=some body) (hn:fn.ntmps=n) (hl:args.length≤n)
  (h:∀a:Act,a.tmps.size=n→(∀(i:Nat) v,args[i]? = some v→a.tmps.getD i undef=v)→a.defers=[]→body.wpIn (fnc none) 0 P (bodyPostM (fnc none) 0 P fn R) a w):Calls P f args.toArray w R:=by
 refine calls_marks hf hb (h _ ?_ ?_ rfl)
 ·simp [hn]; omega
 ·intro i v hv
  rw [Array.getD_eq_getD_getElem?,Array.getElem?_append_left (by simpa using (List.getElem?_eq_some_iff.1 hv).1)]
  simp [hv]
theorem sto_size {w:World} {o:Option Addr} {n:Nat} {vs:List Value}:(sto w o n vs).heap.size=w.heap.size:=by
 cases o with
 | none=>rfl
 | some a=>exact stoL_size vs w a n
theorem fold_one {i:Tmp} {v:Value} {t:Array Value}:((#[i].zip [v].toArray).foldl (fun (t:Array Value) (p,v)=>t.setIfInBounds p v) t)=t.setIfInBounds i v:=by simp
theorem k_best {gf:FuncId} {lb:Array Value} {bF:Fn} {bA bK:Array Value} {xs:List Int} {lt:Int→Int→Bool} {w:World} (eg:∀args w,(callFunc gf args).run Tryz.prog w = .ok (.enter gf args) w)
  (hit:∀(I:Nat→World→Prop) (W:World),ExtX [] w W→(∀k W1,I k W1→ExtX [] w W1)→IterY Tryz.prog gf lb xs.length (fun k=>[.int .i64 (gi xs (k:Int))]) I W)
  (hb:∀i j:Nat,i<xs.length→j<xs.length→∀W1,ExtX [] w W1→CallF Tryz.prog (.func bF bA bK) [.int .i64 (gi xs (i:Int)),.int .i64 (gi xs (j:Int))] W1 fun e W2=>e = .returned (.bool (lt (gi xs (i:Int)) (gi xs (j:Int))))∧ExtX [] W1 W2) :
  Calls Tryz.prog fn_impl_best_int #[.func (.func gf) #[] lb,.func bF bA bK] w fun e w'=>e = .returned (.tuple #[.int .i64 (bestN lt xs xs.length).1,.bool (bestN lt xs xs.length).2])∧ExtX [] w w':=by
 refine calls_marks2 (args:=[.func (.func gf) #[] lb,.func bF bA bK]) (n:=22) Tryz.func136 (body:=bodyOf Tryz.f136) rfl (by kernel_rfl) (by simp) fun a hn ha hd => ?_
 rw [best_shape]
 have a0:=ha 0 _ rfl
 have a1:=ha 1 _ rfl
 refine g_impl_best_int_pre none bF bA bK (R:=fun e vs w1=>e = .normal∧∃b b1 b2:Nat,vs=[.pointer (some ⟨b,0,none⟩),.pointer (some ⟨b1,0,none⟩),.pointer (some ⟨b2,0,none⟩)]∧b<b1∧b1<b2∧w.heap.size≤b∧b2<w1.heap.size∧BestB b b1 b2 (.func bF bA bK) (0,false) w1∧ExtX [] w w1) hn ?_ ?_ ?_ (fun e vs a1 w1 hne hR _=>absurd hR.1 hne)
 ·intro p hp
  simp only [List.mem_cons,List.not_mem_nil,or_false] at hp
  subst hp
  exact ⟨Nat.le_of_ble_eq_true rfl,a1⟩
 ·intro b wb hx hb0 hcell _ b1 wb1 hx1 hb1 hcell1 _ b2 wb2 hx2 hb2 hcell2 _
  have l0:=blk_lt hcell
  have l1:=blk_lt hcell1
  have l2:=blk_lt hcell2
  have s1:=hx1.size
  have s2:=hx2.size
  refine ⟨wrX_blk (k0:=0) hcell2 (by simp) (by simp),fun wr hx3 => ?_⟩
  have hs:ExtX [b2] wb2 (sto wb2 (some ⟨b2,0,none⟩) 0 [.bool false]):=sto_ext (bs:=[b2]) (by simp)
  have s3:=hx3.size
  rw [sto_size] at s3
  refine ⟨rfl,b,b1,b2,rfl,by omega,by omega,hb0,by omega,⟨⟨_,blk_ext (blk_ext (blk_ext (blk_ext hcell hx1 (by simp)) hx2 (by simp)) hs (by simp; omega)) hx3 (by simp)⟩,⟨_,blk_ext (blk_ext (blk_ext hcell1 hx2 (by simp)) hs (by simp; omega)) hx3 (by simp)⟩,⟨_,blk_ext (sto_blk hcell2) hx3 (by simp)⟩⟩,?_⟩
  exact (((hx.trans hx1).trans hx2).fresh hs fun x hm=>.inl (by
   have:x=b2:=by simpa using hm
   have:=hx.size
   omega)).trans hx3
 rintro vs a2 w1 ⟨_,b,b1,b2,rfl,h01,h12,hwb,hb2,hB,hX⟩ fo
 obtain ⟨o3,o6,o7⟩:a2.tmps.getD 3 undef = .pointer (some ⟨b,0,none⟩)∧a2.tmps.getD 6 undef = .pointer (some ⟨b1,0,none⟩)∧a2.tmps.getD 7 undef = .pointer (some ⟨b2,0,none⟩):=by
  have:=fo.out
  simp only [List.map_cons,List.map_nil,List.cons.injEq,and_true] at this
  exact this
 have o0:a2.tmps.getD 0 undef = .func (.func gf) #[] lb:=(fo.kept 0 (by decide +kernel)).trans a0
 refine wpIn_seq (wpIn_seq (g_impl_best_int_mid none (.func gf) #[] lb (R:=fun e vs w2=>e = .normal∧vs=[.func (.func gf) #[] lb]∧ExtX [] w1 w2) (by rw [fo.size,hn]) (fun p hp => ?_) (fun wr hx=>⟨rfl,rfl,hx⟩) fun e vs a3 w2 hR fo3 => ?_))
 ·simp only [List.mem_cons,List.not_mem_nil,or_false] at hp
  subst hp
  exact ⟨Nat.le_of_ble_eq_true rfl,o0⟩
 obtain ⟨rfl,rfl,hx2⟩:=hR
 have p9:a3.tmps.getD 9 undef = .func (.func gf) #[] lb:=by
  have:=fo3.out
  simpa using this
 have p3:=(fo3.kept 3 (by decide +kernel)).trans o3
 have p6:=(fo3.kept 6 (by decide +kernel)).trans o6
 have p7:=(fo3.kept 7 (by decide +kernel)).trans o7
 have hsz3:a3.tmps.size=22:=by rw [fo3.size,fo.size,hn]
 have hd3:a3.defers=[]:=by rw [fo3.defers,fo.defers,hd]
 have hX2:=hX.trans hx2
 have hB2:=hB.ext hx2 (by simp) (by simp) (by simp)
 have hlt2:b2<w2.heap.size:=Nat.lt_of_lt_of_le hb2 hx2.size
 refine wpIn_block (rangeY (lb:=lb) (gf:=gf) p9 eg (fun k W=>BestB b b1 b2 (.func bF bA bK) (bestN lt xs k) W∧ExtX [] w W) (fun _ _=>False) xs.length (fun k=>[.int .i64 (gi xs (k:Int))]) (fun k W W' ys h hx hy=>⟨h.1.ext hx (fun hm=>by have:=hy _ hm; omega) (fun hm=>by have:=hy _ hm; omega) (fun hm=>by have:=hy _ hm; omega),h.2.fresh hx fun x hm=>.inl (by have:=hy x hm; have:=hX2.size; omega)⟩) (fun k W W' ys h _ _=>h) ⟨hB2,hX2⟩ (fun k=>rfl) (hit _ w2 hX2 fun k W1 h=>h.2) ?_ ?_ (fun D c W _ h _=>h.elim))
 ·intro l k W hk ⟨hBk,hXk⟩ hl
  rw [fold_one]
  refine g_impl_best_int_asg (some l) (gi xs (k:Int)) (R:=fun e vs W1=>e = .normal∧vs=[.int .i64 (gi xs (k:Int))]∧ExtX [] W W1) ?_ (fun p hp => ?_) (fun wr hx=>⟨rfl,rfl,hx⟩) fun e vs a4 W1 hR fo4 => ?_
  ·simpa using hsz3
  ·simp only [List.mem_cons,List.not_mem_nil,or_false] at hp
   subst hp
   exact ⟨Nat.le_of_ble_eq_true rfl,getD_set_same (i:=10) (by rw [hsz3]; decide)⟩
  obtain ⟨rfl,rfl,hx4⟩:=hR
  have q8:a4.tmps.getD 8 undef = .int .i64 (gi xs (k:Int)):=by
   have:=fo4.out
   simpa using this
  have q3:a4.tmps.getD 3 undef = .pointer (some ⟨b,0,none⟩):=((fo4.kept 3 (by decide +kernel)).trans (getD_set_other (i:=10) (j:=3) (by decide))).trans p3
  have q6:a4.tmps.getD 6 undef = .pointer (some ⟨b1,0,none⟩):=((fo4.kept 6 (by decide +kernel)).trans (getD_set_other (i:=10) (j:=6) (by decide))).trans p6
  have q7:a4.tmps.getD 7 undef = .pointer (some ⟨b2,0,none⟩):=((fo4.kept 7 (by decide +kernel)).trans (getD_set_other (i:=10) (j:=7) (by decide))).trans p7
  refine ⟨⟨[],hx4,by simp⟩,fun W2 hx5 => ?_⟩
  have hB5:=(hBk.ext hx4 (by simp) (by simp) (by simp)).ext hx5 (by simp; omega) (by simp; omega) (by simp; omega)
  have hX5:ExtX [] w W2:=(hXk.trans hx4).fresh hx5 fun x hm=>.inl (by
   have:x=l:=by simpa using hm
   have:=hX2.size
   omega)
  have fin:∀(W3:World),ExtX [] W2 W3→∀wr,ExtX [] (sto (sto W3 (some ⟨b1,0,none⟩) 0 [.int .i64 (gi xs (k:Int))]) (some ⟨b2,0,none⟩) 0 [.bool true]) wr→(∃X,ExtX X W2 wr∧∀x∈X,x<w2.heap.size)∧BestB b b1 b2 (.func bF bA bK) (gi xs (k:Int),true) wr∧ExtX [] w wr:=fun W3 hx6 wr hx7=>by
   have hB6:=hB5.ext hx6 (by simp) (by simp) (by simp)
   obtain ⟨t1,c1⟩:=hB6.c1
   obtain ⟨t2,c2⟩:=hB6.c2
   have e1:ExtX [b1] W3 (sto W3 (some ⟨b1,0,none⟩) 0 [.int .i64 (gi xs (k:Int))]):=sto_ext (bs:=[b1]) (by simp)
   have e2:ExtX [b2] (sto W3 (some ⟨b1,0,none⟩) 0 [.int .i64 (gi xs (k:Int))]) (sto (sto W3 (some ⟨b1,0,none⟩) 0 [.int .i64 (gi xs (k:Int))]) (some ⟨b2,0,none⟩) 0 [.bool true]):=sto_ext (bs:=[b2]) (by simp)
   have eX:ExtX [b1,b2] W2 wr:=((hx6.of_nil.trans (e1.mono (by simp))).trans (e2.mono (by simp))).trans hx7.of_nil
   have d1:=blk_ext (blk_ext (sto_blk (vs:=[.int .i64 (gi xs (k:Int))]) (n:=0) c1) e2 (by simp; omega)) hx7 (by simp)
   have d2:=blk_ext (sto_blk (vs:=[.bool true]) (n:=0) (blk_ext c2 e1 (by simp; omega))) hx7 (by simp)
   refine ⟨⟨[b1,b2],eX,fun x hm => ?_⟩,⟨hB5.c0.imp fun _ h=>blk_ext h eX (by simp; omega),⟨t1,d1⟩,⟨t2,d2⟩⟩,hX5.fresh eX fun x hm=>.inl ?_⟩
   ·simp only [List.mem_cons,List.not_mem_nil,or_false] at hm
    omega
   ·simp only [List.mem_cons,List.not_mem_nil,or_false] at hm
    omega
  refine g_impl_best_int_body (some l) (some ⟨b,0,none⟩) (some ⟨b1,0,none⟩) (some ⟨b2,0,none⟩) (gi xs (k:Int)) (R:=fun e _ W3=>e = .normal∧(∃X,ExtX X W2 W3∧∀x∈X,x<w2.heap.size)∧BestB b b1 b2 (.func bF bA bK) (bestN lt xs (k+1)) W3∧ExtX [] w W3) (by rw [fo4.size]; simpa using hsz3) (fun p hp => ?_) ?_ fun e vs a5 W3 hR _ => ?_
  ·simp only [List.mem_cons,List.not_mem_nil,or_false] at hp
   rcases hp with rfl | rfl | rfl | rfl
   ·exact ⟨Nat.le_of_ble_eq_true rfl,q3⟩
   ·exact ⟨Nat.le_of_ble_eq_true rfl,q6⟩
   ·exact ⟨Nat.le_of_ble_eq_true rfl,q7⟩
   ·exact ⟨Nat.le_of_ble_eq_true rfl,q8⟩
  ·refine ⟨(bestN lt xs k).2,box_cell hB5.c2,bF,bA,bK,fun _=>box_cell hB5.c0,(bestN lt xs k).1,fun _=>box_cell hB5.c1,fun hs wr hx6 _ => ?_,fun hs=>⟨fun _ => ?_,fun h=>(by cases h)⟩⟩
   ·have hs2:(bestN lt xs k).2=true:=by simpa using hs
    obtain ⟨j,hj,hje⟩:=bestN_mem k hs2
    have hc:=hb k j hk (by omega) wr (hX5.trans hx6)
    rw [←hje] at hc
    refine hc.mono fun e W3 ⟨he,hx7⟩=>⟨_,he,kept_nil,fun g => ?_,fun g wr2 hx8 => ?_⟩
    ·have hB7:=(hB5.ext hx6 (by simp) (by simp) (by simp)).ext hx7 (by simp) (by simp) (by simp)
     obtain ⟨t1,c1⟩:=hB7.c1
     obtain ⟨t2,c2⟩:=hB7.c2
     have e1:ExtX [b1] W3 (sto W3 (some ⟨b1,0,none⟩) 0 [.int .i64 (gi xs (k:Int))]):=sto_ext (bs:=[b1]) (by simp)
     refine ⟨wrX_blk (k0:=0) c1 (by simp) (by simp),wrX_blk (k0:=0) (blk_ext c2 e1 (by simp; omega)) (by simp) (by simp),fun wr1 hx9 => ?_⟩
     obtain ⟨f1,f2,f3⟩:=fin W3 (hx6.trans hx7) wr1 hx9
     refine ⟨rfl,f1,?_,f3⟩
     rw [show bestN lt xs (k+1)=(gi xs (k:Int),true) from if_pos g]
     exact f2
    ·have hx9:=(hx6.trans hx7).trans hx8
     refine ⟨rfl,⟨[],hx9,by simp⟩,?_,hX5.trans hx9⟩
     rw [show bestN lt xs (k+1)=bestN lt xs k from if_neg (by rw [g]; decide)]
     exact hB5.ext hx9 (by simp) (by simp) (by simp)
   ·have hs2:(bestN lt xs k).2=false:=by
     cases h:(bestN lt xs k).2 with
     | false=>rfl
     | true=>exact absurd (by rw [h]; rfl) hs
    obtain ⟨t1,c1⟩:=hB5.c1
    obtain ⟨t2,c2⟩:=hB5.c2
    have e1:ExtX [b1] W2 (sto W2 (some ⟨b1,0,none⟩) 0 [.int .i64 (gi xs (k:Int))]):=sto_ext (bs:=[b1]) (by simp)
    refine ⟨wrX_blk (k0:=0) c1 (by simp) (by simp),wrX_blk (k0:=0) (blk_ext c2 e1 (by simp; omega)) (by simp) (by simp),fun wr1 hx9 => ?_⟩
    obtain ⟨f1,f2,f3⟩:=fin W2 (ExtX.refl _ _) wr1 hx9
    refine ⟨rfl,f1,?_,f3⟩
    rw [show bestN lt xs (k+1)=(gi xs (k:Int),true) from if_pos (by rw [hs2]; rfl)]
    exact f2
  ·obtain ⟨rfl,hX3,hI3⟩:=hR
   exact ⟨hX3,hI3⟩
 ·intro D W hD ⟨hBn,hXn⟩ hdD
  refine g_impl_best_int_post none (some ⟨b1,0,none⟩) (some ⟨b2,0,none⟩) (R:=fun e vs W1=>e = .ret∧vs=[.int .i64 (bestN lt xs xs.length).1,.bool (bestN lt xs xs.length).2]∧ExtX [] W W1) hsz3 (fun p hp => ?_) ⟨_,box_cell hBn.c1,_,box_cell hBn.c2,fun wr hx=>⟨rfl,rfl,hx⟩⟩ fun e vs a6 W1 hR fo6 => ?_
  ·simp only [List.mem_cons,List.not_mem_nil,or_false] at hp
   rcases hp with rfl | rfl
   ·exact ⟨Nat.le_of_ble_eq_true rfl,p6⟩
   ·exact ⟨Nat.le_of_ble_eq_true rfl,p7⟩
  ·obtain ⟨rfl,rfl,hx6⟩:=hR
   have hr:∀w',(results Tryz.f136 a6.tmps).run Tryz.prog w' = .ok (.tuple #[.int .i64 (bestN lt xs xs.length).1,.bool (bestN lt xs xs.length).2]) w':=fun w'=>by
    rw [results_tmp2 (t:=4) (u:=5) (by kernel_rfl)]
    have:=fo6.out
    simp only [List.map_cons,List.map_nil,List.cons.injEq,and_true] at this
    rw [this.1,this.2]
   exact (leave_mark (D:=D) (by rw [fo6.defers]; simp [hd3]) ((hx6.block D (Array.getElem?_eq_some_iff.1 hdD).1 (by simp)).trans hdD) hr fun w' hx=>⟨rfl,(hXn.trans hx6).fresh hx fun x hm=>.inl (by
    have:x=D:=by simpa using hm
    have:=hX2.size
    omega)⟩).2
theorem cell_keep {W1 W2:World} {b:Nat} {v:Value} {ys:List Nat} (h:CellsX [] W1 (some ⟨b,0,none⟩) 0 [v]) (hx:ExtX ys W1 W2) (hb:b∉ys):CellsX [] W2 (some ⟨b,0,none⟩) 0 [v]:=by
 obtain ⟨a,ha,_,hc⟩:=h.get 0 _ rfl
 cases ha
 have hw:CellX ys W1 (some ⟨b,0,none⟩) (0+0) v:=⟨_,rfl,hb,hc⟩
 obtain ⟨a2,ha2,_,hc2⟩:=hw.ext hx
 cases ha2
 exact cellsX_one ⟨_,rfl,by simp,hc2⟩
theorem cell_in {W1:World} {b:Nat} {v:Value} (h:CellsX [] W1 (some ⟨b,0,none⟩) 0 [v]):b<W1.heap.size:=by
 obtain ⟨a,ha,_,hc⟩:=h.get 0 _ rfl
 cases ha
 have:=World.block_lt_of_cell? W1 _ hc
 rwa [add_block] at this
end Go.Proofs.YtajdcjidpolloaaGreatDoor
namespace Go.Proofs.YtajdcjidpolloaaGreatDoor
open Go.RowKit
set_option linter.unusedVariables false
set_option maxRecDepth 100000
set_option maxHeartbeats 1600000
noncomputable def c_impl_MaskCount_pre (l:Option Nat):Cfg:={ P:=Tryz.prog,T:=tblGet tbl,pf:=pfT,ef:=efT,tt:=ttT,vis:=[3],n:=10,pm:=false,wr:=false,rd:=l }
noncomputable def s_impl_MaskCount_pre:List (Nat×LSpec):=[]
noncomputable def t_impl_MaskCount_pre:List Code:=[cL ((bodyOf Tryz.f37)),cL (cR ((bodyOf Tryz.f37)))]
def V_impl_MaskCount_pre (w:World) (R:Exit→List Value→World→Prop):Prop :=
  (∀b wb,ExtX [] w wb→w.heap.size≤b→wb.heap[b]? = some (Obj.cells ([.int .i64 0]:List Value).toArray ty_int (0,0))→b∉([]:List Nat) →
  WrX [] wb (some (Addr.mk b 0 none)) 0 1 ∧
  (∀wr,ExtX [] (sto wb (some (Addr.mk b 0 none)) 0 [.int .i64 0]) wr→R .normal [.pointer ((some (Addr.mk b 0 none)).map (·.add 0))] wr))
theorem v_impl_MaskCount_pre (l:Option Nat) (w:World) (R:Exit→List Value→World→Prop):evL (c_impl_MaskCount_pre l) s_impl_MaskCount_pre t_impl_MaskCount_pre (fragSt []) w (fragK [3] R)=V_impl_MaskCount_pre w R:=by kernel_rfl
theorem g_impl_MaskCount_pre (l:Option Nat) {w:World} {R:Exit→List Value→World→Prop} {X:Code} {Q:Exit→Act→World→Prop} {a:Act} (hn:a.tmps.size=10) (hin:insOk [] a) (hvc:V_impl_MaskCount_pre w R) (hX:∀vs a1 w1,R .normal vs w1→FrO (dstsLs t_impl_MaskCount_pre) [3] a a1 vs→X.wpIn (fnc l) 0 Tryz.prog Q a1 w1) (hQ:∀e vs a1 w1,e≠.normal→R e vs w1→FrO (dstsLs t_impl_MaskCount_pre) [3] a a1 vs→Q e a1 w1):(seqs t_impl_MaskCount_pre X).wpIn (fnc l) 0 Tryz.prog Q a w :=
 fragL (C:=c_impl_MaskCount_pre l) (env _ _ _ _ _) hn hin (by rw [v_impl_MaskCount_pre]; exact hvc) hX hQ
noncomputable def c_impl_MaskCount_mid (l:Option Nat):Cfg:={ P:=Tryz.prog,T:=tblGet tbl,pf:=pfT,ef:=efT,tt:=ttT,vis:=[],n:=10,pm:=false,wr:=false,rd:=l }
noncomputable def s_impl_MaskCount_mid:List (Nat×LSpec):=[]
noncomputable def t_impl_MaskCount_mid:Code:=(cL (cL (cR (cR ((bodyOf Tryz.f37))))))
def V_impl_MaskCount_mid (m:Int) (w:World) (R:Exit→List Value→World→Prop):Prop :=
  (∀wr,ExtX [] w wr→(∀bq∈([]:List Nat),bq<wr.heap.size) →
  Calls Tryz.prog fn_impl_cpuSet_members #[.int .i64 m] wr fun e wv =>
  (∃(memberF:Fn) (memberA:Array Value) (memberK:Array Value),
  e = .returned (.func memberF memberA memberK)∧Kept [] wr wv ∧
  (∀wr1,ExtX [] wv wr1→R .normal [.func memberF memberA memberK] wr1)))
theorem v_impl_MaskCount_mid (l:Option Nat) (m:Int) (w:World) (R:Exit→List Value→World→Prop):evC (c_impl_MaskCount_mid l) s_impl_MaskCount_mid t_impl_MaskCount_mid (fragSt [(0,.int .i64 m)]) w (fragK [5] R)=V_impl_MaskCount_mid m w R:=by kernel_rfl
theorem g_impl_MaskCount_mid (l:Option Nat) (m:Int) {w:World} {R:Exit→List Value→World→Prop} {Q:Exit→Act→World→Prop} {a:Act} (hn:a.tmps.size=10) (hin:insOk [(0,.int .i64 m)] a) (hvc:V_impl_MaskCount_mid m w R) (hQ:∀e vs a1 w1,R e vs w1→FrO (dstsC t_impl_MaskCount_mid) [5] a a1 vs→Q e a1 w1):t_impl_MaskCount_mid.wpIn (fnc l) 0 Tryz.prog Q a w :=
 fragC (C:=c_impl_MaskCount_mid l) (env _ _ _ _ _) hn hin (by rw [v_impl_MaskCount_mid]; exact hvc) hQ
noncomputable def c_impl_MaskCount_body (l:Option Nat):Cfg:={ P:=Tryz.prog,T:=tblGet tbl,pf:=pfT,ef:=efT,tt:=ttT,vis:=[],n:=10,pm:=false,wr:=false,rd:=l }
noncomputable def s_impl_MaskCount_body:List (Nat×LSpec):=[]
noncomputable def t_impl_MaskCount_body:Code:=(rfB (cB (cR (cL (cR (cR ((bodyOf Tryz.f37))))))))
def V_impl_MaskCount_body (count:Option Addr) (w:World) (R:Exit→List Value→World→Prop):Prop :=
  (∃(x:Int),
  CellsX [] w count 0 [.int .i64 x] ∧
  InR .i64 (x+1) ∧
  WrX [] w count 0 1 ∧
  (∀wr,ExtX [] (sto w count 0 [.int .i64 (x+1)]) wr→R .normal [] wr))
theorem v_impl_MaskCount_body (l:Option Nat) (count:Option Addr) (w:World) (R:Exit→List Value→World→Prop):evC (c_impl_MaskCount_body l) s_impl_MaskCount_body t_impl_MaskCount_body (fragSt [(3,.pointer count)]) w (fragK [] R)=V_impl_MaskCount_body count w R:=by kernel_rfl
theorem g_impl_MaskCount_body (l:Option Nat) (count:Option Addr) {w:World} {R:Exit→List Value→World→Prop} {Q:Exit→Act→World→Prop} {a:Act} (hn:a.tmps.size=10) (hin:insOk [(3,.pointer count)] a) (hvc:V_impl_MaskCount_body count w R) (hQ:∀e vs a1 w1,R e vs w1→FrO (dstsC t_impl_MaskCount_body) [] a a1 vs→Q e a1 w1):t_impl_MaskCount_body.wpIn (fnc l) 0 Tryz.prog Q a w :=
 fragC (C:=c_impl_MaskCount_body l) (env _ _ _ _ _) hn hin (by rw [v_impl_MaskCount_body]; exact hvc) hQ
noncomputable def c_impl_MaskCount_post (l:Option Nat):Cfg:={ P:=Tryz.prog,T:=tblGet tbl,pf:=pfT,ef:=efT,tt:=ttT,vis:=[],n:=10,pm:=false,wr:=false,rd:=l }
noncomputable def s_impl_MaskCount_post:List (Nat×LSpec):=[]
noncomputable def t_impl_MaskCount_post:Code:=(cR (cR (cR ((bodyOf Tryz.f37)))))
def V_impl_MaskCount_post (count:Option Addr) (w:World) (R:Exit→List Value→World→Prop):Prop :=
  (∃(x:Int),
  CellsX [] w count 0 [.int .i64 x] ∧
  (∀wr,ExtX [] w wr→R .ret [.int .i64 x] wr))
theorem v_impl_MaskCount_post (l:Option Nat) (count:Option Addr) (w:World) (R:Exit→List Value→World→Prop):evC (c_impl_MaskCount_post l) s_impl_MaskCount_post t_impl_MaskCount_post (fragSt [(3,.pointer count)]) w (fragK [2] R)=V_impl_MaskCount_post count w R:=by kernel_rfl
theorem g_impl_MaskCount_post (l:Option Nat) (count:Option Addr) {w:World} {R:Exit→List Value→World→Prop} {Q:Exit→Act→World→Prop} {a:Act} (hn:a.tmps.size=10) (hin:insOk [(3,.pointer count)] a) (hvc:V_impl_MaskCount_post count w R) (hQ:∀e vs a1 w1,R e vs w1→FrO (dstsC t_impl_MaskCount_post) [2] a a1 vs→Q e a1 w1):t_impl_MaskCount_post.wpIn (fnc l) 0 Tryz.prog Q a w :=
 fragC (C:=c_impl_MaskCount_post l) (env _ _ _ _ _) hn hin (by rw [v_impl_MaskCount_post]; exact hvc) hQ
end Go.Proofs.YtajdcjidpolloaaGreatDoor
namespace Go.Proofs.YtajdcjidpolloaaGreatDoor
open Go.RowKit
set_option linter.unusedVariables false
set_option linter.unusedSimpArgs false
set_option maxRecDepth 10000
def mkC (k:Int):Cpu:=⟨Int.tmod (k) 3==0,k+1,k+1+1,k+1+1+1,k+1+1+1+1⟩
def markC (n:Nat) (k:Int):List Cpu:=(List.range n).map fun (i:Nat)=>mkC (k+5*(i:Int))
theorem markC_len (n:Nat) (k:Int):(markC n k).length=n:=by simp [markC]
theorem markC_gi {n:Nat} {k:Int} {i:Nat} (h:i<n):gi (markC n k) (i:Int)=mkC (k+5*(i:Int)):=by
 rw [gi_lt (by rw [markC_len]; exact h)]; simp [markC]
theorem k_markCpuS {base:Nat} {l:List Cpu} {o:Option Addr} {c:Nat} {k:Int} {w:World} (h:Own encC 5 ty_impl_Cpu base w o c l) (hl:l.length≤1048576) (hk:0≤k) (hk2:k≤100000000000000000) :
  Calls Tryz.prog fn_laws_markCpuS #[.slice o l.length c,.int .i64 k] w fun e w'=>e = .returned (.int .i64 (k+5*(l.length:Int)))∧Own encC 5 ty_impl_Cpu base w' o c (markC l.length k)∧ExtX (blkOf o) w w':=by
 refine (e_laws_markCpuS o l.length c k (R:=fun v w'=>v = .int .i64 (k+5*(l.length:Int))∧Own encC 5 ty_impl_Cpu base w' o c (markC l.length k)∧ExtX (blkOf o) w w') ?_).mono fun e w' ⟨v,he,hv,h1⟩=>⟨by rw [he,hv],h1⟩
 refine ⟨fun vs w1=>∃(i:Nat),vs=[.int .i64 (k+5*(i:Int)),.int .i64 (i:Int)]∧i≤l.length∧Own encC 5 ty_impl_Cpu base w1 o c ((markC l.length k).take i++l.drop i)∧ExtX (blkOf o) w w1,cntMw l.length 1,fun wr hx _=>⟨0,by simp,Nat.zero_le _,by simpa using h.ext0 hx,hx.of_nil⟩,?_⟩
 rintro k1 i1 w1 _ ⟨i,he,hi,hO,hX⟩
 simp only [List.cons.injEq,Value.int.injEq,true_and,and_true] at he
 obtain ⟨rfl,rfl⟩:=he
 have hlen:((markC l.length k).take i++l.drop i).length=l.length:=by simp [markC_len]; omega
 refine ⟨fun hlt => ?_,fun hge => ?_⟩
 ·have hlt:=of_decide_eq_true hlt
  have hi':(i:Int)<(((markC l.length k).take i++l.drop i).length:Int):=by rw [hlen]; exact hlt
  have hix:Ix o l.length (i:Int):=by have:=hO.ix (i:=(i:Int)) (by omega) hi'; rwa [hlen] at this
  have hset:∀x,(((markC l.length k).take i++l.drop i).set i x).length=l.length:=fun x=>by rw [List.length_set]; exact hlen
  have hgs:∀x,gi (((markC l.length k).take i++l.drop i).set i x) (i:Int)=x:=fun x=>by
   have:=gi_set ((markC l.length k).take i++l.drop i) x (i:=(i:Int)) (by omega) hi' (j:=(i:Int)) (by omega)
   rw [if_pos rfl,Int.toNat_natCast] at this
   exact this
  have hss:∀x y,(((markC l.length k).take i++l.drop i).set i x).set i y=((markC l.length k).take i++l.drop i).set i y:=fun x y=>by rw [List.set_set]
  generalize hL:(markC l.length k).take i++l.drop i=L at hO hlen hi' hset hgs hss
  have e0:=hO.sto elt_Cpu.len (i:=(i:Int)) (by omega) hi' (j:=0) (vs:=[.bool (Int.tmod (k+5*(i:Int)) 3==0)]) (x:=⟨Int.tmod (k+5*(i:Int)) 3==0,(gi L i).cur,(gi L i).ran,(gi L i).busy,(gi L i).idle⟩) rfl (by simp)
  rw [Int.toNat_natCast] at e0
  have e1:=e0.sto elt_Cpu.len (i:=(i:Int)) (by omega) (by rw [hset]; exact hlt) (j:=1) (vs:=[.int .i64 (k+5*(i:Int)+1)]) (x:=⟨Int.tmod (k+5*(i:Int)) 3==0,k+5*(i:Int)+1,(gi L i).ran,(gi L i).busy,(gi L i).idle⟩) (by rw [hgs]; rfl) (by simp)
  rw [Int.toNat_natCast,hss] at e1
  have e2:=e1.sto elt_Cpu.len (i:=(i:Int)) (by omega) (by rw [hset]; exact hlt) (j:=2) (vs:=[.int .i64 (k+5*(i:Int)+1+1)]) (x:=⟨Int.tmod (k+5*(i:Int)) 3==0,k+5*(i:Int)+1,k+5*(i:Int)+1+1,(gi L i).busy,(gi L i).idle⟩) (by rw [hgs]; rfl) (by simp)
  rw [Int.toNat_natCast,hss] at e2
  have e3:=e2.sto elt_Cpu.len (i:=(i:Int)) (by omega) (by rw [hset]; exact hlt) (j:=3) (vs:=[.int .i64 (k+5*(i:Int)+1+1+1)]) (x:=⟨Int.tmod (k+5*(i:Int)) 3==0,k+5*(i:Int)+1,k+5*(i:Int)+1+1,k+5*(i:Int)+1+1+1,(gi L i).idle⟩) (by rw [hgs]; rfl) (by simp)
  rw [Int.toNat_natCast,hss] at e3
  have e4:=e3.sto elt_Cpu.len (i:=(i:Int)) (by omega) (by rw [hset]; exact hlt) (j:=4) (vs:=[.int .i64 (k+5*(i:Int)+1+1+1+1)]) (x:=mkC (k+5*(i:Int))) (by rw [hgs]; rfl) (by simp)
  rw [Int.toNat_natCast,hss] at e4
  refine ⟨by decide,hix,hO.wr elt_Cpu.len (by simp) (by omega) hi' (j:=0) (by decide),⟨by omega,by omega⟩,hix,e0.wr elt_Cpu.len (by simp) (by omega) (by rw [hset]; exact hlt) (j:=1) (by decide),⟨by omega,by omega⟩,hix,e1.wr elt_Cpu.len (by simp) (by omega) (by rw [hset]; exact hlt) (j:=2) (by decide),⟨by omega,by omega⟩,hix,e2.wr elt_Cpu.len (by simp) (by omega) (by rw [hset]; exact hlt) (j:=3) (by decide),⟨by omega,by omega⟩,hix,e3.wr elt_Cpu.len (by simp) (by omega) (by rw [hset]; exact hlt) (j:=4) (by decide),⟨by omega,by omega⟩,⟨by omega,by omega⟩,fun w2 hx2 _=>⟨⟨i+1,by congr 2; omega,by omega,?_,?_⟩,?_⟩⟩
  ·have:L.set i (mkC (k+5*(i:Int)))=(markC l.length k).take (i+1)++l.drop (i+1):=by
    have hi2:i<(markC l.length k).length:=by rw [markC_len]; omega
    have hlt':i<l.length:=by omega
    rw [←hL,List.set_append,if_neg (by simp [markC_len]; omega),List.length_take,markC_len,show i - min i l.length=0 by omega,List.drop_eq_getElem_cons hlt',List.set_cons_zero,List.take_succ_eq_append_getElem hi2,List.append_assoc,List.singleton_append]
    have:=markC_gi (n:=l.length) (k:=k) hlt'
    rw [gi_lt hi2] at this
    rw [this]
   rw [this] at e4
   exact e4.ext0 hx2
  ·exact (((((hX.trans (hO.stoX _ _)).trans (e0.stoX _ _)).trans (e1.stoX _ _)).trans (e2.stoX _ _)).trans (e3.stoX _ _)).trans hx2.of_nil
  ·simp only [cntMw,cntM,ctrAt,List.getElem?_cons_zero,List.getElem?_cons_succ]
   omega
 ·have hge:=of_decide_eq_false hge
  have:i=l.length:=by omega
  subst this
  refine fun w2 hx2=>⟨rfl,?_,hX.trans hx2.of_nil⟩
  have e:(markC l.length k).take l.length++l.drop l.length=markC l.length k:=by
   rw [List.drop_length,List.append_nil,List.take_of_length_le (by rw [markC_len]; exact Nat.le_refl _)]
  rw [e] at hO
  exact hO.ext0 hx2
theorem k_heldCpuS {n:Nat} {o:Option Addr} {c:Nat} {k:Int} {w:World} {bs:List Nat} (h:RdC bs w o (markC n k)) (hl:n≤1048576) (hk:0≤k) (hk2:k≤100000000000000000) :
  PureX bs Tryz.prog fn_laws_heldCpuS #[.slice o n c,.int .i64 k] w (.int .i64 (k+5*(n:Int))) :=
 p_laws_heldCpuS o n c k fun wr hx=>by
  have h:=(h.ext hx).less (cs:=[]) (by simp)
  refine loop2 n 0 rfl (fun x i=>i≤n∧x=k+5*(i:Int)) ⟨Nat.zero_le _,by simp⟩ fun x i ⟨hi,hx1⟩=>⟨fun hlt => ?_,fun hge => ?_⟩
  ·subst hx1
   have hlt:=of_decide_eq_true hlt
   have hc:=h i (by omega) (by rw [markC_len]; exact hlt)
   have hix:Ix o n (i:Int):=by have:=h.ix encC_c (i:=(i:Int)) (by omega) (by rw [markC_len]; exact hlt); rwa [markC_len] at this
   rw [markC_gi (by omega)] at hc
   refine ⟨hix,_,hc.1,by decide,fun hb=>by simp [mkC] at hb,fun _=>⟨⟨by omega,by omega⟩,hix,_,hc.2.1,fun hb=>by simp [mkC] at hb,fun _=>⟨⟨by omega,by omega⟩,hix,_,hc.2.2.1,fun hb=>by simp [mkC] at hb,fun _=>⟨⟨by omega,by omega⟩,hix,_,hc.2.2.2.1,fun hb=>by simp [mkC] at hb,fun _=>⟨⟨by omega,by omega⟩,hix,_,hc.2.2.2.2,fun hb=>by simp [mkC] at hb,fun _=>⟨⟨by omega,by omega⟩,⟨by omega,by omega⟩,loop2_next (by omega) ⟨by omega,by omega⟩⟩⟩⟩⟩⟩⟩
  ·have hge:=of_decide_eq_false hge
   have:i=n:=by omega
   subst this
   rw [hx1]
def mkT (k:Int):Tsk:=⟨k,k+1,k+1+1,k+1+1+1,k+1+1+1+1,k+1+1+1+1+1,k+1+1+1+1+1+1,k+1+1+1+1+1+1+1,k+1+1+1+1+1+1+1+1⟩
def markT (n:Nat) (k:Int):List Tsk:=(List.range n).map fun (i:Nat)=>mkT (k+9*(i:Int))
theorem markT_len (n:Nat) (k:Int):(markT n k).length=n:=by simp [markT]
theorem markT_gi {n:Nat} {k:Int} {i:Nat} (h:i<n):gi (markT n k) (i:Int)=mkT (k+9*(i:Int)):=by
 rw [gi_lt (by rw [markT_len]; exact h)]; simp [markT]
theorem k_markTaskS {base:Nat} {l:List Tsk} {o:Option Addr} {c:Nat} {k:Int} {w:World} (h:Own encT 9 ty_impl_Task base w o c l) (hl:l.length≤1048576) (hk:0≤k) (hk2:k≤100000000000000000) :
  Calls Tryz.prog fn_laws_markTaskS #[.slice o l.length c,.int .i64 k] w fun e w'=>e = .returned (.int .i64 (k+9*(l.length:Int)))∧Own encT 9 ty_impl_Task base w' o c (markT l.length k)∧ExtX (blkOf o) w w':=by
 refine (e_laws_markTaskS o l.length c k (R:=fun v w'=>v = .int .i64 (k+9*(l.length:Int))∧Own encT 9 ty_impl_Task base w' o c (markT l.length k)∧ExtX (blkOf o) w w') ?_).mono fun e w' ⟨v,he,hv,h1⟩=>⟨by rw [he,hv],h1⟩
 refine ⟨fun vs w1=>∃(i:Nat),vs=[.int .i64 (k+9*(i:Int)),.int .i64 (i:Int)]∧i≤l.length∧Own encT 9 ty_impl_Task base w1 o c ((markT l.length k).take i++l.drop i)∧ExtX (blkOf o) w w1,cntMw l.length 1,fun wr hx _=>⟨0,by simp,Nat.zero_le _,by simpa using h.ext0 hx,hx.of_nil⟩,?_⟩
 rintro k1 i1 w1 _ ⟨i,he,hi,hO,hX⟩
 simp only [List.cons.injEq,Value.int.injEq,true_and,and_true] at he
 obtain ⟨rfl,rfl⟩:=he
 have hlen:((markT l.length k).take i++l.drop i).length=l.length:=by simp [markT_len]; omega
 refine ⟨fun hlt => ?_,fun hge => ?_⟩
 ·have hlt:=of_decide_eq_true hlt
  have hi':(i:Int)<(((markT l.length k).take i++l.drop i).length:Int):=by rw [hlen]; exact hlt
  have hix:Ix o l.length (i:Int):=by have:=hO.ix (i:=(i:Int)) (by omega) hi'; rwa [hlen] at this
  have hset:∀x,(((markT l.length k).take i++l.drop i).set i x).length=l.length:=fun x=>by rw [List.length_set]; exact hlen
  have hgs:∀x,gi (((markT l.length k).take i++l.drop i).set i x) (i:Int)=x:=fun x=>by
   have:=gi_set ((markT l.length k).take i++l.drop i) x (i:=(i:Int)) (by omega) hi' (j:=(i:Int)) (by omega)
   rw [if_pos rfl,Int.toNat_natCast] at this
   exact this
  have hss:∀x y,(((markT l.length k).take i++l.drop i).set i x).set i y=((markT l.length k).take i++l.drop i).set i y:=fun x y=>by rw [List.set_set]
  generalize hL:(markT l.length k).take i++l.drop i=L at hO hlen hi' hset hgs hss
  have e0:=hO.sto elt_Task.len (i:=(i:Int)) (by omega) hi' (j:=0) (vs:=[.int .i64 (k+9*(i:Int))]) (x:=⟨k+9*(i:Int),(gi L i).group,(gi L i).cpu,(gi L i).nice,(gi L i).mask,(gi L i).v,(gi L i).sum,(gi L i).used,(gi L i).load⟩) rfl (by simp)
  rw [Int.toNat_natCast] at e0
  have e1:=e0.sto elt_Task.len (i:=(i:Int)) (by omega) (by rw [hset]; exact hlt) (j:=1) (vs:=[.int .i64 (k+9*(i:Int)+1)]) (x:=⟨k+9*(i:Int),k+9*(i:Int)+1,(gi L i).cpu,(gi L i).nice,(gi L i).mask,(gi L i).v,(gi L i).sum,(gi L i).used,(gi L i).load⟩) (by rw [hgs]; rfl) (by simp)
  rw [Int.toNat_natCast,hss] at e1
  have e2:=e1.sto elt_Task.len (i:=(i:Int)) (by omega) (by rw [hset]; exact hlt) (j:=2) (vs:=[.int .i64 (k+9*(i:Int)+1+1)]) (x:=⟨k+9*(i:Int),k+9*(i:Int)+1,k+9*(i:Int)+1+1,(gi L i).nice,(gi L i).mask,(gi L i).v,(gi L i).sum,(gi L i).used,(gi L i).load⟩) (by rw [hgs]; rfl) (by simp)
  rw [Int.toNat_natCast,hss] at e2
  have e3:=e2.sto elt_Task.len (i:=(i:Int)) (by omega) (by rw [hset]; exact hlt) (j:=3) (vs:=[.int .i64 (k+9*(i:Int)+1+1+1)]) (x:=⟨k+9*(i:Int),k+9*(i:Int)+1,k+9*(i:Int)+1+1,k+9*(i:Int)+1+1+1,(gi L i).mask,(gi L i).v,(gi L i).sum,(gi L i).used,(gi L i).load⟩) (by rw [hgs]; rfl) (by simp)
  rw [Int.toNat_natCast,hss] at e3
  have e4:=e3.sto elt_Task.len (i:=(i:Int)) (by omega) (by rw [hset]; exact hlt) (j:=4) (vs:=[.int .i64 (k+9*(i:Int)+1+1+1+1)]) (x:=⟨k+9*(i:Int),k+9*(i:Int)+1,k+9*(i:Int)+1+1,k+9*(i:Int)+1+1+1,k+9*(i:Int)+1+1+1+1,(gi L i).v,(gi L i).sum,(gi L i).used,(gi L i).load⟩) (by rw [hgs]; rfl) (by simp)
  rw [Int.toNat_natCast,hss] at e4
  have e5:=e4.sto elt_Task.len (i:=(i:Int)) (by omega) (by rw [hset]; exact hlt) (j:=5) (vs:=[.int .i64 (k+9*(i:Int)+1+1+1+1+1)]) (x:=⟨k+9*(i:Int),k+9*(i:Int)+1,k+9*(i:Int)+1+1,k+9*(i:Int)+1+1+1,k+9*(i:Int)+1+1+1+1,k+9*(i:Int)+1+1+1+1+1,(gi L i).sum,(gi L i).used,(gi L i).load⟩) (by rw [hgs]; rfl) (by simp)
  rw [Int.toNat_natCast,hss] at e5
  have e6:=e5.sto elt_Task.len (i:=(i:Int)) (by omega) (by rw [hset]; exact hlt) (j:=6) (vs:=[.int .i64 (k+9*(i:Int)+1+1+1+1+1+1)]) (x:=⟨k+9*(i:Int),k+9*(i:Int)+1,k+9*(i:Int)+1+1,k+9*(i:Int)+1+1+1,k+9*(i:Int)+1+1+1+1,k+9*(i:Int)+1+1+1+1+1,k+9*(i:Int)+1+1+1+1+1+1,(gi L i).used,(gi L i).load⟩) (by rw [hgs]; rfl) (by simp)
  rw [Int.toNat_natCast,hss] at e6
  have e7:=e6.sto elt_Task.len (i:=(i:Int)) (by omega) (by rw [hset]; exact hlt) (j:=7) (vs:=[.int .i64 (k+9*(i:Int)+1+1+1+1+1+1+1)]) (x:=⟨k+9*(i:Int),k+9*(i:Int)+1,k+9*(i:Int)+1+1,k+9*(i:Int)+1+1+1,k+9*(i:Int)+1+1+1+1,k+9*(i:Int)+1+1+1+1+1,k+9*(i:Int)+1+1+1+1+1+1,k+9*(i:Int)+1+1+1+1+1+1+1,(gi L i).load⟩) (by rw [hgs]; rfl) (by simp)
  rw [Int.toNat_natCast,hss] at e7
  have e8:=e7.sto elt_Task.len (i:=(i:Int)) (by omega) (by rw [hset]; exact hlt) (j:=8) (vs:=[.int .i64 (k+9*(i:Int)+1+1+1+1+1+1+1+1)]) (x:=mkT (k+9*(i:Int))) (by rw [hgs]; rfl) (by simp)
  rw [Int.toNat_natCast,hss] at e8
  refine ⟨hix,hO.wr elt_Task.len (by simp) (by omega) hi' (j:=0) (by decide),⟨by omega,by omega⟩,hix,e0.wr elt_Task.len (by simp) (by omega) (by rw [hset]; exact hlt) (j:=1) (by decide),⟨by omega,by omega⟩,hix,e1.wr elt_Task.len (by simp) (by omega) (by rw [hset]; exact hlt) (j:=2) (by decide),⟨by omega,by omega⟩,hix,e2.wr elt_Task.len (by simp) (by omega) (by rw [hset]; exact hlt) (j:=3) (by decide),⟨by omega,by omega⟩,hix,e3.wr elt_Task.len (by simp) (by omega) (by rw [hset]; exact hlt) (j:=4) (by decide),⟨by omega,by omega⟩,hix,e4.wr elt_Task.len (by simp) (by omega) (by rw [hset]; exact hlt) (j:=5) (by decide),⟨by omega,by omega⟩,hix,e5.wr elt_Task.len (by simp) (by omega) (by rw [hset]; exact hlt) (j:=6) (by decide),⟨by omega,by omega⟩,hix,e6.wr elt_Task.len (by simp) (by omega) (by rw [hset]; exact hlt) (j:=7) (by decide),⟨by omega,by omega⟩,hix,e7.wr elt_Task.len (by simp) (by omega) (by rw [hset]; exact hlt) (j:=8) (by decide),⟨by omega,by omega⟩,⟨by omega,by omega⟩,fun w2 hx2 _=>⟨⟨i+1,by congr 2; omega,by omega,?_,?_⟩,?_⟩⟩
  ·have:L.set i (mkT (k+9*(i:Int)))=(markT l.length k).take (i+1)++l.drop (i+1):=by
    have hi2:i<(markT l.length k).length:=by rw [markT_len]; omega
    have hlt':i<l.length:=by omega
    rw [←hL,List.set_append,if_neg (by simp [markT_len]; omega),List.length_take,markT_len,show i - min i l.length=0 by omega,List.drop_eq_getElem_cons hlt',List.set_cons_zero,List.take_succ_eq_append_getElem hi2,List.append_assoc,List.singleton_append]
    have:=markT_gi (n:=l.length) (k:=k) hlt'
    rw [gi_lt hi2] at this
    rw [this]
   rw [this] at e8
   exact e8.ext0 hx2
  ·exact (((((((((hX.trans (hO.stoX _ _)).trans (e0.stoX _ _)).trans (e1.stoX _ _)).trans (e2.stoX _ _)).trans (e3.stoX _ _)).trans (e4.stoX _ _)).trans (e5.stoX _ _)).trans (e6.stoX _ _)).trans (e7.stoX _ _)).trans hx2.of_nil
  ·simp only [cntMw,cntM,ctrAt,List.getElem?_cons_zero,List.getElem?_cons_succ]
   omega
 ·have hge:=of_decide_eq_false hge
  have:i=l.length:=by omega
  subst this
  refine fun w2 hx2=>⟨rfl,?_,hX.trans hx2.of_nil⟩
  have e:(markT l.length k).take l.length++l.drop l.length=markT l.length k:=by
   rw [List.drop_length,List.append_nil,List.take_of_length_le (by rw [markT_len]; exact Nat.le_refl _)]
  rw [e] at hO
  exact hO.ext0 hx2
theorem k_heldTaskS {n:Nat} {o:Option Addr} {c:Nat} {k:Int} {w:World} {bs:List Nat} (h:RdT bs w o (markT n k)) (hl:n≤1048576) (hk:0≤k) (hk2:k≤100000000000000000) :
  PureX bs Tryz.prog fn_laws_heldTaskS #[.slice o n c,.int .i64 k] w (.int .i64 (k+9*(n:Int))) :=
 p_laws_heldTaskS o n c k fun wr hx=>by
  have h:=(h.ext hx).less (cs:=[]) (by simp)
  refine loop2 n 0 rfl (fun x i=>i≤n∧x=k+9*(i:Int)) ⟨Nat.zero_le _,by simp⟩ fun x i ⟨hi,hx1⟩=>⟨fun hlt => ?_,fun hge => ?_⟩
  ·subst hx1
   have hlt:=of_decide_eq_true hlt
   have hc:=h i (by omega) (by rw [markT_len]; exact hlt)
   have hix:Ix o n (i:Int):=by have:=h.ix encT_c (i:=(i:Int)) (by omega) (by rw [markT_len]; exact hlt); rwa [markT_len] at this
   rw [markT_gi (by omega)] at hc
   refine ⟨hix,_,hc.1,fun hb=>by simp [mkT] at hb,fun _=>⟨⟨by omega,by omega⟩,hix,_,hc.2.1,fun hb=>by simp [mkT] at hb,fun _=>⟨⟨by omega,by omega⟩,hix,_,hc.2.2.1,fun hb=>by simp [mkT] at hb,fun _=>⟨⟨by omega,by omega⟩,hix,_,hc.2.2.2.1,fun hb=>by simp [mkT] at hb,fun _=>⟨⟨by omega,by omega⟩,hix,_,hc.2.2.2.2.1,fun hb=>by simp [mkT] at hb,fun _=>⟨⟨by omega,by omega⟩,hix,_,hc.2.2.2.2.2.1,fun hb=>by simp [mkT] at hb,fun _=>⟨⟨by omega,by omega⟩,hix,_,hc.2.2.2.2.2.2.1,fun hb=>by simp [mkT] at hb,fun _=>⟨⟨by omega,by omega⟩,hix,_,hc.2.2.2.2.2.2.2.1,fun hb=>by simp [mkT] at hb,fun _=>⟨⟨by omega,by omega⟩,hix,_,hc.2.2.2.2.2.2.2.2,fun hb=>by simp [mkT] at hb,fun _=>⟨⟨by omega,by omega⟩,⟨by omega,by omega⟩,loop2_next (by omega) ⟨by omega,by omega⟩⟩⟩⟩⟩⟩⟩⟩⟩⟩⟩
  ·have hge:=of_decide_eq_false hge
   have:i=n:=by omega
   subst this
   rw [hx1]
def mkI (k:Int):Int:=k
def markI (n:Nat) (k:Int):List Int:=(List.range n).map fun (i:Nat)=>mkI (k+1*(i:Int))
theorem markI_len (n:Nat) (k:Int):(markI n k).length=n:=by simp [markI]
theorem markI_gi {n:Nat} {k:Int} {i:Nat} (h:i<n):gi (markI n k) (i:Int)=mkI (k+1*(i:Int)):=by
 rw [gi_lt (by rw [markI_len]; exact h)]; simp [markI]
theorem k_markIntS {base:Nat} {l:List Int} {o:Option Addr} {c:Nat} {k:Int} {w:World} (h:Own encI 1 ty_int base w o c l) (hl:l.length≤1048576) (hk:0≤k) (hk2:k≤100000000000000000) :
  Calls Tryz.prog fn_laws_markIntS #[.slice o l.length c,.int .i64 k] w fun e w'=>e = .returned (.int .i64 (k+1*(l.length:Int)))∧Own encI 1 ty_int base w' o c (markI l.length k)∧ExtX (blkOf o) w w':=by
 refine (e_laws_markIntS o l.length c k (R:=fun v w'=>v = .int .i64 (k+1*(l.length:Int))∧Own encI 1 ty_int base w' o c (markI l.length k)∧ExtX (blkOf o) w w') ?_).mono fun e w' ⟨v,he,hv,h1⟩=>⟨by rw [he,hv],h1⟩
 refine ⟨fun vs w1=>∃(i:Nat),vs=[.int .i64 (k+1*(i:Int)),.int .i64 (i:Int)]∧i≤l.length∧Own encI 1 ty_int base w1 o c ((markI l.length k).take i++l.drop i)∧ExtX (blkOf o) w w1,cntMw l.length 1,fun wr hx _=>⟨0,by simp,Nat.zero_le _,by simpa using h.ext0 hx,hx.of_nil⟩,?_⟩
 rintro k1 i1 w1 _ ⟨i,he,hi,hO,hX⟩
 simp only [List.cons.injEq,Value.int.injEq,true_and,and_true] at he
 obtain ⟨rfl,rfl⟩:=he
 have hlen:((markI l.length k).take i++l.drop i).length=l.length:=by simp [markI_len]; omega
 refine ⟨fun hlt => ?_,fun hge => ?_⟩
 ·have hlt:=of_decide_eq_true hlt
  have hi':(i:Int)<(((markI l.length k).take i++l.drop i).length:Int):=by rw [hlen]; exact hlt
  have hix:Ix o l.length (i:Int):=by have:=hO.ix (i:=(i:Int)) (by omega) hi'; rwa [hlen] at this
  have hset:∀x,(((markI l.length k).take i++l.drop i).set i x).length=l.length:=fun x=>by rw [List.length_set]; exact hlen
  have hgs:∀x,gi (((markI l.length k).take i++l.drop i).set i x) (i:Int)=x:=fun x=>by
   have:=gi_set ((markI l.length k).take i++l.drop i) x (i:=(i:Int)) (by omega) hi' (j:=(i:Int)) (by omega)
   rw [if_pos rfl,Int.toNat_natCast] at this
   exact this
  have hss:∀x y,(((markI l.length k).take i++l.drop i).set i x).set i y=((markI l.length k).take i++l.drop i).set i y:=fun x y=>by rw [List.set_set]
  generalize hL:(markI l.length k).take i++l.drop i=L at hO hlen hi' hset hgs hss
  have e0:=hO.sto elt_Int.len (i:=(i:Int)) (by omega) hi' (j:=0) (vs:=[.int .i64 (k+1*(i:Int))]) (x:=mkI (k+1*(i:Int))) rfl (by simp)
  rw [Int.toNat_natCast] at e0
  refine ⟨hix,hO.wr elt_Int.len (by simp) (by omega) hi' (j:=0) (by decide),⟨by omega,by omega⟩,⟨by omega,by omega⟩,fun w2 hx2 _=>⟨⟨i+1,by congr 2; omega,by omega,?_,?_⟩,?_⟩⟩
  ·have:L.set i (mkI (k+1*(i:Int)))=(markI l.length k).take (i+1)++l.drop (i+1):=by
    have hi2:i<(markI l.length k).length:=by rw [markI_len]; omega
    have hlt':i<l.length:=by omega
    rw [←hL,List.set_append,if_neg (by simp [markI_len]; omega),List.length_take,markI_len,show i - min i l.length=0 by omega,List.drop_eq_getElem_cons hlt',List.set_cons_zero,List.take_succ_eq_append_getElem hi2,List.append_assoc,List.singleton_append]
    have:=markI_gi (n:=l.length) (k:=k) hlt'
    rw [gi_lt hi2] at this
    rw [this]
   rw [this] at e0
   exact e0.ext0 hx2
  ·exact (hX.trans (hO.stoX _ _)).trans hx2.of_nil
  ·simp only [cntMw,cntM,ctrAt,List.getElem?_cons_zero,List.getElem?_cons_succ]
   omega
 ·have hge:=of_decide_eq_false hge
  have:i=l.length:=by omega
  subst this
  refine fun w2 hx2=>⟨rfl,?_,hX.trans hx2.of_nil⟩
  have e:(markI l.length k).take l.length++l.drop l.length=markI l.length k:=by
   rw [List.drop_length,List.append_nil,List.take_of_length_le (by rw [markI_len]; exact Nat.le_refl _)]
  rw [e] at hO
  exact hO.ext0 hx2
theorem k_heldIntS {n:Nat} {o:Option Addr} {c:Nat} {k:Int} {w:World} {bs:List Nat} (h:RdI bs w o (markI n k)) (hl:n≤1048576) (hk:0≤k) (hk2:k≤100000000000000000) :
  PureX bs Tryz.prog fn_laws_heldIntS #[.slice o n c,.int .i64 k] w (.int .i64 (k+1*(n:Int))) :=
 p_laws_heldIntS o n c k fun wr hx=>by
  have h:=(h.ext hx).less (cs:=[]) (by simp)
  refine loop2 n 0 rfl (fun x i=>i≤n∧x=k+1*(i:Int)) ⟨Nat.zero_le _,by simp⟩ fun x i ⟨hi,hx1⟩=>⟨fun hlt => ?_,fun hge => ?_⟩
  ·subst hx1
   have hlt:=of_decide_eq_true hlt
   have hc:=h i (by omega) (by rw [markI_len]; exact hlt)
   have hix:Ix o n (i:Int):=by have:=h.ix encI_c (i:=(i:Int)) (by omega) (by rw [markI_len]; exact hlt); rwa [markI_len] at this
   rw [markI_gi (by omega)] at hc
   refine ⟨hix,_,hc,fun hb=>by simp [mkI] at hb,fun _=>⟨⟨by omega,by omega⟩,⟨by omega,by omega⟩,loop2_next (by omega) ⟨by omega,by omega⟩⟩⟩
  ·have hge:=of_decide_eq_false hge
   have:i=n:=by omega
   subst this
   rw [hx1]
def mkB (k:Int):Bool:=Int.tmod (k) 3==0
def markB (n:Nat) (k:Int):List Bool:=(List.range n).map fun (i:Nat)=>mkB (k+1*(i:Int))
theorem markB_len (n:Nat) (k:Int):(markB n k).length=n:=by simp [markB]
theorem markB_gi {n:Nat} {k:Int} {i:Nat} (h:i<n):gi (markB n k) (i:Int)=mkB (k+1*(i:Int)):=by
 rw [gi_lt (by rw [markB_len]; exact h)]; simp [markB]
theorem k_markBoolS {base:Nat} {l:List Bool} {o:Option Addr} {c:Nat} {k:Int} {w:World} (h:Own encB 1 ty_bool base w o c l) (hl:l.length≤1048576) (hk:0≤k) (hk2:k≤100000000000000000) :
  Calls Tryz.prog fn_laws_markBoolS #[.slice o l.length c,.int .i64 k] w fun e w'=>e = .returned (.int .i64 (k+1*(l.length:Int)))∧Own encB 1 ty_bool base w' o c (markB l.length k)∧ExtX (blkOf o) w w':=by
 refine (e_laws_markBoolS o l.length c k (R:=fun v w'=>v = .int .i64 (k+1*(l.length:Int))∧Own encB 1 ty_bool base w' o c (markB l.length k)∧ExtX (blkOf o) w w') ?_).mono fun e w' ⟨v,he,hv,h1⟩=>⟨by rw [he,hv],h1⟩
 refine ⟨fun vs w1=>∃(i:Nat),vs=[.int .i64 (k+1*(i:Int)),.int .i64 (i:Int)]∧i≤l.length∧Own encB 1 ty_bool base w1 o c ((markB l.length k).take i++l.drop i)∧ExtX (blkOf o) w w1,cntMw l.length 1,fun wr hx _=>⟨0,by simp,Nat.zero_le _,by simpa using h.ext0 hx,hx.of_nil⟩,?_⟩
 rintro k1 i1 w1 _ ⟨i,he,hi,hO,hX⟩
 simp only [List.cons.injEq,Value.int.injEq,true_and,and_true] at he
 obtain ⟨rfl,rfl⟩:=he
 have hlen:((markB l.length k).take i++l.drop i).length=l.length:=by simp [markB_len]; omega
 refine ⟨fun hlt => ?_,fun hge => ?_⟩
 ·have hlt:=of_decide_eq_true hlt
  have hi':(i:Int)<(((markB l.length k).take i++l.drop i).length:Int):=by rw [hlen]; exact hlt
  have hix:Ix o l.length (i:Int):=by have:=hO.ix (i:=(i:Int)) (by omega) hi'; rwa [hlen] at this
  have hset:∀x,(((markB l.length k).take i++l.drop i).set i x).length=l.length:=fun x=>by rw [List.length_set]; exact hlen
  have hgs:∀x,gi (((markB l.length k).take i++l.drop i).set i x) (i:Int)=x:=fun x=>by
   have:=gi_set ((markB l.length k).take i++l.drop i) x (i:=(i:Int)) (by omega) hi' (j:=(i:Int)) (by omega)
   rw [if_pos rfl,Int.toNat_natCast] at this
   exact this
  have hss:∀x y,(((markB l.length k).take i++l.drop i).set i x).set i y=((markB l.length k).take i++l.drop i).set i y:=fun x y=>by rw [List.set_set]
  generalize hL:(markB l.length k).take i++l.drop i=L at hO hlen hi' hset hgs hss
  have e0:=hO.sto elt_Bool.len (i:=(i:Int)) (by omega) hi' (j:=0) (vs:=[.bool (Int.tmod (k+1*(i:Int)) 3==0)]) (x:=mkB (k+1*(i:Int))) rfl (by simp)
  rw [Int.toNat_natCast] at e0
  refine ⟨by decide,hix,hO.wr elt_Bool.len (by simp) (by omega) hi' (j:=0) (by decide),⟨by omega,by omega⟩,⟨by omega,by omega⟩,fun w2 hx2 _=>⟨⟨i+1,by congr 2; omega,by omega,?_,?_⟩,?_⟩⟩
  ·have:L.set i (mkB (k+1*(i:Int)))=(markB l.length k).take (i+1)++l.drop (i+1):=by
    have hi2:i<(markB l.length k).length:=by rw [markB_len]; omega
    have hlt':i<l.length:=by omega
    rw [←hL,List.set_append,if_neg (by simp [markB_len]; omega),List.length_take,markB_len,show i - min i l.length=0 by omega,List.drop_eq_getElem_cons hlt',List.set_cons_zero,List.take_succ_eq_append_getElem hi2,List.append_assoc,List.singleton_append]
    have:=markB_gi (n:=l.length) (k:=k) hlt'
    rw [gi_lt hi2] at this
    rw [this]
   rw [this] at e0
   exact e0.ext0 hx2
  ·exact (hX.trans (hO.stoX _ _)).trans hx2.of_nil
  ·simp only [cntMw,cntM,ctrAt,List.getElem?_cons_zero,List.getElem?_cons_succ]
   omega
 ·have hge:=of_decide_eq_false hge
  have:i=l.length:=by omega
  subst this
  refine fun w2 hx2=>⟨rfl,?_,hX.trans hx2.of_nil⟩
  have e:(markB l.length k).take l.length++l.drop l.length=markB l.length k:=by
   rw [List.drop_length,List.append_nil,List.take_of_length_le (by rw [markB_len]; exact Nat.le_refl _)]
  rw [e] at hO
  exact hO.ext0 hx2
theorem k_heldBoolS {n:Nat} {o:Option Addr} {c:Nat} {k:Int} {w:World} {bs:List Nat} (h:RdB bs w o (markB n k)) (hl:n≤1048576) (hk:0≤k) (hk2:k≤100000000000000000) :
  PureX bs Tryz.prog fn_laws_heldBoolS #[.slice o n c,.int .i64 k] w (.int .i64 (k+1*(n:Int))) :=
 p_laws_heldBoolS o n c k fun wr hx=>by
  have h:=(h.ext hx).less (cs:=[]) (by simp)
  refine loop2 n 0 rfl (fun x i=>i≤n∧x=k+1*(i:Int)) ⟨Nat.zero_le _,by simp⟩ fun x i ⟨hi,hx1⟩=>⟨fun hlt => ?_,fun hge => ?_⟩
  ·subst hx1
   have hlt:=of_decide_eq_true hlt
   have hc:=h i (by omega) (by rw [markB_len]; exact hlt)
   have hix:Ix o n (i:Int):=by have:=h.ix encB_c (i:=(i:Int)) (by omega) (by rw [markB_len]; exact hlt); rwa [markB_len] at this
   rw [markB_gi (by omega)] at hc
   refine ⟨hix,_,hc,by decide,fun hb=>by simp [mkB] at hb,fun _=>⟨⟨by omega,by omega⟩,⟨by omega,by omega⟩,loop2_next (by omega) ⟨by omega,by omega⟩⟩⟩
  ·have hge:=of_decide_eq_false hge
   have:i=n:=by omega
   subst this
   rw [hx1]
def mkS (k:Int):Shf:=⟨k,Int.tmod (k+1) 3==0,k+1+1,k+1+1+1,k+1+1+1+1⟩
def markS (n:Nat) (k:Int):List Shf:=(List.range n).map fun (i:Nat)=>mkS (k+5*(i:Int))
theorem markS_len (n:Nat) (k:Int):(markS n k).length=n:=by simp [markS]
theorem markS_gi {n:Nat} {k:Int} {i:Nat} (h:i<n):gi (markS n k) (i:Int)=mkS (k+5*(i:Int)):=by
 rw [gi_lt (by rw [markS_len]; exact h)]; simp [markS]
theorem k_markShelfS {base:Nat} {l:List Shf} {o:Option Addr} {c:Nat} {k:Int} {w:World} (h:Own encS 5 ty_impl_Shelf base w o c l) (hl:l.length≤1048576) (hk:0≤k) (hk2:k≤100000000000000000) :
  Calls Tryz.prog fn_laws_markShelfS #[.slice o l.length c,.int .i64 k] w fun e w'=>e = .returned (.int .i64 (k+5*(l.length:Int)))∧Own encS 5 ty_impl_Shelf base w' o c (markS l.length k)∧ExtX (blkOf o) w w':=by
 refine (e_laws_markShelfS o l.length c k (R:=fun v w'=>v = .int .i64 (k+5*(l.length:Int))∧Own encS 5 ty_impl_Shelf base w' o c (markS l.length k)∧ExtX (blkOf o) w w') ?_).mono fun e w' ⟨v,he,hv,h1⟩=>⟨by rw [he,hv],h1⟩
 refine ⟨fun vs w1=>∃(i:Nat),vs=[.int .i64 (k+5*(i:Int)),.int .i64 (i:Int)]∧i≤l.length∧Own encS 5 ty_impl_Shelf base w1 o c ((markS l.length k).take i++l.drop i)∧ExtX (blkOf o) w w1,cntMw l.length 1,fun wr hx _=>⟨0,by simp,Nat.zero_le _,by simpa using h.ext0 hx,hx.of_nil⟩,?_⟩
 rintro k1 i1 w1 _ ⟨i,he,hi,hO,hX⟩
 simp only [List.cons.injEq,Value.int.injEq,true_and,and_true] at he
 obtain ⟨rfl,rfl⟩:=he
 have hlen:((markS l.length k).take i++l.drop i).length=l.length:=by simp [markS_len]; omega
 refine ⟨fun hlt => ?_,fun hge => ?_⟩
 ·have hlt:=of_decide_eq_true hlt
  have hi':(i:Int)<(((markS l.length k).take i++l.drop i).length:Int):=by rw [hlen]; exact hlt
  have hix:Ix o l.length (i:Int):=by have:=hO.ix (i:=(i:Int)) (by omega) hi'; rwa [hlen] at this
  have hset:∀x,(((markS l.length k).take i++l.drop i).set i x).length=l.length:=fun x=>by rw [List.length_set]; exact hlen
  have hgs:∀x,gi (((markS l.length k).take i++l.drop i).set i x) (i:Int)=x:=fun x=>by
   have:=gi_set ((markS l.length k).take i++l.drop i) x (i:=(i:Int)) (by omega) hi' (j:=(i:Int)) (by omega)
   rw [if_pos rfl,Int.toNat_natCast] at this
   exact this
  have hss:∀x y,(((markS l.length k).take i++l.drop i).set i x).set i y=((markS l.length k).take i++l.drop i).set i y:=fun x y=>by rw [List.set_set]
  generalize hL:(markS l.length k).take i++l.drop i=L at hO hlen hi' hset hgs hss
  have e0:=hO.sto elt_Shelf.len (i:=(i:Int)) (by omega) hi' (j:=0) (vs:=[.int .i64 (k+5*(i:Int))]) (x:=⟨k+5*(i:Int),(gi L i).on,(gi L i).v,(gi L i).w,(gi L i).sum⟩) rfl (by simp)
  rw [Int.toNat_natCast] at e0
  have e1:=e0.sto elt_Shelf.len (i:=(i:Int)) (by omega) (by rw [hset]; exact hlt) (j:=1) (vs:=[.bool (Int.tmod (k+5*(i:Int)+1) 3==0)]) (x:=⟨k+5*(i:Int),Int.tmod (k+5*(i:Int)+1) 3==0,(gi L i).v,(gi L i).w,(gi L i).sum⟩) (by rw [hgs]; rfl) (by simp)
  rw [Int.toNat_natCast,hss] at e1
  have e2:=e1.sto elt_Shelf.len (i:=(i:Int)) (by omega) (by rw [hset]; exact hlt) (j:=2) (vs:=[.int .i64 (k+5*(i:Int)+1+1)]) (x:=⟨k+5*(i:Int),Int.tmod (k+5*(i:Int)+1) 3==0,k+5*(i:Int)+1+1,(gi L i).w,(gi L i).sum⟩) (by rw [hgs]; rfl) (by simp)
  rw [Int.toNat_natCast,hss] at e2
  have e3:=e2.sto elt_Shelf.len (i:=(i:Int)) (by omega) (by rw [hset]; exact hlt) (j:=3) (vs:=[.int .i64 (k+5*(i:Int)+1+1+1)]) (x:=⟨k+5*(i:Int),Int.tmod (k+5*(i:Int)+1) 3==0,k+5*(i:Int)+1+1,k+5*(i:Int)+1+1+1,(gi L i).sum⟩) (by rw [hgs]; rfl) (by simp)
  rw [Int.toNat_natCast,hss] at e3
  have e4:=e3.sto elt_Shelf.len (i:=(i:Int)) (by omega) (by rw [hset]; exact hlt) (j:=4) (vs:=[.int .i64 (k+5*(i:Int)+1+1+1+1)]) (x:=mkS (k+5*(i:Int))) (by rw [hgs]; rfl) (by simp)
  rw [Int.toNat_natCast,hss] at e4
  refine ⟨hix,hO.wr elt_Shelf.len (by simp) (by omega) hi' (j:=0) (by decide),⟨by omega,by omega⟩,by decide,hix,e0.wr elt_Shelf.len (by simp) (by omega) (by rw [hset]; exact hlt) (j:=1) (by decide),⟨by omega,by omega⟩,hix,e1.wr elt_Shelf.len (by simp) (by omega) (by rw [hset]; exact hlt) (j:=2) (by decide),⟨by omega,by omega⟩,hix,e2.wr elt_Shelf.len (by simp) (by omega) (by rw [hset]; exact hlt) (j:=3) (by decide),⟨by omega,by omega⟩,hix,e3.wr elt_Shelf.len (by simp) (by omega) (by rw [hset]; exact hlt) (j:=4) (by decide),⟨by omega,by omega⟩,⟨by omega,by omega⟩,fun w2 hx2 _=>⟨⟨i+1,by congr 2; omega,by omega,?_,?_⟩,?_⟩⟩
  ·have:L.set i (mkS (k+5*(i:Int)))=(markS l.length k).take (i+1)++l.drop (i+1):=by
    have hi2:i<(markS l.length k).length:=by rw [markS_len]; omega
    have hlt':i<l.length:=by omega
    rw [←hL,List.set_append,if_neg (by simp [markS_len]; omega),List.length_take,markS_len,show i - min i l.length=0 by omega,List.drop_eq_getElem_cons hlt',List.set_cons_zero,List.take_succ_eq_append_getElem hi2,List.append_assoc,List.singleton_append]
    have:=markS_gi (n:=l.length) (k:=k) hlt'
    rw [gi_lt hi2] at this
    rw [this]
   rw [this] at e4
   exact e4.ext0 hx2
  ·exact (((((hX.trans (hO.stoX _ _)).trans (e0.stoX _ _)).trans (e1.stoX _ _)).trans (e2.stoX _ _)).trans (e3.stoX _ _)).trans hx2.of_nil
  ·simp only [cntMw,cntM,ctrAt,List.getElem?_cons_zero,List.getElem?_cons_succ]
   omega
 ·have hge:=of_decide_eq_false hge
  have:i=l.length:=by omega
  subst this
  refine fun w2 hx2=>⟨rfl,?_,hX.trans hx2.of_nil⟩
  have e:(markS l.length k).take l.length++l.drop l.length=markS l.length k:=by
   rw [List.drop_length,List.append_nil,List.take_of_length_le (by rw [markS_len]; exact Nat.le_refl _)]
  rw [e] at hO
  exact hO.ext0 hx2
theorem k_heldShelfS {n:Nat} {o:Option Addr} {c:Nat} {k:Int} {w:World} {bs:List Nat} (h:RdS bs w o (markS n k)) (hl:n≤1048576) (hk:0≤k) (hk2:k≤100000000000000000) :
  PureX bs Tryz.prog fn_laws_heldShelfS #[.slice o n c,.int .i64 k] w (.int .i64 (k+5*(n:Int))) :=
 p_laws_heldShelfS o n c k fun wr hx=>by
  have h:=(h.ext hx).less (cs:=[]) (by simp)
  refine loop2 n 0 rfl (fun x i=>i≤n∧x=k+5*(i:Int)) ⟨Nat.zero_le _,by simp⟩ fun x i ⟨hi,hx1⟩=>⟨fun hlt => ?_,fun hge => ?_⟩
  ·subst hx1
   have hlt:=of_decide_eq_true hlt
   have hc:=h i (by omega) (by rw [markS_len]; exact hlt)
   have hix:Ix o n (i:Int):=by have:=h.ix encS_c (i:=(i:Int)) (by omega) (by rw [markS_len]; exact hlt); rwa [markS_len] at this
   rw [markS_gi (by omega)] at hc
   refine ⟨hix,_,hc.1,fun hb=>by simp [mkS] at hb,fun _=>⟨⟨by omega,by omega⟩,hix,_,hc.2.1,by decide,fun hb=>by simp [mkS] at hb,fun _=>⟨⟨by omega,by omega⟩,hix,_,hc.2.2.1,fun hb=>by simp [mkS] at hb,fun _=>⟨⟨by omega,by omega⟩,hix,_,hc.2.2.2.1,fun hb=>by simp [mkS] at hb,fun _=>⟨⟨by omega,by omega⟩,hix,_,hc.2.2.2.2,fun hb=>by simp [mkS] at hb,fun _=>⟨⟨by omega,by omega⟩,⟨by omega,by omega⟩,loop2_next (by omega) ⟨by omega,by omega⟩⟩⟩⟩⟩⟩⟩
  ·have hge:=of_decide_eq_false hge
   have:i=n:=by omega
   subst this
   rw [hx1]
end Go.Proofs.YtajdcjidpolloaaGreatDoor
