/- Part 15 of what the law FnExactCpuBalance needs: the engine, the functions' propositions, the contracts. -/
import Derived.Test.YtajdcjidpolloaaGreatDoorFnExactCpuBalancePn
import Derived.Test.YtajdcjidpolloaaGreatDoorRows
import Derived.ChangeSame
import Derived.ChangeVars
import Derived.JoinedOf
import Derived.LaidLaws
import Derived.LaidHandle
import Derived.Stop.Joined
namespace Go.Proofs.YtajdcjidpolloaaGreatDoor
open Go.ChangeShapes Go.WideShapes Go.RowKit
set_option linter.unusedVariables false
set_option linter.unusedSimpArgs false
set_option maxRecDepth 100000
abbrev laidE : List (String × DataW Unit) := [("errors.errorType", Rows.laid_errors_errorType)]
theorem zakx : Tryz.prog.globalNamed "errors.errorType" = some 0 := by kernel_rfl
theorem zaky : (Tryz.prog.cutTypes.find? (·.1 == "internal/reflectlite.rtype")).map (·.2) = some 189 := by kernel_rfl
theorem zae4:Tryz.prog.types.size=261:=by kernel_rfl
theorem zaa8:((List.range 261).filter fun t=>Tryz.prog.rowNamed t [101,114,114,111,114])=[60]:=by kernel_rfl
theorem zaa7:typeHandle Tryz.prog 60 = .pointer (some ⟨1,60,none⟩):=by kernel_rfl
theorem glob_of_laid {W:World} (h:laidMetH Tryz.prog laidE W):ztf W:=by
 have h':laidMet Tryz.prog [] W∧handlesMet Tryz.prog laidE W:=h
 obtain ⟨name,u,ty,e1,e2,e3,e4,e5⟩:=h'.2 _ (List.mem_singleton.2 rfl)
 have en:name=[101,114,114,111,114]:=(Option.some.inj e1).symm
 subst en
 obtain rfl:=Option.some.inj (zaky.symm.trans e2)
 have hm:ty∈(List.range 261).filter fun t=>Tryz.prog.rowNamed t [101,114,114,111,114]:=List.mem_filter.2 ⟨List.mem_range.2 (by rw [←zae4]; exact e3),e4⟩
 rw [zaa8] at hm
 obtain rfl:=List.mem_singleton.1 hm
 rw [zaa7] at e5
 unfold ztf
 simpa using World.var?_cell zakx e5 0
noncomputable def laidWorld (os:Os):World :=
 let w0:=World.holding Tryz.prog os ⟨#[],#[],[]⟩
 { w0 with heap:=w0.heap.modify 0 fun
   | .cells _ t frozen=>.cells #[.iface 189 (.agg #[.pointer (some ⟨1,60,none⟩)])] t frozen
   | o=>o }
theorem laidWorld_met (os:Os) (args:Array Value):laidMetH Tryz.prog laidE ((laidWorld os).forCall (fun _ _=>0) ⟨#[],args,[]⟩).memory :=
 laidMetH_of_parts (laidMet_nil _ _) (by kernel_rfl)
end Go.Proofs.YtajdcjidpolloaaGreatDoor
namespace Go.Proofs.YtajdcjidpolloaaGreatDoor
open Go.RowKit
set_option linter.unusedVariables false
set_option linter.unusedSimpArgs false
set_option maxRecDepth 10000
def z78 (P:Program) (gf:FuncId) (lb:Array Value) (N:Nat) (vals:Nat→List Value) (I:Nat→World→Prop) (w:World):Prop :=
 ∀(l:Nat) (J:Nat→World→Prop) (Jx:Unit→World→Prop) (W:World),ExtX [] w W→(∀k W1,J k W1→I k W1)→AbX W.heap.size J→AbX W.heap.size Jx →
  (∀k W1,k<N→J k W1→zm0 P (.func (.yield l) #[] #[]) (vals k) W1 fun e W2=>(∃X,ExtX X W1 W2∧∀x∈X,x<W.heap.size)∧((e = .returned (.bool true)∧J (k+1) W2)∨(e = .returned (.bool false)∧Jx () W2))) →
  J 0 W→Calls P gf (#[.func (.yield l) #[] #[]]++lb) W fun e W2=>(∃v,e = .returned v)∧(J N W2∨Jx () W2)
theorem zakh {P:Program} {g:Operand} {ps:Array Tmp} {asg body:Code} {Q:Exit→Act→World→Prop} {a:Act} {w:World} {gf:FuncId} {lb:Array Value} (hg:a.eval g = .func (.func gf) #[] lb) (eg:∀args w,(callFunc gf args).run P w = .ok (.enter gf args) w)
  (I:Nat→World→Prop) (Ix:Code→World→Prop) (N:Nat) (vals:Nat→List Value) (hI:AbX w.heap.size I) (hIx:AbX w.heap.size Ix) (h0:I 0 w) (hps:∀k,(vals k).length=ps.size)
  (hit:z78 P gf lb N vals I w)
  (hround:∀l k W,k<N→I k W→w.heap.size≤l→asg.wpIn (fnc (some l)) 0 P (Exit.then (fun a1 W1=>(∃X,ExtX X W W1∧∀x∈X,x<w.heap.size)∧∀W2,ExtX [l] W1 W2→body.wpIn (fnc (some l)) 0 P (zamx w.heap.size I Ix k W2) a1 W2) (fun _ _ _=>False))
   { tmps:=(ps.zip (vals k).toArray).foldl (fun t (p,v)=>t.setIfInBounds p v) a.tmps,defers:=[] } W)
  (hdone:∀D W,w.heap.size≤D→I N W→W.heap[D]? = some (.deferred (some []))→Q .normal { a with defers:=z4a D::a.defers } W)
  (hstop:∀D c W,w.heap.size≤D→Ix c W→W.heap[D]? = some (.deferred (some []))→c.wpIn (fnc none) 0 P Q { a with defers:=z4a D::a.defers } W) :
  (Code.rangeFunc g ps asg body).wpIn (fnc none) 0 P Q a w:=by
 refine wpIn_rangeFunc fun fn _ => ?_
 obtain ⟨rec,hrec⟩:∃rec:LoopState→Option Code→Loop,rec=fun st pe=>{ state:=st,pending:=pe,fn,tmps:=a.tmps,params:=ps,assign:=asg,body,defers:=w.heap.size }:=⟨_,rfl⟩
 obtain ⟨W1,hW1⟩:∃W1,(w.alloc (.deferred (some []))).alloc (.loop (rec .ready none))=W1:=⟨_,rfl⟩
 have hL1:W1.heap[w.heap.size+1]? = some (.loop (rec .ready none)):=by
  have:=World.alloc_heap_new (w.alloc (.deferred (some []))) (.loop (rec .ready none))
  rw [World.size_alloc] at this
  rw [←hW1]; exact this
 have hD1:W1.heap[w.heap.size]? = some (.deferred (some [])):=by
  rw [←hW1]; exact (Below.heap_alloc _ _ _ (by simp)).trans (World.alloc_heap_new w _)
 have hX1:ExtX [] w W1:=by rw [←hW1]; exact ((ExtX.refl [] w).alloc _).alloc _
 have hsz:W1.heap.size=w.heap.size+2:=by rw [←hW1]; simp
 refine ⟨w.heap.size+1,[z4a w.heap.size],W1,{ target:=.fn (.func gf) lb,args := #[.func (.yield (w.heap.size+1)) #[] #[]] },W1,gf,#[.func (.yield (w.heap.size+1)) #[] #[]]++lb,W1,?_,?_,fun _ _=>trivial,?_,fun hx=>(by simp [fnc,Fence.wide] at hx),zm8 ?_⟩
 ·rw [←hW1,hrec]; exact run_enterLoop_outer _ _ _ _ _
 ·simp only [resolve,hg]
  simp [go_sem]
 ·simp [invoke,eg]
 have keep:∀{W W':World} {ys:List Nat} {x:Nat} {o:Obj},W.heap[x]? = some o→ExtX ys W W'→x∉ys→W'.heap[x]? = some o:=fun {W W' ys x o} h hx hn=>(hx.block x (Array.getElem?_eq_some_iff.1 h).1 hn).trans h
 refine (hit (w.heap.size+1)
  (fun k W=>I k W∧W.heap[w.heap.size+1]? = some (.loop (rec .ready none))∧W.heap[w.heap.size]? = some (.deferred (some [])))
  (fun _ W=>∃c,Ix c W∧W.heap[w.heap.size+1]? = some (.loop (rec .done (some c)))∧W.heap[w.heap.size]? = some (.deferred (some [])))
  W1 hX1 (fun k W h=>h.1)
  (fun k W W' ys h hx hy=>⟨hI k W W' ys h.1 hx fun y hm=>by have:=hy y hm; omega,keep h.2.1 hx fun hm=>by have:=hy _ hm; omega,keep h.2.2 hx fun hm=>by have:=hy _ hm; omega⟩)
  (fun k W W' ys h hx hy=>by
   obtain ⟨c,h1,h2,h3⟩:=h
   exact ⟨c,hIx c W W' ys h1 hx fun y hm=>by have:=hy y hm; omega,keep h2 hx fun hm=>by have:=hy _ hm; omega,keep h3 hx fun hm=>by have:=hy _ hm; omega⟩)
  ?_ ⟨hI 0 _ _ [] h0 hX1 (by simp),hL1,hD1⟩).mono ?_
 ·rintro k W hk ⟨hi,hl,hd⟩
  have hy:=run_yield (P:=P) (args:=(vals k).toArray) hl (by rw [hrec]; simpa using hps k)
  rw [←zaa3] at hy
  rw [hrec] at hy
  refine .inr ⟨w.heap.size+1,fn,_,asg,body,hy,?_⟩
  have hr:=roundIn_of_wpIn (F:=fnc none) (n:=0) (P:=P) (l:=w.heap.size+1) (f:=fn) (assign:=asg) (body:=body) (w:=W) (R:=fun e W2=>(∃X,ExtX X W W2∧∀x∈X,x<W1.heap.size)∧((e = .returned (.bool true)∧I (k+1) W2∧W2.heap[w.heap.size+1]? = some (.loop (rec .ready none))∧W2.heap[w.heap.size]? = some (.deferred (some [])))∨(e = .returned (.bool false)∧∃c,Ix c W2∧W2.heap[w.heap.size+1]? = some (.loop (rec .done (some c)))∧W2.heap[w.heap.size]? = some (.deferred (some []))))) trivial
   (wpIn_mono (hround (w.heap.size+1) k W hk hi (by omega)) fun e a1 W1' hq => ?_)
  ·exact ⟨trivial,fun c cs _=>hr.2 c cs (z6e _ _)⟩
  ·cases e with
   | normal =>
    obtain ⟨⟨X,hX,hXl⟩,hb⟩:=hq
    have hl1:=keep hl hX fun hm=>by have:=hXl _ hm; omega
    have hd1:=keep hd hX fun hm=>by have:=hXl _ hm; omega
    refine ⟨_,run_beginRound hl1 (by rw [hrec]),?_⟩
    have hl2:(W1'.putObj (w.heap.size+1) (.loop { rec .ready none with state:=.busy })).heap[w.heap.size+1]? = some (.loop { rec .ready none with state:=.busy }):=World.putObj_heap_same (Array.getElem?_eq_some_iff.1 hl1).1
    have hd2:=keep hd1 (zcc W1' (w.heap.size+1) (.loop { rec .ready none with state:=.busy })) (by simp)
    refine wpIn_mono (hb _ (zcc _ _ _)) fun e2 a2 W3 hr => ?_
    obtain ⟨⟨X2,hX2,hXl2⟩,hm⟩:=hr
    have hl3:=keep hl2 hX2 fun hm=>by have:=hXl2 _ hm; omega
    have hd3:=keep hd2 hX2 fun hm=>by have:=hXl2 _ hm; omega
    have fin:∀(jump:Option Code),(Instr.endRound (w.heap.size+1) jump).run P W3 = .ok (.bool jump.isNone) (W3.putObj (w.heap.size+1) (.loop (rec (if jump.isNone then .ready else .done) jump))) ∧
      (W3.putObj (w.heap.size+1) (.loop (rec (if jump.isNone then .ready else .done) jump))).heap[w.heap.size+1]? = some (.loop (rec (if jump.isNone then .ready else .done) jump)) ∧
      (W3.putObj (w.heap.size+1) (.loop (rec (if jump.isNone then .ready else .done) jump))).heap[w.heap.size]? = some (.deferred (some [])):=fun jump=>by
     have:=run_endRound (P:=P) jump hl3
     rw [hrec] at this ⊢
     exact ⟨this,World.putObj_heap_same (Array.getElem?_eq_some_iff.1 hl3).1,keep hd3 (zcc _ _ _) (by simp)⟩
    have hall:∀o,∃X,ExtX X W (W3.putObj (w.heap.size+1) o)∧∀x∈X,x<W1.heap.size:=fun o=>by
     have m1:ExtX (X++[w.heap.size+1]++X2) W W1':=hX.mono fun x hm=>by simp [hm]
     have m2:ExtX (X++[w.heap.size+1]++X2) W1' (W1'.putObj (w.heap.size+1) (.loop { rec .ready none with state:=.busy })):=(zcc _ _ _).mono fun x hm=>by
      have:x=w.heap.size+1:=by simpa using hm
      simp [this]
     have m3:ExtX (X++[w.heap.size+1]++X2) _ W3:=hX2.mono fun x hm=>by simp [hm]
     have m4:ExtX (X++[w.heap.size+1]++X2) W3 (W3.putObj (w.heap.size+1) o):=(zcc _ _ _).mono fun x hm=>by
      have:x=w.heap.size+1:=by simpa using hm
      simp [this]
     refine ⟨_,((m1.trans m2).trans m3).trans m4,fun x hm => ?_⟩
     simp only [List.mem_append,List.mem_singleton] at hm
     rcases hm with (hm | hm) | hm
     ·have:=hXl x hm; omega
     ·omega
     ·have:=hXl2 x hm; omega
    cases e2 with
    | normal =>
     obtain ⟨f1,f2,f3⟩:=fin none
     exact ⟨_,_,f1,hall _,.inl ⟨rfl,hI _ _ _ [w.heap.size+1] hm (zcc _ _ _) (by simp),f2,f3⟩⟩
    | ret =>
     obtain ⟨f1,f2,f3⟩:=fin (some .ret)
     exact ⟨_,_,f1,hall _,.inr ⟨rfl,.ret,hIx _ _ _ [w.heap.size+1] hm (zcc _ _ _) (by simp),f2,f3⟩⟩
    | exit i =>
     obtain ⟨f1,f2,f3⟩:=fin (some (.exit i))
     exact ⟨_,_,f1,hall _,.inr ⟨rfl,.exit i,hIx _ _ _ [w.heap.size+1] hm (zcc _ _ _) (by simp),f2,f3⟩⟩
    | goto t =>
     obtain ⟨f1,f2,f3⟩:=fin (some (.goto t))
     exact ⟨_,_,f1,hall _,.inr ⟨rfl,.goto t,hIx _ _ _ [w.heap.size+1] hm (zcc _ _ _) (by simp),f2,f3⟩⟩
    | panic ch=>exact hm.elim
    | outgrown=>exact hm.elim
   | _=>exact hq.elim
 ·rintro e W2 ⟨⟨v,rfl⟩,(⟨hi,hl,hd⟩ | ⟨c,hi,hl,hd⟩)⟩
  ·have:=run_endLoop (P:=P) hl (by rw [hrec]; simp)
   rw [hrec] at this
   exact ⟨none,_,this,hdone _ _ (Nat.le_refl _) (hI _ _ _ [w.heap.size+1] hi (zcc _ _ _) (by simp)) (keep hd (zcc _ _ _) (by simp))⟩
  ·have:=run_endLoop (P:=P) hl (by rw [hrec]; simp)
   rw [hrec] at this
   exact ⟨some c,_,this,hstop _ c _ (Nat.le_refl _) (hIx _ _ _ [w.heap.size+1] hi (zcc _ _ _) (by simp)) (keep hd (zcc _ _ _) (by simp))⟩
end Go.Proofs.YtajdcjidpolloaaGreatDoor
namespace Go.Proofs.YtajdcjidpolloaaGreatDoor
open Go.RowKit
set_option linter.unusedVariables false
set_option linter.unusedSimpArgs false
set_option maxRecDepth 10000
def msL (m:Int) (k:Nat):List Int:=((List.range k).filter fun (i:Nat)=>mHas m (i:Int)).map fun (i:Nat)=>(i:Int)
theorem zsu {m:Int} {k:Nat} (h:mHas m (k:Int)=true):msL m (k+1)=msL m k++[(k:Int)]:=by
 unfold msL
 rw [List.range_succ,List.filter_append]; simp [h]
theorem z64 {m:Int} {k:Nat} (h:mHas m (k:Int)=false):msL m (k+1)=msL m k:=by
 unfold msL
 rw [List.range_succ,List.filter_append]; simp [h]
theorem zalh (m:Int) (k j:Nat):∃r,msL m (k+j)=msL m k++r:=by
 induction j with
 | zero=>exact ⟨[],by simp⟩
 | succ j ih =>
  obtain ⟨r,hr⟩:=ih
  rw [show k+(j+1)=(k+j)+1 from rfl]
  cases h:mHas m ((k+j:Nat):Int) with
  | true=>rw [zsu h,hr]; exact ⟨r++[((k+j:Nat):Int)],by simp⟩
  | false=>rw [z64 h,hr]; exact ⟨r,rfl⟩
theorem zua {α:Type} [Inhabited α] (l r:List α) (x:α):gi (l++(x::r)) (l.length:Int)=x:=by
 unfold gi
 simp
theorem zamo {m:Int} {k:Nat} (hk:k<4) (h:mHas m (k:Int)=true):(msL m k).length<(msL m 4).length∧gi (msL m 4) ((msL m k).length:Int)=(k:Int):=by
 obtain ⟨r,hr⟩:=zalh m (k+1) (4 - (k+1))
 rw [show k+1+(4 - (k+1))=4 by omega,zsu h,List.append_assoc] at hr
 rw [hr]
 exact ⟨by simp,zua _ _ _⟩
theorem zadp {m:Int} {bm:Nat} {I:Nat→World→Prop} {w:World} (hI:∀k W1,I k W1→zaa [] W1 (some ⟨bm,0,none⟩) 0 [.int .i64 m]) :
  z78 Tryz.prog zaw #[.pointer (some ⟨bm,0,none⟩)] (msL m 4).length (fun k=>[.int .i64 (gi (msL m 4) (k:Int))]) I w:=by
 intro l J Jx W hx hJI hAJ hAx hY h0
 refine (znk (.yield l) #[] #[] (some ⟨bm,0,none⟩) (R:=fun v w'=>J (msL m 4).length w'∨Jx () w') ?_).mono fun e w' ⟨v,he,hr⟩=>⟨⟨v,he⟩,hr⟩
 refine zd6 4 0 rfl (fun k w1=>k≤4∧J (msL m k).length w1) (fun w1 hx1 _=>⟨Nat.zero_le _,hAJ 0 _ _ [] h0 hx1 (by simp)⟩) fun k w1 _ ⟨hk,hJ⟩=>⟨fun hlt => ?_,fun hge wr hx2=>.inl ?_⟩
 ·have hlt:=of_decide_eq_true hlt
  have hk4:k<4:=by omega
  refine ⟨m,hI _ _ (hJI _ _ hJ),mHas m (k:Int),z35,fun h wr1 hx1 _ => ?_,fun h=>⟨fun g=>(by cases g),fun _=>⟨⟨by omega,by omega⟩,fun wr5 hx5 _=>zae hk4 ⟨by omega,?_⟩⟩⟩⟩
  ·obtain ⟨hl,hg⟩:=zamo hk4 h
   have hc:=hY (msL m k).length wr1 hl (hAJ _ _ _ [] hJ hx1 (by simp))
   dsimp only at hc
   rw [hg] at hc
   refine hc.mono fun e w2 ⟨_,hr⟩ => ?_
   rcases hr with ⟨he,hJ2⟩ | ⟨he,hJx⟩
   ·refine ⟨true,he,zbc,fun g=>(by rw [h] at g; cases g),fun _=>⟨⟨by omega,by omega⟩,fun wr3 hx3 _=>zae hk4 ⟨by omega,?_⟩⟩⟩
    rw [zsu h,List.length_append]
    exact hAJ _ _ _ [] hJ2 hx3 (by simp)
   ·exact ⟨false,he,zbc,fun _ wr2 hx2=>.inr (hAx _ _ _ [] hJx hx2 (by simp)),fun g=>(by rw [h] at g; cases g)⟩
  ·have h:mHas m (k:Int)=false:=by simpa using h
   rw [z64 h]
   exact hAJ _ _ _ [] hJ hx5 (by simp)
 ·have hge:=of_decide_eq_false hge
  have:k=4:=by omega
  subst this
  exact hAJ _ _ _ [] hJ hx2 (by simp)
theorem zafx {m:Int} {w:World}:Calls Tryz.prog zew #[.int .i64 m] w fun e w'=>∃b:Nat,w.heap.size≤b∧e = .returned (.func (.func zaw) #[] #[.pointer (some ⟨b,0,none⟩)])∧zaa [] w' (some ⟨b,0,none⟩) 0 [.int .i64 m]∧ExtX [] w w':=by
 refine (zol m (R:=fun v w'=>∃b:Nat,w.heap.size≤b∧v = .func (.func zaw) #[] #[.pointer (some ⟨b,0,none⟩)]∧zaa [] w' (some ⟨b,0,none⟩) 0 [.int .i64 m]∧ExtX [] w w') ?_).mono fun e w' ⟨v,he,b,hb,hv,h1⟩=>⟨b,hb,by rw [he,hv],h1⟩
 intro b wb hx hb hcell _ wr hx2
 refine ⟨b,hb,rfl,?_,hx.trans hx2⟩
 have hc:=zan hcell hx2 (by simp)
 exact zav ⟨⟨b,0,none⟩,rfl,by simp,by rw [Addr.add_lit,Nat.add_zero,zjr hc]; rfl⟩
def zfz (lt:Int→Int→Bool) (xs:List Int):Nat→Int×Bool
 | 0=>(0,false)
 | k+1=>if (!(zfz lt xs k).2||lt (gi xs (k:Int)) (zfz lt xs k).1)=true then (gi xs (k:Int),true) else zfz lt xs k
theorem z8r {lt:Int→Int→Bool} {xs:List Int}:∀k:Nat,(zfz lt xs k).2=true→∃j:Nat,j<k∧(zfz lt xs k).1=gi xs (j:Int)
 | 0,h=>by cases h
 | k+1,h=>by
  simp only [zfz] at h ⊢
  split
  ·exact ⟨k,by omega,rfl⟩
  ·rename_i hn
   rw [if_neg hn] at h
   obtain ⟨j,hj,he⟩:=z8r k h
   exact ⟨j,by omega,he⟩
theorem zadd:zgx Tryz.f136=seqs zc6 (.seq (.seq zeh (.block 0 (.rangeFunc (.tmp 9) #[10] zeg zdy))) zdz):=by kernel_rfl
structure zaau (b b1 b2:Nat) (bef:Value) (st:Int×Bool) (W:World):Prop where
 c0:∃t,W.heap[b]? = some (.cells ([bef]:List Value).toArray t (0,0))
 c1:∃t,W.heap[b1]? = some (.cells ([.int .i64 st.1]:List Value).toArray t (0,0))
 c2:∃t,W.heap[b2]? = some (.cells ([.bool st.2]:List Value).toArray t (0,0))
theorem zaau.ext {b b1 b2:Nat} {bef:Value} {st:Int×Bool} {W W':World} {ys:List Nat} (h:zaau b b1 b2 bef st W) (hx:ExtX ys W W') (h0:b∉ys) (h1:b1∉ys) (h2:b2∉ys):zaau b b1 b2 bef st W' :=
 ⟨h.c0.imp fun _ h=>zan h hx h0,h.c1.imp fun _ h=>zan h hx h1,h.c2.imp fun _ h=>zan h hx h2⟩
theorem znh {W:World} {b:Nat} {v:Value} (h:∃t,W.heap[b]? = some (.cells ([v]:List Value).toArray t (0,0))):zaa [] W (some ⟨b,0,none⟩) 0 [v]:=by
 obtain ⟨t,h⟩:=h
 exact zav ⟨⟨b,0,none⟩,rfl,by simp,by rw [Addr.add_lit,Nat.add_zero,zjr h]; rfl⟩
theorem zsj {a:Array Value} {i:Nat} {v:Value} (h:i<a.size):(a.setIfInBounds i v).getD i undef=v:=by
 rw [Array.getD_eq_getD_getElem?,Array.getElem?_setIfInBounds_self_of_lt h]; rfl
theorem zf8 {a:Array Value} {i j:Nat} {v:Value} (h:i≠j):(a.setIfInBounds i v).getD j undef=a.getD j undef:=by
 rw [Array.getD_eq_getD_getElem?,Array.getD_eq_getD_getElem?,Array.getElem?_setIfInBounds_ne h]
theorem zva {P:Program} {f:FuncId} {fn:Func} {body:Code} {n:Nat} {args:List Value} {w:World} {R:Ending→World→Prop} (hf:P.funcs[f]? = some fn) (hb:fn.body=some body) (hn:fn.ntmps=n) (hl:args.length≤n)
  (h:∀a:Act,a.tmps.size=n→(∀(i:Nat) v,args[i]? = some v→a.tmps.getD i undef=v)→a.defers=[]→body.wpIn (fnc none) 0 P (bodyPostM (fnc none) 0 P fn R) a w):Calls P f args.toArray w R:=by
 refine zaa4 hf hb (h _ ?_ ?_ rfl)
 ·simp [hn]; omega
 ·intro i v hv
  rw [Array.getD_eq_getD_getElem?,Array.getElem?_append_left (by simpa using (List.getElem?_eq_some_iff.1 hv).1)]
  simp [hv]
theorem zaju {w:World} {o:Option Addr} {n:Nat} {vs:List Value}:(sto w o n vs).heap.size=w.heap.size:=by
 cases o with
 | none=>rfl
 | some a=>exact zlh vs w a n
theorem zaca {i:Tmp} {v:Value} {t:Array Value}:((#[i].zip [v].toArray).foldl (fun (t:Array Value) (p,v)=>t.setIfInBounds p v) t)=t.setIfInBounds i v:=by simp
theorem zamm {gf:FuncId} {lb:Array Value} {bF:Fn} {bA bK:Array Value} {xs:List Int} {lt:Int→Int→Bool} {w:World} (eg:∀args w,(callFunc gf args).run Tryz.prog w = .ok (.enter gf args) w)
  (hit:∀(I:Nat→World→Prop) (W:World),ExtX [] w W→(∀k W1,I k W1→ExtX [] w W1)→z78 Tryz.prog gf lb xs.length (fun k=>[.int .i64 (gi xs (k:Int))]) I W)
  (hb:∀i j:Nat,i<xs.length→j<xs.length→∀W1,ExtX [] w W1→zm0 Tryz.prog (.func bF bA bK) [.int .i64 (gi xs (i:Int)),.int .i64 (gi xs (j:Int))] W1 fun e W2=>e = .returned (.bool (lt (gi xs (i:Int)) (gi xs (j:Int))))∧ExtX [] W1 W2) :
  Calls Tryz.prog zn1 #[.func (.func gf) #[] lb,.func bF bA bK] w fun e w'=>e = .returned (.tuple #[.int .i64 (zfz lt xs xs.length).1,.bool (zfz lt xs xs.length).2])∧ExtX [] w w':=by
 refine zva (args:=[.func (.func gf) #[] lb,.func bF bA bK]) (n:=22) Tryz.func136 (body:=zgx Tryz.f136) rfl (by kernel_rfl) (by simp) fun a hn ha hd => ?_
 rw [zadd]
 have a0:=ha 0 _ rfl
 have a1:=ha 1 _ rfl
 refine zrb none bF bA bK (R:=fun e vs w1=>e = .normal∧∃b b1 b2:Nat,vs=[.pointer (some ⟨b,0,none⟩),.pointer (some ⟨b1,0,none⟩),.pointer (some ⟨b2,0,none⟩)]∧b<b1∧b1<b2∧w.heap.size≤b∧b2<w1.heap.size∧zaau b b1 b2 (.func bF bA bK) (0,false) w1∧ExtX [] w w1) hn ?_ ?_ ?_ (fun e vs a1 w1 hne hR _=>absurd hR.1 hne)
 ·intro p hp
  simp only [List.mem_cons,List.not_mem_nil,or_false] at hp
  subst hp
  exact ⟨Nat.le_of_ble_eq_true rfl,a1⟩
 ·intro b wb hx hb0 hcell _ b1 wb1 hx1 hb1 hcell1 _ b2 wb2 hx2 hb2 hcell2 _
  have l0:=zjn hcell
  have l1:=zjn hcell1
  have l2:=zjn hcell2
  have s1:=hx1.size
  have s2:=hx2.size
  refine ⟨zpc (k0:=0) hcell2 (by simp) (by simp),fun wr hx3 => ?_⟩
  have hs:ExtX [b2] wb2 (sto wb2 (some ⟨b2,0,none⟩) 0 [.bool false]):=zh2 (bs:=[b2]) (by simp)
  have s3:=hx3.size
  rw [zaju] at s3
  refine ⟨rfl,b,b1,b2,rfl,by omega,by omega,hb0,by omega,⟨⟨_,zan (zan (zan (zan hcell hx1 (by simp)) hx2 (by simp)) hs (by simp; omega)) hx3 (by simp)⟩,⟨_,zan (zan (zan hcell1 hx2 (by simp)) hs (by simp; omega)) hx3 (by simp)⟩,⟨_,zan (zo9 hcell2) hx3 (by simp)⟩⟩,?_⟩
  exact (((hx.trans hx1).trans hx2).fresh hs fun x hm=>.inl (by
   have:x=b2:=by simpa using hm
   have:=hx.size
   omega)).trans hx3
 rintro vs a2 w1 ⟨_,b,b1,b2,rfl,h01,h12,hwb,hb2,hB,hX⟩ fo
 obtain ⟨o3,o6,o7⟩:a2.tmps.getD 3 undef = .pointer (some ⟨b,0,none⟩)∧a2.tmps.getD 6 undef = .pointer (some ⟨b1,0,none⟩)∧a2.tmps.getD 7 undef = .pointer (some ⟨b2,0,none⟩):=by
  have:=fo.out
  simp only [List.map_cons,List.map_nil,List.cons.injEq,and_true] at this
  exact this
 have o0:a2.tmps.getD 0 undef = .func (.func gf) #[] lb:=(fo.kept 0 (by decide +kernel)).trans a0
 refine wpIn_seq (wpIn_seq (zra none (.func gf) #[] lb (R:=fun e vs w2=>e = .normal∧vs=[.func (.func gf) #[] lb]∧ExtX [] w1 w2) (by rw [fo.size,hn]) (fun p hp => ?_) (fun wr hx=>⟨rfl,rfl,hx⟩) fun e vs a3 w2 hR fo3 => ?_))
 ·simp only [List.mem_cons,List.not_mem_nil,or_false] at hp
  subst hp
  exact ⟨Nat.le_of_ble_eq_true rfl,o0⟩
 obtain ⟨rfl,rfl,hx2⟩:=hR
 have p9:a3.tmps.getD 9 undef = .func (.func gf) #[] lb:=by
  have:=fo3.out
  simpa using this
 have p3:=(fo3.kept 3 (by decide +kernel)).trans o3
 have p6:=(fo3.kept 6 (by decide +kernel)).trans o6
 have p7:=(fo3.kept 7 (by decide +kernel)).trans o7
 have hsz3:a3.tmps.size=22:=by rw [fo3.size,fo.size,hn]
 have hd3:a3.defers=[]:=by rw [fo3.defers,fo.defers,hd]
 have hX2:=hX.trans hx2
 have hB2:=hB.ext hx2 (by simp) (by simp) (by simp)
 have hlt2:b2<w2.heap.size:=Nat.lt_of_lt_of_le hb2 hx2.size
 refine wpIn_block (zakh (lb:=lb) (gf:=gf) p9 eg (fun k W=>zaau b b1 b2 (.func bF bA bK) (zfz lt xs k) W∧ExtX [] w W) (fun _ _=>False) xs.length (fun k=>[.int .i64 (gi xs (k:Int))]) (fun k W W' ys h hx hy=>⟨h.1.ext hx (fun hm=>by have:=hy _ hm; omega) (fun hm=>by have:=hy _ hm; omega) (fun hm=>by have:=hy _ hm; omega),h.2.fresh hx fun x hm=>.inl (by have:=hy x hm; have:=hX2.size; omega)⟩) (fun k W W' ys h _ _=>h) ⟨hB2,hX2⟩ (fun k=>rfl) (hit _ w2 hX2 fun k W1 h=>h.2) ?_ ?_ (fun D c W _ h _=>h.elim))
 ·intro l k W hk ⟨hBk,hXk⟩ hl
  rw [zaca]
  refine zq9 (some l) (gi xs (k:Int)) (R:=fun e vs W1=>e = .normal∧vs=[.int .i64 (gi xs (k:Int))]∧ExtX [] W W1) ?_ (fun p hp => ?_) (fun wr hx=>⟨rfl,rfl,hx⟩) fun e vs a4 W1 hR fo4 => ?_
  ·simpa using hsz3
  ·simp only [List.mem_cons,List.not_mem_nil,or_false] at hp
   subst hp
   exact ⟨Nat.le_of_ble_eq_true rfl,zsj (i:=10) (by rw [hsz3]; decide)⟩
  obtain ⟨rfl,rfl,hx4⟩:=hR
  have q8:a4.tmps.getD 8 undef = .int .i64 (gi xs (k:Int)):=by
   have:=fo4.out
   simpa using this
  have q3:a4.tmps.getD 3 undef = .pointer (some ⟨b,0,none⟩):=((fo4.kept 3 (by decide +kernel)).trans (zf8 (i:=10) (j:=3) (by decide))).trans p3
  have q6:a4.tmps.getD 6 undef = .pointer (some ⟨b1,0,none⟩):=((fo4.kept 6 (by decide +kernel)).trans (zf8 (i:=10) (j:=6) (by decide))).trans p6
  have q7:a4.tmps.getD 7 undef = .pointer (some ⟨b2,0,none⟩):=((fo4.kept 7 (by decide +kernel)).trans (zf8 (i:=10) (j:=7) (by decide))).trans p7
  refine ⟨⟨[],hx4,by simp⟩,fun W2 hx5 => ?_⟩
  have hB5:=(hBk.ext hx4 (by simp) (by simp) (by simp)).ext hx5 (by simp; omega) (by simp; omega) (by simp; omega)
  have hX5:ExtX [] w W2:=(hXk.trans hx4).fresh hx5 fun x hm=>.inl (by
   have:x=l:=by simpa using hm
   have:=hX2.size
   omega)
  have fin:∀(W3:World),ExtX [] W2 W3→∀wr,ExtX [] (sto (sto W3 (some ⟨b1,0,none⟩) 0 [.int .i64 (gi xs (k:Int))]) (some ⟨b2,0,none⟩) 0 [.bool true]) wr→(∃X,ExtX X W2 wr∧∀x∈X,x<w2.heap.size)∧zaau b b1 b2 (.func bF bA bK) (gi xs (k:Int),true) wr∧ExtX [] w wr:=fun W3 hx6 wr hx7=>by
   have hB6:=hB5.ext hx6 (by simp) (by simp) (by simp)
   obtain ⟨t1,c1⟩:=hB6.c1
   obtain ⟨t2,c2⟩:=hB6.c2
   have e1:ExtX [b1] W3 (sto W3 (some ⟨b1,0,none⟩) 0 [.int .i64 (gi xs (k:Int))]):=zh2 (bs:=[b1]) (by simp)
   have e2:ExtX [b2] (sto W3 (some ⟨b1,0,none⟩) 0 [.int .i64 (gi xs (k:Int))]) (sto (sto W3 (some ⟨b1,0,none⟩) 0 [.int .i64 (gi xs (k:Int))]) (some ⟨b2,0,none⟩) 0 [.bool true]):=zh2 (bs:=[b2]) (by simp)
   have eX:ExtX [b1,b2] W2 wr:=((hx6.of_nil.trans (e1.mono (by simp))).trans (e2.mono (by simp))).trans hx7.of_nil
   have d1:=zan (zan (zo9 (vs:=[.int .i64 (gi xs (k:Int))]) (n:=0) c1) e2 (by simp; omega)) hx7 (by simp)
   have d2:=zan (zo9 (vs:=[.bool true]) (n:=0) (zan c2 e1 (by simp; omega))) hx7 (by simp)
   refine ⟨⟨[b1,b2],eX,fun x hm => ?_⟩,⟨hB5.c0.imp fun _ h=>zan h eX (by simp; omega),⟨t1,d1⟩,⟨t2,d2⟩⟩,hX5.fresh eX fun x hm=>.inl ?_⟩
   ·simp only [List.mem_cons,List.not_mem_nil,or_false] at hm
    omega
   ·simp only [List.mem_cons,List.not_mem_nil,or_false] at hm
    omega
  refine zpv (some l) (some ⟨b,0,none⟩) (some ⟨b1,0,none⟩) (some ⟨b2,0,none⟩) (gi xs (k:Int)) (R:=fun e _ W3=>e = .normal∧(∃X,ExtX X W2 W3∧∀x∈X,x<w2.heap.size)∧zaau b b1 b2 (.func bF bA bK) (zfz lt xs (k+1)) W3∧ExtX [] w W3) (by rw [fo4.size]; simpa using hsz3) (fun p hp => ?_) ?_ fun e vs a5 W3 hR _ => ?_
  ·simp only [List.mem_cons,List.not_mem_nil,or_false] at hp
   rcases hp with rfl | rfl | rfl | rfl
   ·exact ⟨Nat.le_of_ble_eq_true rfl,q3⟩
   ·exact ⟨Nat.le_of_ble_eq_true rfl,q6⟩
   ·exact ⟨Nat.le_of_ble_eq_true rfl,q7⟩
   ·exact ⟨Nat.le_of_ble_eq_true rfl,q8⟩
  ·refine ⟨(zfz lt xs k).2,znh hB5.c2,bF,bA,bK,fun _=>znh hB5.c0,(zfz lt xs k).1,fun _=>znh hB5.c1,fun hs wr hx6 _ => ?_,fun hs=>⟨fun _ => ?_,fun h=>(by cases h)⟩⟩
   ·have hs2:(zfz lt xs k).2=true:=by simpa using hs
    obtain ⟨j,hj,hje⟩:=z8r k hs2
    have hc:=hb k j hk (by omega) wr (hX5.trans hx6)
    rw [←hje] at hc
    refine hc.mono fun e W3 ⟨he,hx7⟩=>⟨_,he,zbc,fun g => ?_,fun g wr2 hx8 => ?_⟩
    ·have hB7:=(hB5.ext hx6 (by simp) (by simp) (by simp)).ext hx7 (by simp) (by simp) (by simp)
     obtain ⟨t1,c1⟩:=hB7.c1
     obtain ⟨t2,c2⟩:=hB7.c2
     have e1:ExtX [b1] W3 (sto W3 (some ⟨b1,0,none⟩) 0 [.int .i64 (gi xs (k:Int))]):=zh2 (bs:=[b1]) (by simp)
     refine ⟨zpc (k0:=0) c1 (by simp) (by simp),zpc (k0:=0) (zan c2 e1 (by simp; omega)) (by simp) (by simp),fun wr1 hx9 => ?_⟩
     obtain ⟨f1,f2,f3⟩:=fin W3 (hx6.trans hx7) wr1 hx9
     refine ⟨rfl,f1,?_,f3⟩
     rw [show zfz lt xs (k+1)=(gi xs (k:Int),true) from if_pos g]
     exact f2
    ·have hx9:=(hx6.trans hx7).trans hx8
     refine ⟨rfl,⟨[],hx9,by simp⟩,?_,hX5.trans hx9⟩
     rw [show zfz lt xs (k+1)=zfz lt xs k from if_neg (by rw [g]; decide)]
     exact hB5.ext hx9 (by simp) (by simp) (by simp)
   ·have hs2:(zfz lt xs k).2=false:=by
     cases h:(zfz lt xs k).2 with
     | false=>rfl
     | true=>exact absurd (by rw [h]; rfl) hs
    obtain ⟨t1,c1⟩:=hB5.c1
    obtain ⟨t2,c2⟩:=hB5.c2
    have e1:ExtX [b1] W2 (sto W2 (some ⟨b1,0,none⟩) 0 [.int .i64 (gi xs (k:Int))]):=zh2 (bs:=[b1]) (by simp)
    refine ⟨zpc (k0:=0) c1 (by simp) (by simp),zpc (k0:=0) (zan c2 e1 (by simp; omega)) (by simp) (by simp),fun wr1 hx9 => ?_⟩
    obtain ⟨f1,f2,f3⟩:=fin W2 (ExtX.refl _ _) wr1 hx9
    refine ⟨rfl,f1,?_,f3⟩
    rw [show zfz lt xs (k+1)=(gi xs (k:Int),true) from if_pos (by rw [hs2]; rfl)]
    exact f2
  ·obtain ⟨rfl,hX3,hI3⟩:=hR
   exact ⟨hX3,hI3⟩
 ·intro D W hD ⟨hBn,hXn⟩ hdD
  refine zpw none (some ⟨b1,0,none⟩) (some ⟨b2,0,none⟩) (R:=fun e vs W1=>e = .ret∧vs=[.int .i64 (zfz lt xs xs.length).1,.bool (zfz lt xs xs.length).2]∧ExtX [] W W1) hsz3 (fun p hp => ?_) ⟨_,znh hBn.c1,_,znh hBn.c2,fun wr hx=>⟨rfl,rfl,hx⟩⟩ fun e vs a6 W1 hR fo6 => ?_
  ·simp only [List.mem_cons,List.not_mem_nil,or_false] at hp
   rcases hp with rfl | rfl
   ·exact ⟨Nat.le_of_ble_eq_true rfl,p6⟩
   ·exact ⟨Nat.le_of_ble_eq_true rfl,p7⟩
  ·obtain ⟨rfl,rfl,hx6⟩:=hR
   have hr:∀w',(results Tryz.f136 a6.tmps).run Tryz.prog w' = .ok (.tuple #[.int .i64 (zfz lt xs xs.length).1,.bool (zfz lt xs xs.length).2]) w':=fun w'=>by
    rw [results_tmp2 (t:=4) (u:=5) (by kernel_rfl)]
    have:=fo6.out
    simp only [List.map_cons,List.map_nil,List.cons.injEq,and_true] at this
    rw [this.1,this.2]
   exact (zui (D:=D) (by rw [fo6.defers]; simp [hd3]) ((hx6.block D (Array.getElem?_eq_some_iff.1 hdD).1 (by simp)).trans hdD) hr fun w' hx=>⟨rfl,(hXn.trans hx6).fresh hx fun x hm=>.inl (by
    have:x=D:=by simpa using hm
    have:=hX2.size
    omega)⟩).2
theorem zix {W1 W2:World} {b:Nat} {v:Value} {ys:List Nat} (h:zaa [] W1 (some ⟨b,0,none⟩) 0 [v]) (hx:ExtX ys W1 W2) (hb:b∉ys):zaa [] W2 (some ⟨b,0,none⟩) 0 [v]:=by
 obtain ⟨a,ha,_,hc⟩:=h.get 0 _ rfl
 cases ha
 have hw:zm1 ys W1 (some ⟨b,0,none⟩) (0+0) v:=⟨_,rfl,hb,hc⟩
 obtain ⟨a2,ha2,_,hc2⟩:=hw.ext hx
 cases ha2
 exact zav ⟨_,rfl,by simp,hc2⟩
theorem zyz {W1:World} {b:Nat} {v:Value} (h:zaa [] W1 (some ⟨b,0,none⟩) 0 [v]):b<W1.heap.size:=by
 obtain ⟨a,ha,_,hc⟩:=h.get 0 _ rfl
 cases ha
 have:=World.block_lt_of_cell? W1 _ hc
 rwa [zcu] at this
end Go.Proofs.YtajdcjidpolloaaGreatDoor
namespace Go.Proofs.YtajdcjidpolloaaGreatDoor
open Go.RowKit
set_option linter.unusedVariables false
set_option linter.unusedSimpArgs false
set_option maxRecDepth 10000
def mkC (k:Int):Cpu:=⟨Int.tmod (k) 3==0,k+1,k+1+1,k+1+1+1,k+1+1+1+1⟩
def zj0 (n:Nat) (k:Int):List Cpu:=(List.range n).map fun (i:Nat)=>mkC (k+5*(i:Int))
theorem zhy (n:Nat) (k:Int):(zj0 n k).length=n:=by simp [zj0]
theorem zaci {n:Nat} {k:Int} {i:Nat} (h:i<n):gi (zj0 n k) (i:Int)=mkC (k+5*(i:Int)):=by
 rw [zd9 (by rw [zhy]; exact h)]; simp [zj0]
theorem zady {base:Nat} {l:List Cpu} {o:Option Addr} {c:Nat} {k:Int} {w:World} (h:Own encC 5 za1 base w o c l) (hl:l.length≤1048576) (hk:0≤k) (hk2:k≤100000000000000000) :
  Calls Tryz.prog zi8 #[.slice o l.length c,.int .i64 k] w fun e w'=>e = .returned (.int .i64 (k+5*(l.length:Int)))∧Own encC 5 za1 base w' o c (zj0 l.length k)∧ExtX (zau o) w w':=by
 refine (zy5 o l.length c k (R:=fun v w'=>v = .int .i64 (k+5*(l.length:Int))∧Own encC 5 za1 base w' o c (zj0 l.length k)∧ExtX (zau o) w w') ?_).mono fun e w' ⟨v,he,hv,h1⟩=>⟨by rw [he,hv],h1⟩
 refine ⟨fun vs w1=>∃(i:Nat),vs=[.int .i64 (k+5*(i:Int)),.int .i64 (i:Int)]∧i≤l.length∧Own encC 5 za1 base w1 o c ((zj0 l.length k).take i++l.drop i)∧ExtX (zau o) w w1,zcv l.length 1,fun wr hx _=>⟨0,by simp,Nat.zero_le _,by simpa using h.ext0 hx,hx.of_nil⟩,?_⟩
 rintro k1 i1 w1 _ ⟨i,he,hi,hO,hX⟩
 simp only [List.cons.injEq,Value.int.injEq,true_and,and_true] at he
 obtain ⟨rfl,rfl⟩:=he
 have hlen:((zj0 l.length k).take i++l.drop i).length=l.length:=by simp [zhy]; omega
 refine ⟨fun hlt => ?_,fun hge => ?_⟩
 ·have hlt:=of_decide_eq_true hlt
  have hi':(i:Int)<(((zj0 l.length k).take i++l.drop i).length:Int):=by rw [hlen]; exact hlt
  have hix:Ix o l.length (i:Int):=by have:=hO.ix (i:=(i:Int)) (by omega) hi'; rwa [hlen] at this
  have hset:∀x,(((zj0 l.length k).take i++l.drop i).set i x).length=l.length:=fun x=>by rw [List.length_set]; exact hlen
  have hgs:∀x,gi (((zj0 l.length k).take i++l.drop i).set i x) (i:Int)=x:=fun x=>by
   have:=zci ((zj0 l.length k).take i++l.drop i) x (i:=(i:Int)) (by omega) hi' (j:=(i:Int)) (by omega)
   rw [if_pos rfl,Int.toNat_natCast] at this
   exact this
  have hss:∀x y,(((zj0 l.length k).take i++l.drop i).set i x).set i y=((zj0 l.length k).take i++l.drop i).set i y:=fun x y=>by rw [List.set_set]
  generalize hL:(zj0 l.length k).take i++l.drop i=L at hO hlen hi' hset hgs hss
  have e0:=hO.sto zda.len (i:=(i:Int)) (by omega) hi' (j:=0) (vs:=[.bool (Int.tmod (k+5*(i:Int)) 3==0)]) (x:=⟨Int.tmod (k+5*(i:Int)) 3==0,(gi L i).cur,(gi L i).ran,(gi L i).busy,(gi L i).idle⟩) rfl (by simp)
  rw [Int.toNat_natCast] at e0
  have e1:=e0.sto zda.len (i:=(i:Int)) (by omega) (by rw [hset]; exact hlt) (j:=1) (vs:=[.int .i64 (k+5*(i:Int)+1)]) (x:=⟨Int.tmod (k+5*(i:Int)) 3==0,k+5*(i:Int)+1,(gi L i).ran,(gi L i).busy,(gi L i).idle⟩) (by rw [hgs]; rfl) (by simp)
  rw [Int.toNat_natCast,hss] at e1
  have e2:=e1.sto zda.len (i:=(i:Int)) (by omega) (by rw [hset]; exact hlt) (j:=2) (vs:=[.int .i64 (k+5*(i:Int)+1+1)]) (x:=⟨Int.tmod (k+5*(i:Int)) 3==0,k+5*(i:Int)+1,k+5*(i:Int)+1+1,(gi L i).busy,(gi L i).idle⟩) (by rw [hgs]; rfl) (by simp)
  rw [Int.toNat_natCast,hss] at e2
  have e3:=e2.sto zda.len (i:=(i:Int)) (by omega) (by rw [hset]; exact hlt) (j:=3) (vs:=[.int .i64 (k+5*(i:Int)+1+1+1)]) (x:=⟨Int.tmod (k+5*(i:Int)) 3==0,k+5*(i:Int)+1,k+5*(i:Int)+1+1,k+5*(i:Int)+1+1+1,(gi L i).idle⟩) (by rw [hgs]; rfl) (by simp)
  rw [Int.toNat_natCast,hss] at e3
  have e4:=e3.sto zda.len (i:=(i:Int)) (by omega) (by rw [hset]; exact hlt) (j:=4) (vs:=[.int .i64 (k+5*(i:Int)+1+1+1+1)]) (x:=mkC (k+5*(i:Int))) (by rw [hgs]; rfl) (by simp)
  rw [Int.toNat_natCast,hss] at e4
  refine ⟨by decide,hix,hO.wr zda.len (by simp) (by omega) hi' (j:=0) (by decide),⟨by omega,by omega⟩,hix,e0.wr zda.len (by simp) (by omega) (by rw [hset]; exact hlt) (j:=1) (by decide),⟨by omega,by omega⟩,hix,e1.wr zda.len (by simp) (by omega) (by rw [hset]; exact hlt) (j:=2) (by decide),⟨by omega,by omega⟩,hix,e2.wr zda.len (by simp) (by omega) (by rw [hset]; exact hlt) (j:=3) (by decide),⟨by omega,by omega⟩,hix,e3.wr zda.len (by simp) (by omega) (by rw [hset]; exact hlt) (j:=4) (by decide),⟨by omega,by omega⟩,⟨by omega,by omega⟩,fun w2 hx2 _=>⟨⟨i+1,by congr 2; omega,by omega,?_,?_⟩,?_⟩⟩
  ·have:L.set i (mkC (k+5*(i:Int)))=(zj0 l.length k).take (i+1)++l.drop (i+1):=by
    have hi2:i<(zj0 l.length k).length:=by rw [zhy]; omega
    have hlt':i<l.length:=by omega
    rw [←hL,List.set_append,if_neg (by simp [zhy]; omega),List.length_take,zhy,show i - min i l.length=0 by omega,List.drop_eq_getElem_cons hlt',List.set_cons_zero,List.take_succ_eq_append_getElem hi2,List.append_assoc,List.singleton_append]
    have:=zaci (n:=l.length) (k:=k) hlt'
    rw [zd9 hi2] at this
    rw [this]
   rw [this] at e4
   exact e4.ext0 hx2
  ·exact (((((hX.trans (hO.stoX _ _)).trans (e0.stoX _ _)).trans (e1.stoX _ _)).trans (e2.stoX _ _)).trans (e3.stoX _ _)).trans hx2.of_nil
  ·simp only [zcv,cntM,zcw,List.getElem?_cons_zero,List.getElem?_cons_succ]
   omega
 ·have hge:=of_decide_eq_false hge
  have:i=l.length:=by omega
  subst this
  refine fun w2 hx2=>⟨rfl,?_,hX.trans hx2.of_nil⟩
  have e:(zj0 l.length k).take l.length++l.drop l.length=zj0 l.length k:=by
   rw [List.drop_length,List.append_nil,List.take_of_length_le (by rw [zhy]; exact Nat.le_refl _)]
  rw [e] at hO
  exact hO.ext0 hx2
theorem zadu {n:Nat} {o:Option Addr} {c:Nat} {k:Int} {w:World} {bs:List Nat} (h:RdC bs w o (zj0 n k)) (hl:n≤1048576) (hk:0≤k) (hk2:k≤100000000000000000) :
  zab bs Tryz.prog zi6 #[.slice o n c,.int .i64 k] w (.int .i64 (k+5*(n:Int))) :=
 z0m o n c k fun wr hx=>by
  have h:=(h.ext hx).less (cs:=[]) (by simp)
  refine zmr n 0 rfl (fun x i=>i≤n∧x=k+5*(i:Int)) ⟨Nat.zero_le _,by simp⟩ fun x i ⟨hi,hx1⟩=>⟨fun hlt => ?_,fun hge => ?_⟩
  ·subst hx1
   have hlt:=of_decide_eq_true hlt
   have hc:=h i (by omega) (by rw [zhy]; exact hlt)
   have hix:Ix o n (i:Int):=by have:=h.ix zf2 (i:=(i:Int)) (by omega) (by rw [zhy]; exact hlt); rwa [zhy] at this
   rw [zaci (by omega)] at hc
   refine ⟨hix,_,hc.1,by decide,fun hb=>by simp [mkC] at hb,fun _=>⟨⟨by omega,by omega⟩,hix,_,hc.2.1,fun hb=>by simp [mkC] at hb,fun _=>⟨⟨by omega,by omega⟩,hix,_,hc.2.2.1,fun hb=>by simp [mkC] at hb,fun _=>⟨⟨by omega,by omega⟩,hix,_,hc.2.2.2.1,fun hb=>by simp [mkC] at hb,fun _=>⟨⟨by omega,by omega⟩,hix,_,hc.2.2.2.2,fun hb=>by simp [mkC] at hb,fun _=>⟨⟨by omega,by omega⟩,⟨by omega,by omega⟩,zap (by omega) ⟨by omega,by omega⟩⟩⟩⟩⟩⟩⟩
  ·have hge:=of_decide_eq_false hge
   have:i=n:=by omega
   subst this
   rw [hx1]
def mkT (k:Int):Tsk:=⟨k,k+1,k+1+1,k+1+1+1,k+1+1+1+1,k+1+1+1+1+1,k+1+1+1+1+1+1,k+1+1+1+1+1+1+1,k+1+1+1+1+1+1+1+1⟩
def zlc (n:Nat) (k:Int):List Tsk:=(List.range n).map fun (i:Nat)=>mkT (k+9*(i:Int))
theorem zhz (n:Nat) (k:Int):(zlc n k).length=n:=by simp [zlc]
theorem zacl {n:Nat} {k:Int} {i:Nat} (h:i<n):gi (zlc n k) (i:Int)=mkT (k+9*(i:Int)):=by
 rw [zd9 (by rw [zhz]; exact h)]; simp [zlc]
theorem zabn {base:Nat} {l:List Tsk} {o:Option Addr} {c:Nat} {k:Int} {w:World} (h:Own encT 9 zaq base w o c l) (hl:l.length≤1048576) (hk:0≤k) (hk2:k≤100000000000000000) :
  Calls Tryz.prog zid #[.slice o l.length c,.int .i64 k] w fun e w'=>e = .returned (.int .i64 (k+9*(l.length:Int)))∧Own encT 9 zaq base w' o c (zlc l.length k)∧ExtX (zau o) w w':=by
 refine (zwj o l.length c k (R:=fun v w'=>v = .int .i64 (k+9*(l.length:Int))∧Own encT 9 zaq base w' o c (zlc l.length k)∧ExtX (zau o) w w') ?_).mono fun e w' ⟨v,he,hv,h1⟩=>⟨by rw [he,hv],h1⟩
 refine ⟨fun vs w1=>∃(i:Nat),vs=[.int .i64 (k+9*(i:Int)),.int .i64 (i:Int)]∧i≤l.length∧Own encT 9 zaq base w1 o c ((zlc l.length k).take i++l.drop i)∧ExtX (zau o) w w1,zcv l.length 1,fun wr hx _=>⟨0,by simp,Nat.zero_le _,by simpa using h.ext0 hx,hx.of_nil⟩,?_⟩
 rintro k1 i1 w1 _ ⟨i,he,hi,hO,hX⟩
 simp only [List.cons.injEq,Value.int.injEq,true_and,and_true] at he
 obtain ⟨rfl,rfl⟩:=he
 have hlen:((zlc l.length k).take i++l.drop i).length=l.length:=by simp [zhz]; omega
 refine ⟨fun hlt => ?_,fun hge => ?_⟩
 ·have hlt:=of_decide_eq_true hlt
  have hi':(i:Int)<(((zlc l.length k).take i++l.drop i).length:Int):=by rw [hlen]; exact hlt
  have hix:Ix o l.length (i:Int):=by have:=hO.ix (i:=(i:Int)) (by omega) hi'; rwa [hlen] at this
  have hset:∀x,(((zlc l.length k).take i++l.drop i).set i x).length=l.length:=fun x=>by rw [List.length_set]; exact hlen
  have hgs:∀x,gi (((zlc l.length k).take i++l.drop i).set i x) (i:Int)=x:=fun x=>by
   have:=zci ((zlc l.length k).take i++l.drop i) x (i:=(i:Int)) (by omega) hi' (j:=(i:Int)) (by omega)
   rw [if_pos rfl,Int.toNat_natCast] at this
   exact this
  have hss:∀x y,(((zlc l.length k).take i++l.drop i).set i x).set i y=((zlc l.length k).take i++l.drop i).set i y:=fun x y=>by rw [List.set_set]
  generalize hL:(zlc l.length k).take i++l.drop i=L at hO hlen hi' hset hgs hss
  have e0:=hO.sto za6.len (i:=(i:Int)) (by omega) hi' (j:=0) (vs:=[.int .i64 (k+9*(i:Int))]) (x:=⟨k+9*(i:Int),(gi L i).group,(gi L i).cpu,(gi L i).nice,(gi L i).mask,(gi L i).v,(gi L i).sum,(gi L i).used,(gi L i).load⟩) rfl (by simp)
  rw [Int.toNat_natCast] at e0
  have e1:=e0.sto za6.len (i:=(i:Int)) (by omega) (by rw [hset]; exact hlt) (j:=1) (vs:=[.int .i64 (k+9*(i:Int)+1)]) (x:=⟨k+9*(i:Int),k+9*(i:Int)+1,(gi L i).cpu,(gi L i).nice,(gi L i).mask,(gi L i).v,(gi L i).sum,(gi L i).used,(gi L i).load⟩) (by rw [hgs]; rfl) (by simp)
  rw [Int.toNat_natCast,hss] at e1
  have e2:=e1.sto za6.len (i:=(i:Int)) (by omega) (by rw [hset]; exact hlt) (j:=2) (vs:=[.int .i64 (k+9*(i:Int)+1+1)]) (x:=⟨k+9*(i:Int),k+9*(i:Int)+1,k+9*(i:Int)+1+1,(gi L i).nice,(gi L i).mask,(gi L i).v,(gi L i).sum,(gi L i).used,(gi L i).load⟩) (by rw [hgs]; rfl) (by simp)
  rw [Int.toNat_natCast,hss] at e2
  have e3:=e2.sto za6.len (i:=(i:Int)) (by omega) (by rw [hset]; exact hlt) (j:=3) (vs:=[.int .i64 (k+9*(i:Int)+1+1+1)]) (x:=⟨k+9*(i:Int),k+9*(i:Int)+1,k+9*(i:Int)+1+1,k+9*(i:Int)+1+1+1,(gi L i).mask,(gi L i).v,(gi L i).sum,(gi L i).used,(gi L i).load⟩) (by rw [hgs]; rfl) (by simp)
  rw [Int.toNat_natCast,hss] at e3
  have e4:=e3.sto za6.len (i:=(i:Int)) (by omega) (by rw [hset]; exact hlt) (j:=4) (vs:=[.int .i64 (k+9*(i:Int)+1+1+1+1)]) (x:=⟨k+9*(i:Int),k+9*(i:Int)+1,k+9*(i:Int)+1+1,k+9*(i:Int)+1+1+1,k+9*(i:Int)+1+1+1+1,(gi L i).v,(gi L i).sum,(gi L i).used,(gi L i).load⟩) (by rw [hgs]; rfl) (by simp)
  rw [Int.toNat_natCast,hss] at e4
  have e5:=e4.sto za6.len (i:=(i:Int)) (by omega) (by rw [hset]; exact hlt) (j:=5) (vs:=[.int .i64 (k+9*(i:Int)+1+1+1+1+1)]) (x:=⟨k+9*(i:Int),k+9*(i:Int)+1,k+9*(i:Int)+1+1,k+9*(i:Int)+1+1+1,k+9*(i:Int)+1+1+1+1,k+9*(i:Int)+1+1+1+1+1,(gi L i).sum,(gi L i).used,(gi L i).load⟩) (by rw [hgs]; rfl) (by simp)
  rw [Int.toNat_natCast,hss] at e5
  have e6:=e5.sto za6.len (i:=(i:Int)) (by omega) (by rw [hset]; exact hlt) (j:=6) (vs:=[.int .i64 (k+9*(i:Int)+1+1+1+1+1+1)]) (x:=⟨k+9*(i:Int),k+9*(i:Int)+1,k+9*(i:Int)+1+1,k+9*(i:Int)+1+1+1,k+9*(i:Int)+1+1+1+1,k+9*(i:Int)+1+1+1+1+1,k+9*(i:Int)+1+1+1+1+1+1,(gi L i).used,(gi L i).load⟩) (by rw [hgs]; rfl) (by simp)
  rw [Int.toNat_natCast,hss] at e6
  have e7:=e6.sto za6.len (i:=(i:Int)) (by omega) (by rw [hset]; exact hlt) (j:=7) (vs:=[.int .i64 (k+9*(i:Int)+1+1+1+1+1+1+1)]) (x:=⟨k+9*(i:Int),k+9*(i:Int)+1,k+9*(i:Int)+1+1,k+9*(i:Int)+1+1+1,k+9*(i:Int)+1+1+1+1,k+9*(i:Int)+1+1+1+1+1,k+9*(i:Int)+1+1+1+1+1+1,k+9*(i:Int)+1+1+1+1+1+1+1,(gi L i).load⟩) (by rw [hgs]; rfl) (by simp)
  rw [Int.toNat_natCast,hss] at e7
  have e8:=e7.sto za6.len (i:=(i:Int)) (by omega) (by rw [hset]; exact hlt) (j:=8) (vs:=[.int .i64 (k+9*(i:Int)+1+1+1+1+1+1+1+1)]) (x:=mkT (k+9*(i:Int))) (by rw [hgs]; rfl) (by simp)
  rw [Int.toNat_natCast,hss] at e8
  refine ⟨hix,hO.wr za6.len (by simp) (by omega) hi' (j:=0) (by decide),⟨by omega,by omega⟩,hix,e0.wr za6.len (by simp) (by omega) (by rw [hset]; exact hlt) (j:=1) (by decide),⟨by omega,by omega⟩,hix,e1.wr za6.len (by simp) (by omega) (by rw [hset]; exact hlt) (j:=2) (by decide),⟨by omega,by omega⟩,hix,e2.wr za6.len (by simp) (by omega) (by rw [hset]; exact hlt) (j:=3) (by decide),⟨by omega,by omega⟩,hix,e3.wr za6.len (by simp) (by omega) (by rw [hset]; exact hlt) (j:=4) (by decide),⟨by omega,by omega⟩,hix,e4.wr za6.len (by simp) (by omega) (by rw [hset]; exact hlt) (j:=5) (by decide),⟨by omega,by omega⟩,hix,e5.wr za6.len (by simp) (by omega) (by rw [hset]; exact hlt) (j:=6) (by decide),⟨by omega,by omega⟩,hix,e6.wr za6.len (by simp) (by omega) (by rw [hset]; exact hlt) (j:=7) (by decide),⟨by omega,by omega⟩,hix,e7.wr za6.len (by simp) (by omega) (by rw [hset]; exact hlt) (j:=8) (by decide),⟨by omega,by omega⟩,⟨by omega,by omega⟩,fun w2 hx2 _=>⟨⟨i+1,by congr 2; omega,by omega,?_,?_⟩,?_⟩⟩
  ·have:L.set i (mkT (k+9*(i:Int)))=(zlc l.length k).take (i+1)++l.drop (i+1):=by
    have hi2:i<(zlc l.length k).length:=by rw [zhz]; omega
    have hlt':i<l.length:=by omega
    rw [←hL,List.set_append,if_neg (by simp [zhz]; omega),List.length_take,zhz,show i - min i l.length=0 by omega,List.drop_eq_getElem_cons hlt',List.set_cons_zero,List.take_succ_eq_append_getElem hi2,List.append_assoc,List.singleton_append]
    have:=zacl (n:=l.length) (k:=k) hlt'
    rw [zd9 hi2] at this
    rw [this]
   rw [this] at e8
   exact e8.ext0 hx2
  ·exact (((((((((hX.trans (hO.stoX _ _)).trans (e0.stoX _ _)).trans (e1.stoX _ _)).trans (e2.stoX _ _)).trans (e3.stoX _ _)).trans (e4.stoX _ _)).trans (e5.stoX _ _)).trans (e6.stoX _ _)).trans (e7.stoX _ _)).trans hx2.of_nil
  ·simp only [zcv,cntM,zcw,List.getElem?_cons_zero,List.getElem?_cons_succ]
   omega
 ·have hge:=of_decide_eq_false hge
  have:i=l.length:=by omega
  subst this
  refine fun w2 hx2=>⟨rfl,?_,hX.trans hx2.of_nil⟩
  have e:(zlc l.length k).take l.length++l.drop l.length=zlc l.length k:=by
   rw [List.drop_length,List.append_nil,List.take_of_length_le (by rw [zhz]; exact Nat.le_refl _)]
  rw [e] at hO
  exact hO.ext0 hx2
theorem zabi {n:Nat} {o:Option Addr} {c:Nat} {k:Int} {w:World} {bs:List Nat} (h:RdT bs w o (zlc n k)) (hl:n≤1048576) (hk:0≤k) (hk2:k≤100000000000000000) :
  zab bs Tryz.prog zib #[.slice o n c,.int .i64 k] w (.int .i64 (k+9*(n:Int))) :=
 zw2 o n c k fun wr hx=>by
  have h:=(h.ext hx).less (cs:=[]) (by simp)
  refine zmr n 0 rfl (fun x i=>i≤n∧x=k+9*(i:Int)) ⟨Nat.zero_le _,by simp⟩ fun x i ⟨hi,hx1⟩=>⟨fun hlt => ?_,fun hge => ?_⟩
  ·subst hx1
   have hlt:=of_decide_eq_true hlt
   have hc:=h i (by omega) (by rw [zhz]; exact hlt)
   have hix:Ix o n (i:Int):=by have:=h.ix zbb (i:=(i:Int)) (by omega) (by rw [zhz]; exact hlt); rwa [zhz] at this
   rw [zacl (by omega)] at hc
   refine ⟨hix,_,hc.1,fun hb=>by simp [mkT] at hb,fun _=>⟨⟨by omega,by omega⟩,hix,_,hc.2.1,fun hb=>by simp [mkT] at hb,fun _=>⟨⟨by omega,by omega⟩,hix,_,hc.2.2.1,fun hb=>by simp [mkT] at hb,fun _=>⟨⟨by omega,by omega⟩,hix,_,hc.2.2.2.1,fun hb=>by simp [mkT] at hb,fun _=>⟨⟨by omega,by omega⟩,hix,_,hc.2.2.2.2.1,fun hb=>by simp [mkT] at hb,fun _=>⟨⟨by omega,by omega⟩,hix,_,hc.2.2.2.2.2.1,fun hb=>by simp [mkT] at hb,fun _=>⟨⟨by omega,by omega⟩,hix,_,hc.2.2.2.2.2.2.1,fun hb=>by simp [mkT] at hb,fun _=>⟨⟨by omega,by omega⟩,hix,_,hc.2.2.2.2.2.2.2.1,fun hb=>by simp [mkT] at hb,fun _=>⟨⟨by omega,by omega⟩,hix,_,hc.2.2.2.2.2.2.2.2,fun hb=>by simp [mkT] at hb,fun _=>⟨⟨by omega,by omega⟩,⟨by omega,by omega⟩,zap (by omega) ⟨by omega,by omega⟩⟩⟩⟩⟩⟩⟩⟩⟩⟩⟩
  ·have hge:=of_decide_eq_false hge
   have:i=n:=by omega
   subst this
   rw [hx1]
def mkI (k:Int):Int:=k
def zlb (n:Nat) (k:Int):List Int:=(List.range n).map fun (i:Nat)=>mkI (k+1*(i:Int))
theorem zep (n:Nat) (k:Int):(zlb n k).length=n:=by simp [zlb]
theorem zacj {n:Nat} {k:Int} {i:Nat} (h:i<n):gi (zlb n k) (i:Int)=mkI (k+1*(i:Int)):=by
 rw [zd9 (by rw [zep]; exact h)]; simp [zlb]
theorem zadz {base:Nat} {l:List Int} {o:Option Addr} {c:Nat} {k:Int} {w:World} (h:Own encI 1 ty_int base w o c l) (hl:l.length≤1048576) (hk:0≤k) (hk2:k≤100000000000000000) :
  Calls Tryz.prog zi9 #[.slice o l.length c,.int .i64 k] w fun e w'=>e = .returned (.int .i64 (k+1*(l.length:Int)))∧Own encI 1 ty_int base w' o c (zlb l.length k)∧ExtX (zau o) w w':=by
 refine (zy6 o l.length c k (R:=fun v w'=>v = .int .i64 (k+1*(l.length:Int))∧Own encI 1 ty_int base w' o c (zlb l.length k)∧ExtX (zau o) w w') ?_).mono fun e w' ⟨v,he,hv,h1⟩=>⟨by rw [he,hv],h1⟩
 refine ⟨fun vs w1=>∃(i:Nat),vs=[.int .i64 (k+1*(i:Int)),.int .i64 (i:Int)]∧i≤l.length∧Own encI 1 ty_int base w1 o c ((zlb l.length k).take i++l.drop i)∧ExtX (zau o) w w1,zcv l.length 1,fun wr hx _=>⟨0,by simp,Nat.zero_le _,by simpa using h.ext0 hx,hx.of_nil⟩,?_⟩
 rintro k1 i1 w1 _ ⟨i,he,hi,hO,hX⟩
 simp only [List.cons.injEq,Value.int.injEq,true_and,and_true] at he
 obtain ⟨rfl,rfl⟩:=he
 have hlen:((zlb l.length k).take i++l.drop i).length=l.length:=by simp [zep]; omega
 refine ⟨fun hlt => ?_,fun hge => ?_⟩
 ·have hlt:=of_decide_eq_true hlt
  have hi':(i:Int)<(((zlb l.length k).take i++l.drop i).length:Int):=by rw [hlen]; exact hlt
  have hix:Ix o l.length (i:Int):=by have:=hO.ix (i:=(i:Int)) (by omega) hi'; rwa [hlen] at this
  have hset:∀x,(((zlb l.length k).take i++l.drop i).set i x).length=l.length:=fun x=>by rw [List.length_set]; exact hlen
  have hgs:∀x,gi (((zlb l.length k).take i++l.drop i).set i x) (i:Int)=x:=fun x=>by
   have:=zci ((zlb l.length k).take i++l.drop i) x (i:=(i:Int)) (by omega) hi' (j:=(i:Int)) (by omega)
   rw [if_pos rfl,Int.toNat_natCast] at this
   exact this
  have hss:∀x y,(((zlb l.length k).take i++l.drop i).set i x).set i y=((zlb l.length k).take i++l.drop i).set i y:=fun x y=>by rw [List.set_set]
  generalize hL:(zlb l.length k).take i++l.drop i=L at hO hlen hi' hset hgs hss
  have e0:=hO.sto zbt.len (i:=(i:Int)) (by omega) hi' (j:=0) (vs:=[.int .i64 (k+1*(i:Int))]) (x:=mkI (k+1*(i:Int))) rfl (by simp)
  rw [Int.toNat_natCast] at e0
  refine ⟨hix,hO.wr zbt.len (by simp) (by omega) hi' (j:=0) (by decide),⟨by omega,by omega⟩,⟨by omega,by omega⟩,fun w2 hx2 _=>⟨⟨i+1,by congr 2; omega,by omega,?_,?_⟩,?_⟩⟩
  ·have:L.set i (mkI (k+1*(i:Int)))=(zlb l.length k).take (i+1)++l.drop (i+1):=by
    have hi2:i<(zlb l.length k).length:=by rw [zep]; omega
    have hlt':i<l.length:=by omega
    rw [←hL,List.set_append,if_neg (by simp [zep]; omega),List.length_take,zep,show i - min i l.length=0 by omega,List.drop_eq_getElem_cons hlt',List.set_cons_zero,List.take_succ_eq_append_getElem hi2,List.append_assoc,List.singleton_append]
    have:=zacj (n:=l.length) (k:=k) hlt'
    rw [zd9 hi2] at this
    rw [this]
   rw [this] at e0
   exact e0.ext0 hx2
  ·exact (hX.trans (hO.stoX _ _)).trans hx2.of_nil
  ·simp only [zcv,cntM,zcw,List.getElem?_cons_zero,List.getElem?_cons_succ]
   omega
 ·have hge:=of_decide_eq_false hge
  have:i=l.length:=by omega
  subst this
  refine fun w2 hx2=>⟨rfl,?_,hX.trans hx2.of_nil⟩
  have e:(zlb l.length k).take l.length++l.drop l.length=zlb l.length k:=by
   rw [List.drop_length,List.append_nil,List.take_of_length_le (by rw [zep]; exact Nat.le_refl _)]
  rw [e] at hO
  exact hO.ext0 hx2
theorem zadv {n:Nat} {o:Option Addr} {c:Nat} {k:Int} {w:World} {bs:List Nat} (h:RdI bs w o (zlb n k)) (hl:n≤1048576) (hk:0≤k) (hk2:k≤100000000000000000) :
  zab bs Tryz.prog zi7 #[.slice o n c,.int .i64 k] w (.int .i64 (k+1*(n:Int))) :=
 z0n o n c k fun wr hx=>by
  have h:=(h.ext hx).less (cs:=[]) (by simp)
  refine zmr n 0 rfl (fun x i=>i≤n∧x=k+1*(i:Int)) ⟨Nat.zero_le _,by simp⟩ fun x i ⟨hi,hx1⟩=>⟨fun hlt => ?_,fun hge => ?_⟩
  ·subst hx1
   have hlt:=of_decide_eq_true hlt
   have hc:=h i (by omega) (by rw [zep]; exact hlt)
   have hix:Ix o n (i:Int):=by have:=h.ix zgs (i:=(i:Int)) (by omega) (by rw [zep]; exact hlt); rwa [zep] at this
   rw [zacj (by omega)] at hc
   refine ⟨hix,_,hc,fun hb=>by simp [mkI] at hb,fun _=>⟨⟨by omega,by omega⟩,⟨by omega,by omega⟩,zap (by omega) ⟨by omega,by omega⟩⟩⟩
  ·have hge:=of_decide_eq_false hge
   have:i=n:=by omega
   subst this
   rw [hx1]
def mkB (k:Int):Bool:=Int.tmod (k) 3==0
def zlm (n:Nat) (k:Int):List Bool:=(List.range n).map fun (i:Nat)=>mkB (k+1*(i:Int))
theorem ze8 (n:Nat) (k:Int):(zlm n k).length=n:=by simp [zlm]
theorem zach {n:Nat} {k:Int} {i:Nat} (h:i<n):gi (zlm n k) (i:Int)=mkB (k+1*(i:Int)):=by
 rw [zd9 (by rw [ze8]; exact h)]; simp [zlm]
theorem zabm {base:Nat} {l:List Bool} {o:Option Addr} {c:Nat} {k:Int} {w:World} (h:Own encB 1 zbi base w o c l) (hl:l.length≤1048576) (hk:0≤k) (hk2:k≤100000000000000000) :
  Calls Tryz.prog zic #[.slice o l.length c,.int .i64 k] w fun e w'=>e = .returned (.int .i64 (k+1*(l.length:Int)))∧Own encB 1 zbi base w' o c (zlm l.length k)∧ExtX (zau o) w w':=by
 refine (zwi o l.length c k (R:=fun v w'=>v = .int .i64 (k+1*(l.length:Int))∧Own encB 1 zbi base w' o c (zlm l.length k)∧ExtX (zau o) w w') ?_).mono fun e w' ⟨v,he,hv,h1⟩=>⟨by rw [he,hv],h1⟩
 refine ⟨fun vs w1=>∃(i:Nat),vs=[.int .i64 (k+1*(i:Int)),.int .i64 (i:Int)]∧i≤l.length∧Own encB 1 zbi base w1 o c ((zlm l.length k).take i++l.drop i)∧ExtX (zau o) w w1,zcv l.length 1,fun wr hx _=>⟨0,by simp,Nat.zero_le _,by simpa using h.ext0 hx,hx.of_nil⟩,?_⟩
 rintro k1 i1 w1 _ ⟨i,he,hi,hO,hX⟩
 simp only [List.cons.injEq,Value.int.injEq,true_and,and_true] at he
 obtain ⟨rfl,rfl⟩:=he
 have hlen:((zlm l.length k).take i++l.drop i).length=l.length:=by simp [ze8]; omega
 refine ⟨fun hlt => ?_,fun hge => ?_⟩
 ·have hlt:=of_decide_eq_true hlt
  have hi':(i:Int)<(((zlm l.length k).take i++l.drop i).length:Int):=by rw [hlen]; exact hlt
  have hix:Ix o l.length (i:Int):=by have:=hO.ix (i:=(i:Int)) (by omega) hi'; rwa [hlen] at this
  have hset:∀x,(((zlm l.length k).take i++l.drop i).set i x).length=l.length:=fun x=>by rw [List.length_set]; exact hlen
  have hgs:∀x,gi (((zlm l.length k).take i++l.drop i).set i x) (i:Int)=x:=fun x=>by
   have:=zci ((zlm l.length k).take i++l.drop i) x (i:=(i:Int)) (by omega) hi' (j:=(i:Int)) (by omega)
   rw [if_pos rfl,Int.toNat_natCast] at this
   exact this
  have hss:∀x y,(((zlm l.length k).take i++l.drop i).set i x).set i y=((zlm l.length k).take i++l.drop i).set i y:=fun x y=>by rw [List.set_set]
  generalize hL:(zlm l.length k).take i++l.drop i=L at hO hlen hi' hset hgs hss
  have e0:=hO.sto zcj.len (i:=(i:Int)) (by omega) hi' (j:=0) (vs:=[.bool (Int.tmod (k+1*(i:Int)) 3==0)]) (x:=mkB (k+1*(i:Int))) rfl (by simp)
  rw [Int.toNat_natCast] at e0
  refine ⟨by decide,hix,hO.wr zcj.len (by simp) (by omega) hi' (j:=0) (by decide),⟨by omega,by omega⟩,⟨by omega,by omega⟩,fun w2 hx2 _=>⟨⟨i+1,by congr 2; omega,by omega,?_,?_⟩,?_⟩⟩
  ·have:L.set i (mkB (k+1*(i:Int)))=(zlm l.length k).take (i+1)++l.drop (i+1):=by
    have hi2:i<(zlm l.length k).length:=by rw [ze8]; omega
    have hlt':i<l.length:=by omega
    rw [←hL,List.set_append,if_neg (by simp [ze8]; omega),List.length_take,ze8,show i - min i l.length=0 by omega,List.drop_eq_getElem_cons hlt',List.set_cons_zero,List.take_succ_eq_append_getElem hi2,List.append_assoc,List.singleton_append]
    have:=zach (n:=l.length) (k:=k) hlt'
    rw [zd9 hi2] at this
    rw [this]
   rw [this] at e0
   exact e0.ext0 hx2
  ·exact (hX.trans (hO.stoX _ _)).trans hx2.of_nil
  ·simp only [zcv,cntM,zcw,List.getElem?_cons_zero,List.getElem?_cons_succ]
   omega
 ·have hge:=of_decide_eq_false hge
  have:i=l.length:=by omega
  subst this
  refine fun w2 hx2=>⟨rfl,?_,hX.trans hx2.of_nil⟩
  have e:(zlm l.length k).take l.length++l.drop l.length=zlm l.length k:=by
   rw [List.drop_length,List.append_nil,List.take_of_length_le (by rw [ze8]; exact Nat.le_refl _)]
  rw [e] at hO
  exact hO.ext0 hx2
theorem zabh {n:Nat} {o:Option Addr} {c:Nat} {k:Int} {w:World} {bs:List Nat} (h:RdB bs w o (zlm n k)) (hl:n≤1048576) (hk:0≤k) (hk2:k≤100000000000000000) :
  zab bs Tryz.prog zia #[.slice o n c,.int .i64 k] w (.int .i64 (k+1*(n:Int))) :=
 zw1 o n c k fun wr hx=>by
  have h:=(h.ext hx).less (cs:=[]) (by simp)
  refine zmr n 0 rfl (fun x i=>i≤n∧x=k+1*(i:Int)) ⟨Nat.zero_le _,by simp⟩ fun x i ⟨hi,hx1⟩=>⟨fun hlt => ?_,fun hge => ?_⟩
  ·subst hx1
   have hlt:=of_decide_eq_true hlt
   have hc:=h i (by omega) (by rw [ze8]; exact hlt)
   have hix:Ix o n (i:Int):=by have:=h.ix zom (i:=(i:Int)) (by omega) (by rw [ze8]; exact hlt); rwa [ze8] at this
   rw [zach (by omega)] at hc
   refine ⟨hix,_,hc,by decide,fun hb=>by simp [mkB] at hb,fun _=>⟨⟨by omega,by omega⟩,⟨by omega,by omega⟩,zap (by omega) ⟨by omega,by omega⟩⟩⟩
  ·have hge:=of_decide_eq_false hge
   have:i=n:=by omega
   subst this
   rw [hx1]
def mkS (k:Int):Shf:=⟨k,Int.tmod (k+1) 3==0,k+1+1,k+1+1+1,k+1+1+1+1⟩
def zln (n:Nat) (k:Int):List Shf:=(List.range n).map fun (i:Nat)=>mkS (k+5*(i:Int))
theorem ze9 (n:Nat) (k:Int):(zln n k).length=n:=by simp [zln]
theorem zack {n:Nat} {k:Int} {i:Nat} (h:i<n):gi (zln n k) (i:Int)=mkS (k+5*(i:Int)):=by
 rw [zd9 (by rw [ze9]; exact h)]; simp [zln]
theorem z9m {base:Nat} {l:List Shf} {o:Option Addr} {c:Nat} {k:Int} {w:World} (h:Own encS 5 za4 base w o c l) (hl:l.length≤1048576) (hk:0≤k) (hk2:k≤100000000000000000) :
  Calls Tryz.prog zhg #[.slice o l.length c,.int .i64 k] w fun e w'=>e = .returned (.int .i64 (k+5*(l.length:Int)))∧Own encS 5 za4 base w' o c (zln l.length k)∧ExtX (zau o) w w':=by
 refine (zt6 o l.length c k (R:=fun v w'=>v = .int .i64 (k+5*(l.length:Int))∧Own encS 5 za4 base w' o c (zln l.length k)∧ExtX (zau o) w w') ?_).mono fun e w' ⟨v,he,hv,h1⟩=>⟨by rw [he,hv],h1⟩
 refine ⟨fun vs w1=>∃(i:Nat),vs=[.int .i64 (k+5*(i:Int)),.int .i64 (i:Int)]∧i≤l.length∧Own encS 5 za4 base w1 o c ((zln l.length k).take i++l.drop i)∧ExtX (zau o) w w1,zcv l.length 1,fun wr hx _=>⟨0,by simp,Nat.zero_le _,by simpa using h.ext0 hx,hx.of_nil⟩,?_⟩
 rintro k1 i1 w1 _ ⟨i,he,hi,hO,hX⟩
 simp only [List.cons.injEq,Value.int.injEq,true_and,and_true] at he
 obtain ⟨rfl,rfl⟩:=he
 have hlen:((zln l.length k).take i++l.drop i).length=l.length:=by simp [ze9]; omega
 refine ⟨fun hlt => ?_,fun hge => ?_⟩
 ·have hlt:=of_decide_eq_true hlt
  have hi':(i:Int)<(((zln l.length k).take i++l.drop i).length:Int):=by rw [hlen]; exact hlt
  have hix:Ix o l.length (i:Int):=by have:=hO.ix (i:=(i:Int)) (by omega) hi'; rwa [hlen] at this
  have hset:∀x,(((zln l.length k).take i++l.drop i).set i x).length=l.length:=fun x=>by rw [List.length_set]; exact hlen
  have hgs:∀x,gi (((zln l.length k).take i++l.drop i).set i x) (i:Int)=x:=fun x=>by
   have:=zci ((zln l.length k).take i++l.drop i) x (i:=(i:Int)) (by omega) hi' (j:=(i:Int)) (by omega)
   rw [if_pos rfl,Int.toNat_natCast] at this
   exact this
  have hss:∀x y,(((zln l.length k).take i++l.drop i).set i x).set i y=((zln l.length k).take i++l.drop i).set i y:=fun x y=>by rw [List.set_set]
  generalize hL:(zln l.length k).take i++l.drop i=L at hO hlen hi' hset hgs hss
  have e0:=hO.sto zbk.len (i:=(i:Int)) (by omega) hi' (j:=0) (vs:=[.int .i64 (k+5*(i:Int))]) (x:=⟨k+5*(i:Int),(gi L i).on,(gi L i).v,(gi L i).w,(gi L i).sum⟩) rfl (by simp)
  rw [Int.toNat_natCast] at e0
  have e1:=e0.sto zbk.len (i:=(i:Int)) (by omega) (by rw [hset]; exact hlt) (j:=1) (vs:=[.bool (Int.tmod (k+5*(i:Int)+1) 3==0)]) (x:=⟨k+5*(i:Int),Int.tmod (k+5*(i:Int)+1) 3==0,(gi L i).v,(gi L i).w,(gi L i).sum⟩) (by rw [hgs]; rfl) (by simp)
  rw [Int.toNat_natCast,hss] at e1
  have e2:=e1.sto zbk.len (i:=(i:Int)) (by omega) (by rw [hset]; exact hlt) (j:=2) (vs:=[.int .i64 (k+5*(i:Int)+1+1)]) (x:=⟨k+5*(i:Int),Int.tmod (k+5*(i:Int)+1) 3==0,k+5*(i:Int)+1+1,(gi L i).w,(gi L i).sum⟩) (by rw [hgs]; rfl) (by simp)
  rw [Int.toNat_natCast,hss] at e2
  have e3:=e2.sto zbk.len (i:=(i:Int)) (by omega) (by rw [hset]; exact hlt) (j:=3) (vs:=[.int .i64 (k+5*(i:Int)+1+1+1)]) (x:=⟨k+5*(i:Int),Int.tmod (k+5*(i:Int)+1) 3==0,k+5*(i:Int)+1+1,k+5*(i:Int)+1+1+1,(gi L i).sum⟩) (by rw [hgs]; rfl) (by simp)
  rw [Int.toNat_natCast,hss] at e3
  have e4:=e3.sto zbk.len (i:=(i:Int)) (by omega) (by rw [hset]; exact hlt) (j:=4) (vs:=[.int .i64 (k+5*(i:Int)+1+1+1+1)]) (x:=mkS (k+5*(i:Int))) (by rw [hgs]; rfl) (by simp)
  rw [Int.toNat_natCast,hss] at e4
  refine ⟨hix,hO.wr zbk.len (by simp) (by omega) hi' (j:=0) (by decide),⟨by omega,by omega⟩,by decide,hix,e0.wr zbk.len (by simp) (by omega) (by rw [hset]; exact hlt) (j:=1) (by decide),⟨by omega,by omega⟩,hix,e1.wr zbk.len (by simp) (by omega) (by rw [hset]; exact hlt) (j:=2) (by decide),⟨by omega,by omega⟩,hix,e2.wr zbk.len (by simp) (by omega) (by rw [hset]; exact hlt) (j:=3) (by decide),⟨by omega,by omega⟩,hix,e3.wr zbk.len (by simp) (by omega) (by rw [hset]; exact hlt) (j:=4) (by decide),⟨by omega,by omega⟩,⟨by omega,by omega⟩,fun w2 hx2 _=>⟨⟨i+1,by congr 2; omega,by omega,?_,?_⟩,?_⟩⟩
  ·have:L.set i (mkS (k+5*(i:Int)))=(zln l.length k).take (i+1)++l.drop (i+1):=by
    have hi2:i<(zln l.length k).length:=by rw [ze9]; omega
    have hlt':i<l.length:=by omega
    rw [←hL,List.set_append,if_neg (by simp [ze9]; omega),List.length_take,ze9,show i - min i l.length=0 by omega,List.drop_eq_getElem_cons hlt',List.set_cons_zero,List.take_succ_eq_append_getElem hi2,List.append_assoc,List.singleton_append]
    have:=zack (n:=l.length) (k:=k) hlt'
    rw [zd9 hi2] at this
    rw [this]
   rw [this] at e4
   exact e4.ext0 hx2
  ·exact (((((hX.trans (hO.stoX _ _)).trans (e0.stoX _ _)).trans (e1.stoX _ _)).trans (e2.stoX _ _)).trans (e3.stoX _ _)).trans hx2.of_nil
  ·simp only [zcv,cntM,zcw,List.getElem?_cons_zero,List.getElem?_cons_succ]
   omega
 ·have hge:=of_decide_eq_false hge
  have:i=l.length:=by omega
  subst this
  refine fun w2 hx2=>⟨rfl,?_,hX.trans hx2.of_nil⟩
  have e:(zln l.length k).take l.length++l.drop l.length=zln l.length k:=by
   rw [List.drop_length,List.append_nil,List.take_of_length_le (by rw [ze9]; exact Nat.le_refl _)]
  rw [e] at hO
  exact hO.ext0 hx2
theorem z9h {n:Nat} {o:Option Addr} {c:Nat} {k:Int} {w:World} {bs:List Nat} (h:RdS bs w o (zln n k)) (hl:n≤1048576) (hk:0≤k) (hk2:k≤100000000000000000) :
  zab bs Tryz.prog zhe #[.slice o n c,.int .i64 k] w (.int .i64 (k+5*(n:Int))) :=
 zut o n c k fun wr hx=>by
  have h:=(h.ext hx).less (cs:=[]) (by simp)
  refine zmr n 0 rfl (fun x i=>i≤n∧x=k+5*(i:Int)) ⟨Nat.zero_le _,by simp⟩ fun x i ⟨hi,hx1⟩=>⟨fun hlt => ?_,fun hge => ?_⟩
  ·subst hx1
   have hlt:=of_decide_eq_true hlt
   have hc:=h i (by omega) (by rw [ze9]; exact hlt)
   have hix:Ix o n (i:Int):=by have:=h.ix zej (i:=(i:Int)) (by omega) (by rw [ze9]; exact hlt); rwa [ze9] at this
   rw [zack (by omega)] at hc
   refine ⟨hix,_,hc.1,fun hb=>by simp [mkS] at hb,fun _=>⟨⟨by omega,by omega⟩,hix,_,hc.2.1,by decide,fun hb=>by simp [mkS] at hb,fun _=>⟨⟨by omega,by omega⟩,hix,_,hc.2.2.1,fun hb=>by simp [mkS] at hb,fun _=>⟨⟨by omega,by omega⟩,hix,_,hc.2.2.2.1,fun hb=>by simp [mkS] at hb,fun _=>⟨⟨by omega,by omega⟩,hix,_,hc.2.2.2.2,fun hb=>by simp [mkS] at hb,fun _=>⟨⟨by omega,by omega⟩,⟨by omega,by omega⟩,zap (by omega) ⟨by omega,by omega⟩⟩⟩⟩⟩⟩⟩
  ·have hge:=of_decide_eq_false hge
   have:i=n:=by omega
   subst this
   rw [hx1]
end Go.Proofs.YtajdcjidpolloaaGreatDoor
