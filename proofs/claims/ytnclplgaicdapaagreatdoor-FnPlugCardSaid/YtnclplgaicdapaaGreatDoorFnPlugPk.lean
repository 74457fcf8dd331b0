/- Part 11 of what the law FnPlug needs. -/
import Derived.Test.YtnclplgaicdapaaGreatDoorFnPlugPj
import Derived.Test.YtnclplgaicdapaaGreatDoorRows
import Derived.ChangeSame
import Derived.ChangeVars
import Derived.JoinedOf
import Derived.LaidLaws
import Derived.LaidHandle
import Derived.Stop.Joined
set_option linter.unusedVariables false
set_option linter.unusedSimpArgs false
set_option maxRecDepth 100000
set_option maxHeartbeats 8000000
namespace Go.Proofs.YtnclplgaicdapaaGreatDoor
open Go.RowKit
section
open Go.ChangeShapes Go.WideShapes Go.RowKit
abbrev laidE : List (String × DataW Unit) := [("errors.errorType", Rows.laid_errors_errorType)]
theorem zws : Tryz.prog.globalNamed "errors.errorType" = some 0 := by kernel_rfl
theorem zwt : (Tryz.prog.cutTypes.find? (·.1 == "internal/reflectlite.rtype")).map (·.2) = some 174 := by kernel_rfl
theorem zq2:Tryz.prog.types.size=243:=Qk
theorem zkf:((List.range 243).filter fun t=>Tryz.prog.rowNamed t [101,114,114,111,114])=[67]:=Qk
theorem zke:typeHandle Tryz.prog 67=.pointer (some ⟨1,67,none⟩):=Qk
theorem glob_of_laid{W:Wo}(h:laidMetH Tryz.prog laidE W):PA W:=by
 have h':laidMet Tryz.prog [] W/\handlesMet Tryz.prog laidE W:=h;obtain⟨name,u,ty,e1,e2,e3,e4,e5⟩:=h'.2 _ (Iz.2 rfl);have en:name=[101,114,114,111,114]:=(Option.some.inj e1).symm;subst en;obtain rfl:=Option.some.inj (zwt.symm.trans e2);have hm:ty∈(List.range 243).filter fun t=>Tryz.prog.rowNamed t [101,114,114,111,114]:=List.mem_filter.2 ⟨List.mem_range.2 (by rw[<-zq2]; exact e3),e4⟩
 rw[zkf] at hm;obtain rfl:=Iz.1 hm;rw[zke] at e5;unfold PA
 simpa using World.var?_cell zws e5 0
noncomputable def laidWorld(os:Os):Wo:=
 let w0:=World.holding Tryz.prog os ⟨#[],#[],[]⟩
 { w0 with heap:=w0.heap.modify 0 fun
   | .cells _ t frozen=>.cells #[.iface 174 (.agg #[.pointer (some ⟨1,67,none⟩)])] t frozen
   | o=>o }
theorem laidWorld_met(os:Os)(args:Array Va):laidMetH Tryz.prog laidE ((laidWorld os).forCall (fun _ _=>0) ⟨#[],args,[]⟩).memory:=
 laidMetH_of_parts (laidMet_nil _ _) Qk
end
def zyp(P:Program)(gf:FuncId)(lb:Array Va)(N:Nat)(BP8:Nat->List Va)(I:Nat->Wo->Prop)(w:Wo):Prop:=
 ∀(l:Nat) (J:Nat->Wo->Prop) (Jx:Unit->Wo->Prop) (W:Wo),Q0 [] w W->(∀k W1,J k W1->I k W1)->z1x W.heap.size J->z1x W.heap.size Jx->
  (∀k W1,k<N->J k W1->Ov P (.func (.yield l) #[] #[]) (BP8 k) W1 fun e W2=>(∃X,Q0 X W1 W2/\∀x∈X,x<W.heap.size)/\((e=.returned (.bool true)/\J (k+1) W2)\/(e=.returned (.bool false)/\Jx () W2)))->
  J 0 W->Calls P gf (#[.func (.yield l) #[] #[]]++lb) W fun e W2=>(∃v,e=.returned v)/\(J N W2\/Jx () W2)
theorem zvb{P:Program}{g:Operand}{ps:Array Tmp}{asg body:Code}{Q:Exit->Act->Wo->Prop}{a:Act}{w:Wo}{gf:FuncId}{lb:Array Va}(hg:a.eval g=.func (.func gf) #[] lb)(eg:∀args w,(callFunc gf args).run P w=.ok (.enter gf args) w)(I:Nat->Wo->Prop)(Ix:Code->Wo->Prop)(N:Nat)(BP8:Nat->List Va)(hI:z1x w.heap.size I)(hIx:z1x w.heap.size Ix)(h0:I 0 w)(hps:∀k,(BP8 k).length=ps.size)(hit:zyp P gf lb N BP8 I w)(B38:∀l k W,k<N->I k W->w.heap.size<=l->asg.wpIn (Vf (some l)) 0 P (Exit.then (fun a1 W1=>(∃X,Q0 X W W1/\∀x∈X,x<w.heap.size)/\∀W2,Q0 [l] W1 W2->body.wpIn (Vf (some l)) 0 P (z0i w.heap.size I Ix k W2) a1 W2) (fun _ _ _=>False))
   { tmps:=(ps.zip (BP8 k).toArray).foldl (fun t (p,v)=>t.setIfInBounds p v) a.tmps,defers:=[] } W)(CF4:∀D W,w.heap.size<=D->I N W->W.heap[D]? = some (.deferred (some []))->Q .normal { a with defers:=BG D::a.defers } W)(CL0:∀D c W,w.heap.size<=D->Ix c W->W.heap[D]? = some (.deferred (some []))->c.wpIn (Vf none) 0 P Q { a with defers:=BG D::a.defers } W) :
  (Code.rangeFunc g ps asg body).wpIn (Vf none) 0 P Q a w:=by
 refine wpIn_rangeFunc fun fn _=>?_
 obtain⟨rec,Ao7⟩:∃rec:LoopState->Option Code->Loop,rec=fun st pe=>{ state:=st,pending:=pe,fn,tmps:=a.tmps,params:=ps,assign:=asg,body,defers:=w.heap.size }:=⟨_,rfl⟩
 obtain⟨W1,hW1⟩:∃W1,(w.alloc (.deferred (some []))).alloc (.loop (rec .ready none))=W1:=⟨_,rfl⟩
 have hL1:W1.heap[w.heap.size+1]? = some (.loop (rec .ready none)):=by
  have:=World.alloc_heap_new (w.alloc (.deferred (some []))) (.loop (rec .ready none));rw[World.size_alloc] at this;rw[<-hW1]; exact this
 have hD1:W1.heap[w.heap.size]? = some (.deferred (some [])):=by
  rw[<-hW1]; exact(Below.heap_alloc _ _ _ Qs).trans (World.alloc_heap_new w _)
 have hX1:Q0 [] w W1:=by rw[<-hW1]; exact((Q0.refl [] w).alloc _).alloc _
 have qJ:W1.heap.size=w.heap.size+2:=by rw[<-hW1]; simp
 refine⟨w.heap.size+1,[BG w.heap.size],W1,{ target:=.fn (.func gf) lb,args:=#[.func (.yield (w.heap.size+1)) #[] #[]] },W1,gf,#[.func (.yield (w.heap.size+1)) #[] #[]]++lb,W1,?_,?_,fun _ _=>trivial,?_,fun hx=>(by simp[Vf,Fence.wide] at hx),Pv ?_⟩
 ·rw[<-hW1,Ao7]; exact run_enterLoop_outer _ _ _ _ _
 ·simp only[resolve,hg];simp[go_sem]
 ·simp[invoke,eg]
 have mJ:∀{W W':Wo} {ys:List Nat} {x:Nat} {o:Obj},W.heap[x]? = some o->Q0 ys W W'->x∉ys->W'.heap[x]? = some o:=fun {W W' ys x o} h hx hn=>(hx.block x (Array.getElem?_eq_some_iff.1 h).1 hn).trans h
 refine(hit (w.heap.size+1)
  (fun k W=>I k W/\W.heap[w.heap.size+1]? = some (.loop (rec .ready none))/\W.heap[w.heap.size]? = some (.deferred (some [])))
  (fun _ W=>∃c,Ix c W/\W.heap[w.heap.size+1]? = some (.loop (rec .done (some c)))/\W.heap[w.heap.size]? = some (.deferred (some [])))
  W1 hX1 (fun k W h=>h.1)
  (fun k W W' ys h hx hy=>⟨hI k W W' ys h.1 hx fun y hm=>by have:=hy y hm; omega,mJ h.2.1 hx fun hm=>by have:=hy _ hm; omega,mJ h.2.2 hx fun hm=>by have:=hy _ hm; omega⟩)
  (fun k W W' ys h hx hy=>by
   obtain⟨c,h1,h2,h3⟩:=h;exact⟨c,hIx c W W' ys h1 hx fun y hm=>by have:=hy y hm; omega,mJ h2 hx fun hm=>by have:=hy _ hm; omega,mJ h3 hx fun hm=>by have:=hy _ hm; omega⟩)
  ?_ ⟨hI 0 _ _ [] h0 hX1 Qs,hL1,hD1⟩).mono ?_
 ·rintro k W hk ⟨hi,hl,hd⟩;have hy:=run_yield (P:=P) (args:=(BP8 k).toArray) hl (by rw[Ao7]; simpa using hps k);rw[<-zj8] at hy;rw[Ao7] at hy;refine .inr ⟨w.heap.size+1,fn,_,asg,body,hy,?_⟩
  have hr:=roundIn_of_wpIn (F:=Vf none) (n:=0) (P:=P) (l:=w.heap.size+1) (f:=fn) (assign:=asg) (body:=body) (w:=W) (R:=fun e W2=>(∃X,Q0 X W W2/\∀x∈X,x<W1.heap.size)/\((e=.returned (.bool true)/\I (k+1) W2/\W2.heap[w.heap.size+1]? = some (.loop (rec .ready none))/\W2.heap[w.heap.size]? = some (.deferred (some [])))\/(e=.returned (.bool false)/\∃c,Ix c W2/\W2.heap[w.heap.size+1]? = some (.loop (rec .done (some c)))/\W2.heap[w.heap.size]? = some (.deferred (some []))))) trivial
   (wpIn_mono (B38 (w.heap.size+1) k W hk hi Qo) fun e a1 W1' hq=>?_)
  ·exact⟨trivial,fun c cs _=>hr.2 c cs (zax _ _)⟩
  ·cases e with
   | normal=>
    obtain⟨⟨X,hX,hXl⟩,hb⟩:=hq;have mG:=mJ hl hX fun hm=>by have:=hXl _ hm; omega
    have hd1:=mJ hd hX fun hm=>by have:=hXl _ hm; omega
    refine⟨_,run_beginRound mG (by rw[Ao7]),?_⟩;have hl2:(W1'.putObj (w.heap.size+1) (.loop { rec .ready none with state:=.busy })).heap[w.heap.size+1]? = some (.loop { rec .ready none with state:=.busy }):=World.putObj_heap_same (Array.getElem?_eq_some_iff.1 mG).1;have hd2:=mJ hd1 (Y8 W1' (w.heap.size+1) (.loop { rec .ready none with state:=.busy })) Qs;refine wpIn_mono (hb _ (Y8 _ _ _)) fun e2 a2 W3 hr=>?_
    obtain⟨⟨X2,hX2,B11⟩,hm⟩:=hr;have hl3:=mJ hl2 hX2 fun hm=>by have:=B11 _ hm; omega
    have hd3:=mJ hd2 hX2 fun hm=>by have:=B11 _ hm; omega
    have fin:∀(jump:Option Code),(Instr.endRound (w.heap.size+1) jump).run P W3=.ok (.bool jump.isNone) (W3.putObj (w.heap.size+1) (.loop (rec (if jump.isNone then .ready else .done) jump)))/\
      (W3.putObj (w.heap.size+1) (.loop (rec (if jump.isNone then .ready else .done) jump))).heap[w.heap.size+1]? = some (.loop (rec (if jump.isNone then .ready else .done) jump))/\
      (W3.putObj (w.heap.size+1) (.loop (rec (if jump.isNone then .ready else .done) jump))).heap[w.heap.size]? = some (.deferred (some [])):=fun jump=>by
     have:=run_endRound (P:=P) jump hl3;rw[Ao7] at this ⊢;exact⟨this,World.putObj_heap_same (Array.getElem?_eq_some_iff.1 hl3).1,mJ hd3 (Y8 _ _ _) Qs⟩
    have nB:∀o,∃X,Q0 X W (W3.putObj (w.heap.size+1) o)/\∀x∈X,x<W1.heap.size:=fun o=>by
     have m1:Q0 (X++[w.heap.size+1]++X2) W W1':=hX.mono fun x hm=>by simp[hm]
     have m2:Q0 (X++[w.heap.size+1]++X2) W1' (W1'.putObj (w.heap.size+1) (.loop { rec .ready none with state:=.busy })):=(Y8 _ _ _).mono fun x hm=>by
      have:x=w.heap.size+1:=by simpa using hm
      simp[this]
     have m3:Q0 (X++[w.heap.size+1]++X2) _ W3:=hX2.mono fun x hm=>by simp[hm]
     have m4:Q0 (X++[w.heap.size+1]++X2) W3 (W3.putObj (w.heap.size+1) o):=(Y8 _ _ _).mono fun x hm=>by
      have:x=w.heap.size+1:=by simpa using hm
      simp[this]
     refine⟨_,((m1.trans m2).trans m3).trans m4,fun x hm=>?_⟩;simp only[Im,Iz] at hm;rcases hm with (hm | hm) | hm
     ·have:=hXl x hm; omega
     ·omega
     ·have:=B11 x hm; omega
    cases e2 with
    | normal=>
     obtain⟨f1,f2,f3⟩:=fin none;exact⟨_,_,f1,nB _,.inl ⟨rfl,hI _ _ _ [w.heap.size+1] hm (Y8 _ _ _) Qs,f2,f3⟩⟩
    | ret=>
     obtain⟨f1,f2,f3⟩:=fin (some .ret);exact⟨_,_,f1,nB _,.inr ⟨rfl,.ret,hIx _ _ _ [w.heap.size+1] hm (Y8 _ _ _) Qs,f2,f3⟩⟩
    | exit i=>
     obtain⟨f1,f2,f3⟩:=fin (some (.exit i));exact⟨_,_,f1,nB _,.inr ⟨rfl,.exit i,hIx _ _ _ [w.heap.size+1] hm (Y8 _ _ _) Qs,f2,f3⟩⟩
    | goto t=>
     obtain⟨f1,f2,f3⟩:=fin (some (.goto t));exact⟨_,_,f1,nB _,.inr ⟨rfl,.goto t,hIx _ _ _ [w.heap.size+1] hm (Y8 _ _ _) Qs,f2,f3⟩⟩
    | panic ch=>exact hm.elim
    | outgrown=>exact hm.elim
   | _=>exact hq.elim
 ·rintro e W2 ⟨⟨v,rfl⟩,(⟨hi,hl,hd⟩ | ⟨c,hi,hl,hd⟩)⟩
  ·have:=run_endLoop (P:=P) hl (by rw[Ao7]; simp);rw[Ao7] at this;exact⟨none,_,this,CF4 _ _ (I7 _) (hI _ _ _ [w.heap.size+1] hi (Y8 _ _ _) Qs) (mJ hd (Y8 _ _ _) Qs)⟩
  ·have:=run_endLoop (P:=P) hl (by rw[Ao7]; simp);rw[Ao7] at this;exact⟨some c,_,this,CL0 _ c _ (I7 _) (hIx _ _ _ [w.heap.size+1] hi (Y8 _ _ _) Qs) (mJ hd (Y8 _ _ _) Qs)⟩
def LJ(m:Int)(k:Nat):List Int:=((List.range k).filter fun (i:Nat)=>QX m (i:Int)).map fun (i:Nat)=>(i:Int)
theorem F8{m:Int}{k:Nat}(h:QX m (k:Int)=true):LJ m (k+1)=LJ m k++[(k:Int)]:=by
 unfold LJ;rw[List.range_succ,List.filter_append]; simp[h]
theorem zb0{m:Int}{k:Nat}(h:QX m (k:Int)=false):LJ m (k+1)=LJ m k:=by
 unfold LJ;rw[List.range_succ,List.filter_append]; simp[h]
theorem zxv(m:Int)(k j:Nat):∃r,LJ m (k+j)=LJ m k++r:=by
 induction j with
 | zero=>exact⟨[],Qs⟩
 | succ j ih=>
  obtain⟨r,hr⟩:=ih;rw[show k+(j+1)=(k+j)+1 from rfl]
  cases h:QX m ((k+j:Nat):Int) with
  | true=>rw[F8 h,hr]; exact⟨r++[((k+j:Nat):Int)],Qs⟩
  | false=>rw[zb0 h,hr]; exact⟨r,rfl⟩
theorem zm7{α:Type}[Inhabited α](l r:List α)(x:α):gi (l++(x::r)) (l.length:Int)=x:=by
 unfold gi;simp
theorem zz2{m:Int}{k:Nat}(hk:k<4)(h:QX m (k:Int)=true):(LJ m k).length<(LJ m 4).length/\gi (LJ m 4) ((LJ m k).length:Int)=(k:Int):=by
 obtain⟨r,hr⟩:=zxv m (k+1) (4-(k+1));rw[show k+1+(4-(k+1))=4 by omega,F8 h,List.append_assoc] at hr;rw[hr];exact⟨Qs,zm7 _ _ _⟩
theorem za8{m:Int}{bm:Nat}{I:Nat->Wo->Prop}{w:Wo}(hI:∀k W1,I k W1->Q1 [] W1 (some ⟨bm,0,none⟩) 0 [.int .i64 m]) :
  zyp Tryz.prog QH #[.pointer (some ⟨bm,0,none⟩)] (LJ m 4).length (fun k=>[.int .i64 (gi (LJ m 4) (k:Int))]) I w:=by
 intro l J Jx W hx hJI hAJ hAx hY h0;refine(Ka (.yield l) #[] #[] (some ⟨bm,0,none⟩) (R:=fun v w'=>J (LJ m 4).length w'\/Jx () w') ?_).mono fun e w' ⟨v,he,hr⟩=>⟨⟨v,he⟩,hr⟩
 refine Xx 4 0 rfl (fun k w1=>k<=4/\J (LJ m k).length w1) (fun w1 S9 _=>⟨Ic _,hAJ 0 _ _ [] h0 S9 Qs⟩) fun k w1 _ ⟨hk,hJ⟩=>⟨fun IS=>?_,fun Ry wr R0=>.inl ?_⟩
 ·have IS:=Ot IS;have hk4:k<4:=Qo;refine⟨m,hI _ _ (hJI _ _ hJ),QX m (k:Int),zbb,fun h I' S9 _=>?_,fun h=>⟨fun g=>(by cases g),fun _=>⟨⟨Qo,Qo⟩,fun RH Sg _=>Qm hk4 ⟨Qo,?_⟩⟩⟩⟩
  ·obtain⟨hl,hg⟩:=zz2 hk4 h;have hc:=hY (LJ m k).length I' hl (hAJ _ _ _ [] hJ S9 Qs)
   dsimp only at hc
   rw[hg] at hc;refine hc.mono fun e w2 ⟨_,hr⟩=>?_
   rcases hr with ⟨he,hJ2⟩ | ⟨he,hJx⟩
   ·refine⟨true,he,Yf,fun g=>(by rw[h] at g; cases g),fun _=>⟨⟨Qo,Qo⟩,fun Rp R4 _=>Qm hk4 ⟨Qo,?_⟩⟩⟩;rw[F8 h,Io];exact hAJ _ _ _ [] hJ2 R4 Qs
   ·exact⟨false,he,Yf,fun _ J' R0=>.inr (hAx _ _ _ [] hJx R0 Qs),fun g=>(by rw[h] at g; cases g)⟩
  ·have h:QX m (k:Int)=false:=by simpa using h
   rw[zb0 h];exact hAJ _ _ _ [] hJ Sg Qs
 ·have Ry:=Ou Ry;have:k=4:=Qo;subst this;exact hAJ _ _ _ [] hJ R0 Qs
theorem zgk{m:Int}{w:Wo}:Cz X8 #[I m] w fun e w'=>∃b:Nat,w.heap.size<=b/\e=.returned (.func (.func QH) #[] #[.pointer (some ⟨b,0,none⟩)])/\Q1 [] w' (some ⟨b,0,none⟩) 0 [I m]/\Q0 [] w w':=by
 refine(Ln m (R:=fun v w'=>∃b:Nat,w.heap.size<=b/\v=.func (.func QH) #[] #[.pointer (some ⟨b,0,none⟩)]/\Q1 [] w' (some ⟨b,0,none⟩) 0 [I m]/\Q0 [] w w') ?_).mono fun e w' ⟨v,he,b,hb,hv,h1⟩=>⟨b,hb,by rw[he,hv],h1⟩
 intro b wb hx hb Wr _ wr R0;refine⟨b,hb,rfl,?_,hx.trans R0⟩;have hc:=QM Wr R0 Qs;exact Xh ⟨⟨b,0,none⟩,rfl,Qs,by rw[Addr.add_lit,Nat.add_zero,UP hc]; rfl⟩
theorem zj7{W:Wo}{b:Nat}{v:Va}(h:∃t,W.heap[b]? = some (.cells ([v]:List Va).toArray t (0,0))):Q1 [] W (some ⟨b,0,none⟩) 0 [v]:=by
 obtain⟨t,h⟩:=h;exact Xh ⟨⟨b,0,none⟩,rfl,Qs,by rw[Addr.add_lit,Nat.add_zero,UP h]; rfl⟩
theorem zes{a:Array Va}{i:Nat}{v:Va}(h:i<a.size):(a.setIfInBounds i v).getD i undef=v:=by
 rw[Array.getD_eq_getD_getElem?,Array.getElem?_setIfInBounds_self_of_lt h]; rfl
theorem Gb{a:Array Va}{i j:Nat}{v:Va}(h:i≠j):(a.setIfInBounds i v).getD j undef=a.getD j undef:=by
 rw[Array.getD_eq_getD_getElem?,Array.getD_eq_getD_getElem?,Array.getElem?_setIfInBounds_ne h]
theorem Ev{P:Program}{f:FuncId}{fn:Func}{body:Code}{n:Nat}{args:List Va}{w:Wo}{R:Ending->Wo->Prop}(hf:P.funcs[f]? = some fn)(hb:fn.body=some body)(hn:fn.ntmps=n)(hl:args.length<=n)(h:∀a:Act,a.tmps.size=n->(∀(i:Nat) v,args[i]? = some v->a.tmps.getD i undef=v)->a.defers=[]->body.wpIn (Vf none) 0 P (bodyPostM (Vf none) 0 P fn R) a w):Calls P f args.toArray w R:=by
 refine zj9 hf hb (h _ ?_ ?_ rfl)
 ·simp[hn]; omega
 ·intro i v hv;rw[Array.getD_eq_getD_getElem?,Array.getElem?_append_left (by simpa using (I8.1 hv).1)];simp[hv]
theorem zko{i:Tmp}{v:Va}{t:Array Va}:((#[i].zip [v].toArray).foldl (fun (t:Array Va) (p,v)=>t.setIfInBounds p v) t)=t.setIfInBounds i v:=Qs
theorem GY{W1 W2:Wo}{b:Nat}{v:Va}{ys:List Nat}(h:Q1 [] W1 (some ⟨b,0,none⟩) 0 [v])(hx:Q0 ys W1 W2)(hb:b∉ys):Q1 [] W2 (some ⟨b,0,none⟩) 0 [v]:=by
 obtain⟨a,ha,_,hc⟩:=h.get 0 _ rfl;cases ha;have hw:Jf ys W1 (some ⟨b,0,none⟩) (0+0) v:=⟨_,rfl,hb,hc⟩;obtain⟨a2,ha2,_,hc2⟩:=hw.ext hx;cases ha2;exact Xh ⟨_,rfl,Qs,hc2⟩
theorem zox{W1:Wo}{b:Nat}{v:Va}(h:Q1 [] W1 (some ⟨b,0,none⟩) 0 [v]):b<W1.heap.size:=by
 obtain⟨a,ha,_,hc⟩:=h.get 0 _ rfl;cases ha;have:=World.block_lt_of_cell? W1 _ hc
 rwa[Zz] at this
noncomputable def OH(l:Option Nat):Ug:={ P:=Tryz.prog,T:=Uf zoe,pf:=zr3,ef:=zq3,tt:=zv2,vis:=[3],n:=10,pm:=false,wr:=false,rd:=l }
noncomputable def GE:List (Nat×ZV):=[]
noncomputable def YO:List Code:=[cL ((JG Tryz.f60)),cL (cR ((JG Tryz.f60)))]
def Oy(w:Wo)(R:Exit->List Va->Wo->Prop):Prop:= (∀a b,Q0 [] w b->w.heap.size<=a->b.heap[a]? = some (Obj.cells ([I 0]:List Va).toArray Qb (0,0))->a∉([]:List Nat)->X0 [] b (some (Addr.mk a 0 none)) 0 1/\(∀c,Q0 [] (Rl b (some (Addr.mk a 0 none)) 0 [I 0]) c->R .normal [.pointer ((some (Addr.mk a 0 none)).map (·.add 0))] c))
theorem GO(l:Option Nat)(w:Wo)(R:Exit->List Va->Wo->Prop):z1a (OH l) GE YO (JJ []) w (Mz [3] R)=Oy w R:=Qk
theorem G7(l:Option Nat){w:Wo}{R:Exit->List Va->Wo->Prop}{X:Code}{Q:Exit->Act->Wo->Prop}{a:Act}(hn:a.tmps.size=10)(sR:L4 [] a)(hvc:Oy w R)(hX:∀vs a1 w1,R .normal vs w1->zmj (OY YO) [3] a a1 vs->X.wpIn (Vf l) 0 Tryz.prog Q a1 w1)(hQ:∀e vs a1 w1,e≠.normal->R e vs w1->zmj (OY YO) [3] a a1 vs->Q e a1 w1):(zn5 YO X).wpIn (Vf l) 0 Tryz.prog Q a w:=
 zyt (C:=OH l) (ztr _ _ _ _ _) hn sR (by rw[GO]; exact hvc) hX hQ
noncomputable def OG(l:Option Nat):Ug:={ P:=Tryz.prog,T:=Uf zoe,pf:=zr3,ef:=zq3,tt:=zv2,vis:=[],n:=10,pm:=false,wr:=false,rd:=l }
noncomputable def GD:List (Nat×ZV):=[]
noncomputable def XL:Code:=(cL (cL (cR (cR ((JG Tryz.f60))))))
def Ox(h:Int)(w:Wo)(R:Exit->List Va->Wo->Prop):Prop:= (AY [] w fun e=>Cz X8 #[I h] e fun g d=>(∃(f:Fn) (c:Array Va) (a:Array Va),g=.returned (.func f c a)/\Q9 [] e d/\(∀b,Q0 [] d b->R .normal [.func f c a] b)))
theorem GN(l:Option Nat)(m:Int)(w:Wo)(R:Exit->List Va->Wo->Prop):FH (OG l) GD XL (JJ [(0,.int .i64 m)]) w (Mz [5] R)=Ox m w R:=Qk
theorem G6(l:Option Nat)(m:Int){w:Wo}{R:Exit->List Va->Wo->Prop}{Q:Exit->Act->Wo->Prop}{a:Act}(hn:a.tmps.size=10)(sR:L4 [(0,.int .i64 m)] a)(hvc:Ox m w R)(hQ:∀e vs a1 w1,R e vs w1->zmj (YR XL) [5] a a1 vs->Q e a1 w1):XL.wpIn (Vf l) 0 Tryz.prog Q a w:=
 za0 (C:=OG l) (ztr _ _ _ _ _) hn sR (by rw[GN]; exact hvc) hQ
noncomputable def TC(l:Option Nat):Ug:={ P:=Tryz.prog,T:=Uf zoe,pf:=zr3,ef:=zq3,tt:=zv2,vis:=[],n:=10,pm:=false,wr:=false,rd:=l }
noncomputable def Ly:List (Nat×ZV):=[]
noncomputable def Xr:Code:=(z2h (cB (cR (cL (cR (cR ((JG Tryz.f60))))))))
def Tx(a:OA)(w:Wo)(R:Exit->List Va->Wo->Prop):Prop:= (∃(b:Int),Q1 [] w a 0 [I b]/\Qq .i64 (b+1)/\X0 [] w a 0 1/\(∀c,Q0 [] (Rl w a 0 [I (b+1)]) c->R .normal [] c))
theorem LE(l:Option Nat)(count:OA)(w:Wo)(R:Exit->List Va->Wo->Prop):FH (TC l) Ly Xr (JJ [(3,.pointer count)]) w (Mz [] R)=Tx count w R:=Qk
theorem Lo(l:Option Nat)(count:OA){w:Wo}{R:Exit->List Va->Wo->Prop}{Q:Exit->Act->Wo->Prop}{a:Act}(hn:a.tmps.size=10)(sR:L4 [(3,.pointer count)] a)(hvc:Tx count w R)(hQ:∀e vs a1 w1,R e vs w1->zmj (YR Xr) [] a a1 vs->Q e a1 w1):Xr.wpIn (Vf l) 0 Tryz.prog Q a w:=
 za0 (C:=TC l) (ztr _ _ _ _ _) hn sR (by rw[LE]; exact hvc) hQ
noncomputable def TE(l:Option Nat):Ug:={ P:=Tryz.prog,T:=Uf zoe,pf:=zr3,ef:=zq3,tt:=zv2,vis:=[],n:=10,pm:=false,wr:=false,rd:=l }
noncomputable def Lz:List (Nat×ZV):=[]
noncomputable def Xs:Code:=(cR (cR (cR ((JG Tryz.f60)))))
def Tz(c:OA)(w:Wo)(R:Exit->List Va->Wo->Prop):Prop:= (∃(b:Int),Q1 [] w c 0 [I b]/\(∀a,Q0 [] w a->R .ret [I b] a))
theorem LF(l:Option Nat)(count:OA)(w:Wo)(R:Exit->List Va->Wo->Prop):FH (TE l) Lz Xs (JJ [(3,.pointer count)]) w (Mz [2] R)=Tz count w R:=Qk
theorem Lp(l:Option Nat)(count:OA){w:Wo}{R:Exit->List Va->Wo->Prop}{Q:Exit->Act->Wo->Prop}{a:Act}(hn:a.tmps.size=10)(sR:L4 [(3,.pointer count)] a)(hvc:Tz count w R)(hQ:∀e vs a1 w1,R e vs w1->zmj (YR Xs) [2] a a1 vs->Q e a1 w1):Xs.wpIn (Vf l) 0 Tryz.prog Q a w:=
 za0 (C:=TE l) (ztr _ _ _ _ _) hn sR (by rw[LF]; exact hvc) hQ
noncomputable def OK(l:Option Nat):Ug:={ P:=Tryz.prog,T:=Uf zoe,pf:=zr3,ef:=zq3,tt:=zv2,vis:=[2],n:=8,pm:=false,wr:=false,rd:=l }
noncomputable def GH:List (Nat×ZV):=[]
noncomputable def YP:List Code:=[cL ((JG Tryz.f119))]
def OC(w:Wo)(R:Exit->List Va->Wo->Prop):Prop:= (∀a b,Q0 [] w b->w.heap.size<=a->b.heap[a]? = some (Obj.cells ([I 0]:List Va).toArray Qb (0,0))->a∉([]:List Nat)->(∀c,Q0 [] b c->R .normal [.pointer ((some (Addr.mk a 0 none)).map (·.add 0))] c))
theorem GR(l:Option Nat)(w:Wo)(R:Exit->List Va->Wo->Prop):z1a (OK l) GH YP (JJ []) w (Mz [2] R)=OC w R:=Qk
theorem Ga(l:Option Nat){w:Wo}{R:Exit->List Va->Wo->Prop}{X:Code}{Q:Exit->Act->Wo->Prop}{a:Act}(hn:a.tmps.size=8)(sR:L4 [] a)(hvc:OC w R)(hX:∀vs a1 w1,R .normal vs w1->zmj (OY YP) [2] a a1 vs->X.wpIn (Vf l) 0 Tryz.prog Q a1 w1)(hQ:∀e vs a1 w1,e≠.normal->R e vs w1->zmj (OY YP) [2] a a1 vs->Q e a1 w1):(zn5 YP X).wpIn (Vf l) 0 Tryz.prog Q a w:=
 zyt (C:=OK l) (ztr _ _ _ _ _) hn sR (by rw[GR]; exact hvc) hX hQ
noncomputable def OJ(l:Option Nat):Ug:={ P:=Tryz.prog,T:=Uf zoe,pf:=zr3,ef:=zq3,tt:=zv2,vis:=[],n:=8,pm:=false,wr:=false,rd:=l }
noncomputable def GG:List (Nat×ZV):=[]
noncomputable def XN:Code:=(cL (cL (cR ((JG Tryz.f119)))))
def OB(h:Int)(w:Wo)(R:Exit->List Va->Wo->Prop):Prop:= (AY [] w fun e=>Cz X8 #[I h] e fun g d=>(∃(f:Fn) (c:Array Va) (a:Array Va),g=.returned (.func f c a)/\Q9 [] e d/\(∀b,Q0 [] d b->R .normal [.func f c a] b)))
theorem GQ(l:Option Nat)(m:Int)(w:Wo)(R:Exit->List Va->Wo->Prop):FH (OJ l) GG XN (JJ [(0,.int .i64 m)]) w (Mz [5] R)=OB m w R:=Qk
theorem G9(l:Option Nat)(m:Int){w:Wo}{R:Exit->List Va->Wo->Prop}{Q:Exit->Act->Wo->Prop}{a:Act}(hn:a.tmps.size=8)(sR:L4 [(0,.int .i64 m)] a)(hvc:OB m w R)(hQ:∀e vs a1 w1,R e vs w1->zmj (YR XN) [5] a a1 vs->Q e a1 w1):XN.wpIn (Vf l) 0 Tryz.prog Q a w:=
 za0 (C:=OJ l) (ztr _ _ _ _ _) hn sR (by rw[GQ]; exact hvc) hQ
noncomputable def OI(l:Option Nat):Ug:={ P:=Tryz.prog,T:=Uf zoe,pf:=zr3,ef:=zq3,tt:=zv2,vis:=[],n:=8,pm:=false,wr:=false,rd:=l }
noncomputable def GF:List (Nat×ZV):=[]
noncomputable def XM:Code:=(z2s (cB (cR (cL (cR ((JG Tryz.f119)))))))
def Oz(b:Int)(w:Wo)(R:Exit->List Va->Wo->Prop):Prop:= (∀a,Q0 [] w a->R .normal [I b] a)
theorem GP(l:Option Nat)(x:Int)(w:Wo)(R:Exit->List Va->Wo->Prop):FH (OI l) GF XM (JJ [(6,.int .i64 x)]) w (Mz [3] R)=Oz x w R:=Qk
theorem G8(l:Option Nat)(x:Int){w:Wo}{R:Exit->List Va->Wo->Prop}{Q:Exit->Act->Wo->Prop}{a:Act}(hn:a.tmps.size=8)(sR:L4 [(6,.int .i64 x)] a)(hvc:Oz x w R)(hQ:∀e vs a1 w1,R e vs w1->zmj (YR XM) [3] a a1 vs->Q e a1 w1):XM.wpIn (Vf l) 0 Tryz.prog Q a w:=
 za0 (C:=OI l) (ztr _ _ _ _ _) hn sR (by rw[GP]; exact hvc) hQ
noncomputable def TF(l:Option Nat):Ug:={ P:=Tryz.prog,T:=Uf zoe,pf:=zr3,ef:=zq3,tt:=zv2,vis:=[],n:=8,pm:=false,wr:=false,rd:=l }
noncomputable def LA:List (Nat×ZV):=[]
noncomputable def Xt:Code:=(z2h (cB (cR (cL (cR ((JG Tryz.f119)))))))
def TA(b:OA)(c:Int)(w:Wo)(R:Exit->List Va->Wo->Prop):Prop:= X0 [] w b 0 1/\(∀a,Q0 [] (Rl w b 0 [I c]) a->R .ret [] a)
theorem LG(l:Option Nat)(x:OA)(IZ:Int)(w:Wo)(R:Exit->List Va->Wo->Prop):FH (TF l) LA Xt (JJ [(2,.pointer x),(3,.int .i64 IZ)]) w (Mz [] R)=TA x IZ w R:=Qk
theorem Lq(l:Option Nat)(x:OA)(IZ:Int){w:Wo}{R:Exit->List Va->Wo->Prop}{Q:Exit->Act->Wo->Prop}{a:Act}(hn:a.tmps.size=8)(sR:L4 [(2,.pointer x),(3,.int .i64 IZ)] a)(hvc:TA x IZ w R)(hQ:∀e vs a1 w1,R e vs w1->zmj (YR Xt) [] a a1 vs->Q e a1 w1):Xt.wpIn (Vf l) 0 Tryz.prog Q a w:=
 za0 (C:=TF l) (ztr _ _ _ _ _) hn sR (by rw[LG]; exact hvc) hQ
noncomputable def TG(l:Option Nat):Ug:={ P:=Tryz.prog,T:=Uf zoe,pf:=zr3,ef:=zq3,tt:=zv2,vis:=[],n:=8,pm:=false,wr:=false,rd:=l }
noncomputable def LB:List (Nat×ZV):=[]
noncomputable def Xu:Code:=(cR (cR ((JG Tryz.f119))))
def TB(b:OA)(w:Wo)(R:Exit->List Va->Wo->Prop):Prop:= X0 [] w b 0 1/\(∀a,Q0 [] (Rl w b 0 [I (-1)]) a->R .ret [] a)
theorem LH(l:Option Nat)(x:OA)(w:Wo)(R:Exit->List Va->Wo->Prop):FH (TG l) LB Xu (JJ [(2,.pointer x)]) w (Mz [] R)=TB x w R:=Qk
theorem Lr(l:Option Nat)(x:OA){w:Wo}{R:Exit->List Va->Wo->Prop}{Q:Exit->Act->Wo->Prop}{a:Act}(hn:a.tmps.size=8)(sR:L4 [(2,.pointer x)] a)(hvc:TB x w R)(hQ:∀e vs a1 w1,R e vs w1->zmj (YR Xu) [] a a1 vs->Q e a1 w1):Xu.wpIn (Vf l) 0 Tryz.prog Q a w:=
 za0 (C:=TG l) (ztr _ _ _ _ _) hn sR (by rw[LH]; exact hvc) hQ
def zla(k:Int):Mj:=⟨Int.tmod (k) 3==0,k+1,k+1+1,k+1+1+1,k+1+1+1+1⟩
end Go.Proofs.YtnclplgaicdapaaGreatDoor
