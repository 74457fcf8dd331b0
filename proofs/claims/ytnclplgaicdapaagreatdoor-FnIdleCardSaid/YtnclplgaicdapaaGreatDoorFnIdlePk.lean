/- Part 11 of what the law FnIdle needs. -/
import Derived.Test.YtnclplgaicdapaaGreatDoorFnIdlePj
import Derived.Test.YtnclplgaicdapaaGreatDoorRows
import Derived.ChangeSame
import Derived.ChangeVars
import Derived.JoinedOf
import Derived.LaidLaws
import Derived.LaidHandle
import Derived.Stop.Joined
set_option linter.unusedVariables false
set_option linter.unusedSimpArgs false
set_option maxRecDepth 100000
set_option maxHeartbeats 8000000
namespace Go.Proofs.YtnclplgaicdapaaGreatDoor
open Go.RowKit
section
open Go.ChangeShapes Go.WideShapes Go.RowKit
abbrev laidE : List (String × DataW Unit) := [("errors.errorType", Rows.laid_errors_errorType)]
theorem z0e : Tryz.prog.globalNamed "errors.errorType" = some 0 := by kernel_rfl
theorem z0f : (Tryz.prog.cutTypes.find? (·.1 == "internal/reflectlite.rtype")).map (·.2) = some 174 := by kernel_rfl
theorem zt6:Tryz.prog.types.size=243:=Qk
theorem znn:((List.range 243).filter λt=>Tryz.prog.rowNamed t [101,114,114,111,114])=[67]:=Qk
theorem znm:typeHandle Tryz.prog 67=.pointer (some ⟨1,67,none⟩):=Qk
theorem glob_of_laid{W:Wo}(h:laidMetH Tryz.prog laidE W):K7 W:=by
 have h':laidMet Tryz.prog [] W/\handlesMet Tryz.prog laidE W:=h;obtain⟨name,u,ty,e1,e2,e3,e4,e5⟩:=h'.2 _ (IA.2 rfl);have en:name=[101,114,114,111,114]:=(Option.some.inj e1).symm;subst en;obtain rfl:=Option.some.inj (z0f.symm.trans e2);have hm:ty∈(List.range 243).filter λt=>Tryz.prog.rowNamed t [101,114,114,111,114]:=List.mem_filter.2 ⟨List.mem_range.2 (by rw[<-zt6]; exact e3),e4⟩
 rw[znn] at hm;obtain rfl:=IA.1 hm;rw[znm] at e5;unfold K7
 simpa using World.var?_cell z0e e5 0
noncomputable def laidWorld(os:Os):Wo:=
 let w0:=World.holding Tryz.prog os ⟨#[],#[],[]⟩
 { w0 with heap:=w0.heap.modify 0 fun
   | .cells _ t frozen=>.cells #[.iface 174 (.agg #[.pointer (some ⟨1,67,none⟩)])] t frozen
   | o=>o }
theorem laidWorld_met(os:Os)(args:Array Va):laidMetH Tryz.prog laidE ((laidWorld os).forCall (λ_ _=>0) ⟨#[],args,[]⟩).memory:=
 laidMetH_of_parts (laidMet_nil _ _) Qk
end
def AG(P:Program)(gf:FuncId)(lb:Array Va)(N:Nat)(Aw2:Nat->List Va)(I:Nat->Wo->Prop)(w:Wo):Prop:=
 ∀(l:Nat) (J:Nat->Wo->Prop) (Jx:Unit->Wo->Prop) (W:Wo),Q0 [] w W->(∀k W1,J k W1->I k W1)->z5e W.heap.size J->z5e W.heap.size Jx->
  (∀k W1,k<N->J k W1->Tb P (.func (.yield l) #[] #[]) (Aw2 k) W1 λe W2=>(∃X,Q0 X W1 W2/\∀x∈X,x<W.heap.size)/\((e=.returned (.bool true)/\J (k+1) W2)\/(e=.returned (.bool false)/\Jx () W2)))->
  J 0 W->Calls P gf (#[.func (.yield l) #[] #[]]++lb) W λe W2=>(∃v,e=.returned v)/\(J N W2\/Jx () W2)
theorem zys{P:Program}{g:Operand}{ps:Array Tmp}{asg body:Code}{Q:Exit->Act->Wo->Prop}{a:Act}{w:Wo}{gf:FuncId}{lb:Array Va}(hg:a.eval g=.func (.func gf) #[] lb)(eg:∀args w,(callFunc gf args).run P w=.ok (.enter gf args) w)(I:Nat->Wo->Prop)(Ix:Code->Wo->Prop)(N:Nat)(Aw2:Nat->List Va)(hI:z5e w.heap.size I)(hIx:z5e w.heap.size Ix)(h0:I 0 w)(hps:∀k,(Aw2 k).length=ps.size)(hit:AG P gf lb N Aw2 I w)(CA0:∀l k W,k<N->I k W->w.heap.size<=l->asg.wpIn (Tk (some l)) 0 P (Exit.then (fun a1 W1=>(∃X,Q0 X W W1/\∀x∈X,x<w.heap.size)/\∀W2,Q0 [l] W1 W2->body.wpIn (Tk (some l)) 0 P (z3z w.heap.size I Ix k W2) a1 W2) (fun _ _ _=>False))
   { tmps:=(ps.zip (Aw2 k).toArray).foldl (λt (p,v)=>t.setIfInBounds p v) a.tmps,defers:=[] } W)(CO0:∀D W,w.heap.size<=D->I N W->W.heap[D]? = some (.deferred (some []))->Q .normal { a with defers:=A8 D::a.defers } W)(CT8:∀D c W,w.heap.size<=D->Ix c W->W.heap[D]? = some (.deferred (some []))->c.wpIn (Tk none) 0 P Q { a with defers:=A8 D::a.defers } W) :
  (Code.rangeFunc g ps asg body).wpIn (Tk none) 0 P Q a w:=by
 refine wpIn_rangeFunc λfn _=>?_
 obtain⟨rec,At5⟩:∃rec:LoopState->Option Code->Loop,rec=λst pe=>{ state:=st,pending:=pe,fn,tmps:=a.tmps,params:=ps,assign:=asg,body,defers:=w.heap.size }:=⟨_,rfl⟩
 obtain⟨W1,hW1⟩:∃W1,(w.alloc (.deferred (some []))).alloc (.loop (rec .ready none))=W1:=⟨_,rfl⟩
 have hL1:W1.heap[w.heap.size+1]? = some (.loop (rec .ready none)):=by
  have:=World.alloc_heap_new (w.alloc (.deferred (some []))) (.loop (rec .ready none));rw[World.size_alloc] at this;rw[<-hW1]; exact this
 have hD1:W1.heap[w.heap.size]? = some (.deferred (some [])):=by
  rw[<-hW1]; exact(Below.heap_alloc _ _ _ Qs).trans (World.alloc_heap_new w _)
 have hX1:Q0 [] w W1:=by rw[<-hW1]; exact((Q0.refl [] w).alloc _).alloc _
 have rH:W1.heap.size=w.heap.size+2:=by rw[<-hW1]; simp
 refine⟨w.heap.size+1,[A8 w.heap.size],W1,{ target:=.fn (.func gf) lb,args:=#[.func (.yield (w.heap.size+1)) #[] #[]] },W1,gf,#[.func (.yield (w.heap.size+1)) #[] #[]]++lb,W1,?_,?_,λ_ _=>trivial,?_,λhx=>(by simp[Tk,Fence.wide] at hx),M9 ?_⟩
 ·rw[<-hW1,At5]; exact run_enterLoop_outer _ _ _ _ _
 ·simp only[resolve,hg];simp[go_sem]
 ·simp[invoke,eg]
 have nR:∀{W W':Wo} {ys:List Nat} {x:Nat} {o:Obj},W.heap[x]? = some o->Q0 ys W W'->x∉ys->W'.heap[x]? = some o:=λ{W W' ys x o} h hx hn=>(hx.block x (Array.getElem?_eq_some_iff.1 h).1 hn).trans h
 refine(hit (w.heap.size+1)
  (λk W=>I k W/\W.heap[w.heap.size+1]? = some (.loop (rec .ready none))/\W.heap[w.heap.size]? = some (.deferred (some [])))
  (λ_ W=>∃c,Ix c W/\W.heap[w.heap.size+1]? = some (.loop (rec .done (some c)))/\W.heap[w.heap.size]? = some (.deferred (some [])))
  W1 hX1 (λk W h=>h.1)
  (λk W W' ys h hx hy=>⟨hI k W W' ys h.1 hx λy hm=>by have:=hy y hm; omega,nR h.2.1 hx λhm=>by have:=hy _ hm; omega,nR h.2.2 hx λhm=>by have:=hy _ hm; omega⟩)
  (λk W W' ys h hx hy=>by
   obtain⟨c,h1,h2,h3⟩:=h;exact⟨c,hIx c W W' ys h1 hx λy hm=>by have:=hy y hm; omega,nR h2 hx λhm=>by have:=hy _ hm; omega,nR h3 hx λhm=>by have:=hy _ hm; omega⟩)
  ?_ ⟨hI 0 _ _ [] h0 hX1 Qs,hL1,hD1⟩).mono ?_
 ·rintro k W hk ⟨hi,hl,hd⟩;have hy:=run_yield (P:=P) (args:=(Aw2 k).toArray) hl (by rw[At5]; simpa using hps k);rw[<-zng] at hy;rw[At5] at hy;refine .inr ⟨w.heap.size+1,fn,_,asg,body,hy,?_⟩
  have hr:=roundIn_of_wpIn (F:=Tk none) (n:=0) (P:=P) (l:=w.heap.size+1) (f:=fn) (assign:=asg) (body:=body) (w:=W) (R:=λe W2=>(∃X,Q0 X W W2/\∀x∈X,x<W1.heap.size)/\((e=.returned (.bool true)/\I (k+1) W2/\W2.heap[w.heap.size+1]? = some (.loop (rec .ready none))/\W2.heap[w.heap.size]? = some (.deferred (some [])))\/(e=.returned (.bool false)/\∃c,Ix c W2/\W2.heap[w.heap.size+1]? = some (.loop (rec .done (some c)))/\W2.heap[w.heap.size]? = some (.deferred (some []))))) trivial
   (wpIn_mono (CA0 (w.heap.size+1) k W hk hi Qo) λe a1 W1' hq=>?_)
  ·exact⟨trivial,λc cs _=>hr.2 c cs (zdj _ _)⟩
  ·cases e with
   | normal=>
    obtain⟨⟨X,hX,hXl⟩,hb⟩:=hq;have mX:=nR hl hX λhm=>by have:=hXl _ hm; omega
    have hd1:=nR hd hX λhm=>by have:=hXl _ hm; omega
    refine⟨_,run_beginRound mX (by rw[At5]),?_⟩;have hl2:(W1'.putObj (w.heap.size+1) (.loop { rec .ready none with state:=.busy })).heap[w.heap.size+1]? = some (.loop { rec .ready none with state:=.busy }):=World.putObj_heap_same (Array.getElem?_eq_some_iff.1 mX).1;have hd2:=nR hd1 (Yz W1' (w.heap.size+1) (.loop { rec .ready none with state:=.busy })) Qs;refine wpIn_mono (hb _ (Yz _ _ _)) λe2 a2 W3 hr=>?_
    obtain⟨⟨X2,hX2,B79⟩,hm⟩:=hr;have hl3:=nR hl2 hX2 λhm=>by have:=B79 _ hm; omega
    have hd3:=nR hd2 hX2 λhm=>by have:=B79 _ hm; omega
    have fin:∀(jump:Option Code),(Instr.endRound (w.heap.size+1) jump).run P W3=.ok (.bool jump.isNone) (W3.putObj (w.heap.size+1) (.loop (rec (if jump.isNone then .ready else .done) jump)))/\
      (W3.putObj (w.heap.size+1) (.loop (rec (if jump.isNone then .ready else .done) jump))).heap[w.heap.size+1]? = some (.loop (rec (if jump.isNone then .ready else .done) jump))/\
      (W3.putObj (w.heap.size+1) (.loop (rec (if jump.isNone then .ready else .done) jump))).heap[w.heap.size]? = some (.deferred (some [])):=λjump=>by
     have:=run_endRound (P:=P) jump hl3;rw[At5] at this ⊢;exact⟨this,World.putObj_heap_same (Array.getElem?_eq_some_iff.1 hl3).1,nR hd3 (Yz _ _ _) Qs⟩
    have oK:∀o,∃X,Q0 X W (W3.putObj (w.heap.size+1) o)/\∀x∈X,x<W1.heap.size:=λo=>by
     have m1:Q0 (X++[w.heap.size+1]++X2) W W1':=hX.mono λx hm=>by simp[hm]
     have m2:Q0 (X++[w.heap.size+1]++X2) W1' (W1'.putObj (w.heap.size+1) (.loop { rec .ready none with state:=.busy })):=(Yz _ _ _).mono λx hm=>by
      have:x=w.heap.size+1:=by simpa using hm
      simp[this]
     have m3:Q0 (X++[w.heap.size+1]++X2) _ W3:=hX2.mono λx hm=>by simp[hm]
     have m4:Q0 (X++[w.heap.size+1]++X2) W3 (W3.putObj (w.heap.size+1) o):=(Yz _ _ _).mono λx hm=>by
      have:x=w.heap.size+1:=by simpa using hm
      simp[this]
     refine⟨_,((m1.trans m2).trans m3).trans m4,λx hm=>?_⟩;simp only[Im,IA] at hm;rcases hm with (hm | hm) | hm
     ·have:=hXl x hm; omega
     ·omega
     ·have:=B79 x hm; omega
    cases e2 with
    | normal=>
     obtain⟨f1,f2,f3⟩:=fin none;exact⟨_,_,f1,oK _,.inl ⟨rfl,hI _ _ _ [w.heap.size+1] hm (Yz _ _ _) Qs,f2,f3⟩⟩
    | ret=>
     obtain⟨f1,f2,f3⟩:=fin (some .ret);exact⟨_,_,f1,oK _,.inr ⟨rfl,.ret,hIx _ _ _ [w.heap.size+1] hm (Yz _ _ _) Qs,f2,f3⟩⟩
    | exit i=>
     obtain⟨f1,f2,f3⟩:=fin (some (.exit i));exact⟨_,_,f1,oK _,.inr ⟨rfl,.exit i,hIx _ _ _ [w.heap.size+1] hm (Yz _ _ _) Qs,f2,f3⟩⟩
    | goto t=>
     obtain⟨f1,f2,f3⟩:=fin (some (.goto t));exact⟨_,_,f1,oK _,.inr ⟨rfl,.goto t,hIx _ _ _ [w.heap.size+1] hm (Yz _ _ _) Qs,f2,f3⟩⟩
    | panic ch=>exact hm.elim
    | outgrown=>exact hm.elim
   | _=>exact hq.elim
 ·rintro e W2 ⟨⟨v,rfl⟩,(⟨hi,hl,hd⟩ | ⟨c,hi,hl,hd⟩)⟩
  ·have:=run_endLoop (P:=P) hl (by rw[At5]; simp);rw[At5] at this;exact⟨none,_,this,CO0 _ _ (I7 _) (hI _ _ _ [w.heap.size+1] hi (Yz _ _ _) Qs) (nR hd (Yz _ _ _) Qs)⟩
  ·have:=run_endLoop (P:=P) hl (by rw[At5]; simp);rw[At5] at this;exact⟨some c,_,this,CT8 _ c _ (I7 _) (hIx _ _ _ [w.heap.size+1] hi (Yz _ _ _) Qs) (nR hd (Yz _ _ _) Qs)⟩
def zmc(m:Int)(k:Nat):List Int:=((List.range k).filter λ(i:Nat)=>QZ m (i:Int)).map λ(i:Nat)=>(i:Int)
theorem H5{m:Int}{k:Nat}(h:QZ m (k:Int)=true):zmc m (k+1)=zmc m k++[(k:Int)]:=by
 unfold zmc;rw[List.range_succ,List.filter_append]; simp[h]
theorem zep{m:Int}{k:Nat}(h:QZ m (k:Int)=false):zmc m (k+1)=zmc m k:=by
 unfold zmc;rw[List.range_succ,List.filter_append]; simp[h]
theorem z1k(m:Int)(k j:Nat):∃r,zmc m (k+j)=zmc m k++r:=by
 induction j with
 | zero=>exact⟨[],Qs⟩
 | succ j ih=>
  obtain⟨r,hr⟩:=ih;rw[show k+(j+1)=(k+j)+1 from rfl]
  cases h:QZ m ((k+j:Nat):Int) with
  | true=>rw[H5 h,hr]; exact⟨r++[((k+j:Nat):Int)],Qs⟩
  | false=>rw[zep h,hr]; exact⟨r,rfl⟩
theorem EA{α:Type}[Inhabited α](l r:List α)(x:α):gi (l++(x::r)) (l.length:Int)=x:=by
 unfold gi;simp
theorem z3n{m:Int}{k:Nat}(hk:k<4)(h:QZ m (k:Int)=true):(zmc m k).length<(zmc m 4).length/\gi (zmc m 4) ((zmc m k).length:Int)=(k:Int):=by
 obtain⟨r,hr⟩:=z1k m (k+1) (4-(k+1));rw[show k+1+(4-(k+1))=4 by omega,H5 h,List.append_assoc] at hr;rw[hr];exact⟨Qs,EA _ _ _⟩
theorem zqi{m:Int}{bm:Nat}{I:Nat->Wo->Prop}{w:Wo}(hI:∀k W1,I k W1->Q1 [] W1 (some ⟨bm,0,none⟩) 0 [.int .i64 m]) :
  AG Tryz.prog Z5 #[.pointer (some ⟨bm,0,none⟩)] (zmc m 4).length (λk=>[.int .i64 (gi (zmc m 4) (k:Int))]) I w:=by
 intro l J Jx W hx hJI hAJ hAx hY h0;refine(KP (.yield l) #[] #[] (some ⟨bm,0,none⟩) (R:=λv w'=>J (zmc m 4).length w'\/Jx () w') ?_).mono λe w' ⟨v,he,hr⟩=>⟨⟨v,he⟩,hr⟩
 refine XJ 4 0 rfl (λk w1=>k<=4/\J (zmc m k).length w1) (λw1 RZ _=>⟨Ic _,hAJ 0 _ _ [] h0 RZ Qs⟩) λk w1 _ ⟨hk,hJ⟩=>⟨λIN=>?_,λRx wr R5=>.inl ?_⟩
 ·have IN:=Ot IN;have hk4:k<4:=Qo;refine⟨m,hI _ _ (hJI _ _ hJ),QZ m (k:Int),zdx,λh I' RZ _=>?_,λh=>⟨λg=>(by cases g),λ_=>⟨⟨Qo,Qo⟩,λRN Sm _=>Qp hk4 ⟨Qo,?_⟩⟩⟩⟩
  ·obtain⟨hl,hg⟩:=z3n hk4 h;have hc:=hY (zmc m k).length I' hl (hAJ _ _ _ [] hJ RZ Qs)
   dsimp only at hc
   rw[hg] at hc;refine hc.mono λe w2 ⟨_,hr⟩=>?_
   rcases hr with ⟨he,hJ2⟩ | ⟨he,hJx⟩
   ·refine⟨true,he,Ys,λg=>(by rw[h] at g; cases g),λ_=>⟨⟨Qo,Qo⟩,λRr R6 _=>Qp hk4 ⟨Qo,?_⟩⟩⟩;rw[H5 h,Io];exact hAJ _ _ _ [] hJ2 R6 Qs
   ·exact⟨false,he,Ys,λ_ M' R5=>.inr (hAx _ _ _ [] hJx R5 Qs),λg=>(by rw[h] at g; cases g)⟩
  ·have h:QZ m (k:Int)=false:=by simpa using h
   rw[zep h];exact hAJ _ _ _ [] hJ Sm Qs
 ·have Rx:=Ou Rx;have:k=4:=Qo;subst this;exact hAJ _ _ _ [] hJ R5 Qs
theorem zum{m:Int}{w:Wo}:Cz JK #[I m] w λe w'=>∃b:Nat,w.heap.size<=b/\e=.returned (.func (.func Z5) #[] #[.pointer (some ⟨b,0,none⟩)])/\Q1 [] w' (some ⟨b,0,none⟩) 0 [I m]/\Q0 [] w w':=by
 refine(Gd m (R:=λv w'=>∃b:Nat,w.heap.size<=b/\v=.func (.func Z5) #[] #[.pointer (some ⟨b,0,none⟩)]/\Q1 [] w' (some ⟨b,0,none⟩) 0 [I m]/\Q0 [] w w') ?_).mono λe w' ⟨v,he,b,hb,hv,h1⟩=>⟨b,hb,by rw[he,hv],h1⟩
 intro b wb hx hb Ss _ wr R5;refine⟨b,hb,rfl,?_,hx.trans R5⟩;have hc:=QB Ss R5 Qs;exact YZ ⟨⟨b,0,none⟩,rfl,Qs,by rw[Addr.add_lit,Nat.add_zero,Tt hc]; rfl⟩
def Xv(lt:Int->Int->Bool)(xs:List Int):Nat->Int×Bool
 | 0=>(0,false)
 | k+1=>if (!(Xv lt xs k).2||lt (gi xs (k:Int)) (Xv lt xs k).1)=true then (gi xs (k:Int),true) else Xv lt xs k
theorem zi8{lt:Int->Int->Bool}{xs:List Int}:∀k:Nat,(Xv lt xs k).2=true->∃j:Nat,j<k/\(Xv lt xs k).1=gi xs (j:Int)
 | 0,h=>by cases h
 | k+1,h=>by
  simp only[Xv] at h ⊢;split
  ·exact⟨k,Qo,rfl⟩
  ·rename_i hn;rw[B' hn] at h;obtain⟨j,hj,he⟩:=zi8 k h;exact⟨j,Qo,he⟩
theorem zpy:JH Tryz.f198=zra Xs (.seq (.seq Jl (.block 0 (.rangeFunc (.tmp 9) #[10] Jk J9))) Ja):=Qk
structure zbq (b b1 b2:Nat) (bef:Va) (st:Int×Bool) (W:Wo):Prop where
 c0:∃t,W.heap[b]? = some (.cells ([bef]:List Va).toArray t (0,0))
 c1:∃t,W.heap[b1]? = some (.cells ([I st.1]:List Va).toArray t (0,0))
 c2:∃t,W.heap[b2]? = some (.cells ([.bool st.2]:List Va).toArray t (0,0))
theorem zbq.ext{b b1 b2:Nat}{bef:Va}{st:Int×Bool}{W W':Wo}{ys:List Nat}(h:zbq b b1 b2 bef st W)(hx:Q0 ys W W')(h0:b∉ys)(h1:b1∉ys)(h2:b2∉ys):zbq b b1 b2 bef st W':=
 ⟨h.c0.imp λ_ h=>QB h hx h0,h.c1.imp λ_ h=>QB h hx h1,h.c2.imp λ_ h=>QB h hx h2⟩
theorem Md{W:Wo}{b:Nat}{v:Va}(h:∃t,W.heap[b]? = some (.cells ([v]:List Va).toArray t (0,0))):Q1 [] W (some ⟨b,0,none⟩) 0 [v]:=by
 obtain⟨t,h⟩:=h;exact YZ ⟨⟨b,0,none⟩,rfl,Qs,by rw[Addr.add_lit,Nat.add_zero,Tt h]; rfl⟩
theorem DQ{a:Array Va}{i:Nat}{v:Va}(h:i<a.size):(a.setIfInBounds i v).getD i undef=v:=by
 rw[Array.getD_eq_getD_getElem?,Array.getElem?_setIfInBounds_self_of_lt h]; rfl
theorem UG{a:Array Va}{i j:Nat}{v:Va}(h:i≠j):(a.setIfInBounds i v).getD j undef=a.getD j undef:=by
 rw[Array.getD_eq_getD_getElem?,Array.getD_eq_getD_getElem?,Array.getElem?_setIfInBounds_ne h]
theorem FK{P:Program}{f:FuncId}{fn:Func}{body:Code}{n:Nat}{args:List Va}{w:Wo}{R:Ending->Wo->Prop}(hf:P.funcs[f]? = some fn)(hb:fn.body=some body)(hn:fn.ntmps=n)(hl:args.length<=n)(h:∀a:Act,a.tmps.size=n->(∀(i:Nat) v,args[i]? = some v->a.tmps.getD i undef=v)->a.defers=[]->body.wpIn (Tk none) 0 P (bodyPostM (Tk none) 0 P fn R) a w):Calls P f args.toArray w R:=by
 refine znh hf hb (h _ ?_ ?_ rfl)
 ·simp[hn]; omega
 ·intro i v hv;rw[Array.getD_eq_getD_getElem?,Array.getElem?_append_left (by simpa using (I8.1 hv).1)];simp[hv]
theorem zy9{w:Wo}{o:OA}{n:Nat}{vs:List Va}:(R9 w o n vs).heap.size=w.heap.size:=by
 cases o with
 | none=>rfl
 | some a=>exact OO vs w a n
theorem znw{i:Tmp}{v:Va}{t:Array Va}:((#[i].zip [v].toArray).foldl (λ(t:Array Va) (p,v)=>t.setIfInBounds p v) t)=t.setIfInBounds i v:=Qs
theorem z3g{gf:FuncId}{lb:Array Va}{bF:Fn}{bA bK:Array Va}{xs:List Int}{lt:Int->Int->Bool}{w:Wo}(eg:∀args w,(callFunc gf args).run Tryz.prog w=.ok (.enter gf args) w)(hit:∀(I:Nat->Wo->Prop) (W:Wo),Q0 [] w W->(∀k W1,I k W1->Q0 [] w W1)->AG Tryz.prog gf lb xs.length (λk=>[.int .i64 (gi xs (k:Int))]) I W)(hb:∀i j:Nat,i<xs.length->j<xs.length->∀W1,Q0 [] w W1->Tb Tryz.prog (.func bF bA bK) [.int .i64 (gi xs (i:Int)),.int .i64 (gi xs (j:Int))] W1 λe W2=>e=.returned (.bool (lt (gi xs (i:Int)) (gi xs (j:Int))))/\Q0 [] W1 W2) :
  Cz KQ #[.func (.func gf) #[] lb,.func bF bA bK] w λe w'=>e=.returned (.tuple #[.int .i64 (Xv lt xs xs.length).1,.bool (Xv lt xs xs.length).2])/\Q0 [] w w':=by
 refine FK (args:=[.func (.func gf) #[] lb,.func bF bA bK]) (n:=22) Tryz.func198 (body:=JH Tryz.f198) rfl Qk Qs λa hn ha hd=>?_
 rw[zpy];have a0:=ha 0 _ rfl;have a1:=ha 1 _ rfl;refine Dq none bF bA bK (R:=λe vs w1=>e=.normal/\∃b b1 b2:Nat,vs=[.pointer (some ⟨b,0,none⟩),.pointer (some ⟨b1,0,none⟩),.pointer (some ⟨b2,0,none⟩)]/\b<b1/\b1<b2/\w.heap.size<=b/\b2<w1.heap.size/\zbq b b1 b2 (.func bF bA bK) (0,false) w1/\Q0 [] w w1) hn ?_ ?_ ?_ (λe vs a1 w1 bT hR _=>Ir hR.1 bT)
 ·intro p hp;simp only[Ii,List.not_mem_nil,or_false] at hp;subst hp;exact⟨Ik rfl,a1⟩
 ·intro b wb hx hb0 Ss _ b1 vT RZ cJ sW _ b2 wb2 R5 bR AP3 _;have l0:=JG Ss;have l1:=JG sW;have l2:=JG AP3;have s1:=RZ.size;have s2:=R5.size;refine⟨M5 (k0:=0) AP3 Qs Qs,λwr R6=>?_⟩;have hs:Q0 [b2] wb2 (R9 wb2 (some ⟨b2,0,none⟩) 0 [.bool false]):=JS (bs:=[b2]) Qs;have s3:=R6.size;rw[zy9] at s3;refine⟨rfl,b,b1,b2,rfl,Qo,Qo,hb0,Qo,⟨⟨_,QB (QB (QB (QB Ss RZ Qs) R5 Qs) hs (by simp; omega)) R6 Qs⟩,⟨_,QB (QB (QB sW R5 Qs) hs (by simp; omega)) R6 Qs⟩,⟨_,QB (M3 AP3) R6 Qs⟩⟩,?_⟩
  exact(((hx.trans RZ).trans R5).fresh hs λx hm=>.inl (by
   have:x=b2:=by simpa using hm
   have:=hx.size;omega)).trans R6
 rintro vs a2 w1 ⟨_,b,b1,b2,rfl,h01,h12,hwb,bR,hB,hX⟩ fo
 obtain⟨o3,o6,o7⟩:a2.tmps.getD 3 undef=.pointer (some ⟨b,0,none⟩)/\a2.tmps.getD 6 undef=.pointer (some ⟨b1,0,none⟩)/\a2.tmps.getD 7 undef=.pointer (some ⟨b2,0,none⟩):=by
  have:=fo.out;simp only[List.map_cons,List.map_nil,I4,and_true] at this;exact this
 have o0:a2.tmps.getD 0 undef=.func (.func gf) #[] lb:=(fo.kept 0 (by decide +kernel)).trans a0;refine wpIn_seq (wpIn_seq (Dp none (.func gf) #[] lb (R:=λe vs w2=>e=.normal/\vs=[.func (.func gf) #[] lb]/\Q0 [] w1 w2) (by rw[fo.size,hn]) (λp hp=>?_) (λwr hx=>⟨rfl,rfl,hx⟩) λe vs a3 w2 hR fo3=>?_))
 ·simp only[Ii,List.not_mem_nil,or_false] at hp;subst hp;exact⟨Ik rfl,o0⟩
 obtain⟨rfl,rfl,R5⟩:=hR
 have p9:a3.tmps.getD 9 undef=.func (.func gf) #[] lb:=by
  have:=fo3.out
  simpa using this
 have p3:=(fo3.kept 3 (by decide +kernel)).trans o3;have p6:=(fo3.kept 6 (by decide +kernel)).trans o6;have p7:=(fo3.kept 7 (by decide +kernel)).trans o7;have A07:a3.tmps.size=22:=by rw[fo3.size,fo.size,hn]
 have hd3:a3.defers=[]:=by rw[fo3.defers,fo.defers,hd]
 have hX2:=hX.trans R5;have hB2:=hB.ext R5 Qs Qs Qs;have RA:b2<w2.heap.size:=Nat.lt_of_lt_of_le bR R5.size;refine wpIn_block (zys (lb:=lb) (gf:=gf) p9 eg (λk W=>zbq b b1 b2 (.func bF bA bK) (Xv lt xs k) W/\Q0 [] w W) (λ_ _=>False) xs.length (λk=>[.int .i64 (gi xs (k:Int))]) (λk W W' ys h hx hy=>⟨h.1.ext hx (λhm=>by have:=hy _ hm; omega) (λhm=>by have:=hy _ hm; omega) (λhm=>by have:=hy _ hm; omega),h.2.fresh hx λx hm=>.inl (by have:=hy x hm; have:=hX2.size; omega)⟩) (λk W W' ys h _ _=>h) ⟨hB2,hX2⟩ (λk=>rfl) (hit _ w2 hX2 λk W1 h=>h.2) ?_ ?_ (λD c W _ h _=>h.elim))
 ·intro l k W hk ⟨hBk,hXk⟩ hl;rw[znw];refine Do (some l) (gi xs (k:Int)) (R:=λe vs W1=>e=.normal/\vs=[.int .i64 (gi xs (k:Int))]/\Q0 [] W W1) ?_ (λp hp=>?_) (λwr hx=>⟨rfl,rfl,hx⟩) λe vs a4 W1 hR fo4=>?_
  ·simpa using A07
  ·simp only[Ii,List.not_mem_nil,or_false] at hp;subst hp;exact⟨Ik rfl,DQ (i:=10) (by rw[A07]; decide)⟩
  obtain⟨rfl,rfl,SK⟩:=hR
  have q8:a4.tmps.getD 8 undef=.int .i64 (gi xs (k:Int)):=by
   have:=fo4.out
   simpa using this
  have q3:a4.tmps.getD 3 undef=.pointer (some ⟨b,0,none⟩):=((fo4.kept 3 (by decide +kernel)).trans (UG (i:=10) (j:=3) Qd)).trans p3;have q6:a4.tmps.getD 6 undef=.pointer (some ⟨b1,0,none⟩):=((fo4.kept 6 (by decide +kernel)).trans (UG (i:=10) (j:=6) Qd)).trans p6;have q7:a4.tmps.getD 7 undef=.pointer (some ⟨b2,0,none⟩):=((fo4.kept 7 (by decide +kernel)).trans (UG (i:=10) (j:=7) Qd)).trans p7;refine⟨⟨[],SK,Qs⟩,λW2 Sm=>?_⟩;have hB5:=(hBk.ext SK Qs Qs Qs).ext Sm (by simp; omega) (by simp; omega) (by simp; omega)
  have zX:Q0 [] w W2:=(hXk.trans SK).fresh Sm λx hm=>.inl (by
   have:x=l:=by simpa using hm
   have:=hX2.size;omega)
  have fin:∀(W3:Wo),Q0 [] W2 W3->∀wr,Q0 [] (R9 (R9 W3 (some ⟨b1,0,none⟩) 0 [.int .i64 (gi xs (k:Int))]) (some ⟨b2,0,none⟩) 0 [.bool true]) wr->(∃X,Q0 X W2 wr/\∀x∈X,x<w2.heap.size)/\zbq b b1 b2 (.func bF bA bK) (gi xs (k:Int),true) wr/\Q0 [] w wr:=λW3 WT wr eB=>by
   have hB6:=hB5.ext WT Qs Qs Qs;obtain⟨t1,c1⟩:=hB6.c1;obtain⟨t2,c2⟩:=hB6.c2;have e1:Q0 [b1] W3 (R9 W3 (some ⟨b1,0,none⟩) 0 [.int .i64 (gi xs (k:Int))]):=JS (bs:=[b1]) Qs;have e2:Q0 [b2] (R9 W3 (some ⟨b1,0,none⟩) 0 [.int .i64 (gi xs (k:Int))]) (R9 (R9 W3 (some ⟨b1,0,none⟩) 0 [.int .i64 (gi xs (k:Int))]) (some ⟨b2,0,none⟩) 0 [.bool true]):=JS (bs:=[b2]) Qs;have eX:Q0 [b1,b2] W2 wr:=((WT.of_nil.trans (e1.mono Qs)).trans (e2.mono Qs)).trans eB.of_nil;have d1:=QB (QB (M3 (vs:=[.int .i64 (gi xs (k:Int))]) (n:=0) c1) e2 (by simp; omega)) eB Qs;have d2:=QB (M3 (vs:=[.bool true]) (n:=0) (QB c2 e1 (by simp; omega))) eB Qs;refine⟨⟨[b1,b2],eX,λx hm=>?_⟩,⟨hB5.c0.imp λ_ h=>QB h eX (by simp; omega),⟨t1,d1⟩,⟨t2,d2⟩⟩,zX.fresh eX λx hm=>.inl ?_⟩
   ·simp only[Ii,List.not_mem_nil,or_false] at hm;omega
   ·simp only[Ii,List.not_mem_nil,or_false] at hm;omega
  refine GL (some l) (some ⟨b,0,none⟩) (some ⟨b1,0,none⟩) (some ⟨b2,0,none⟩) (gi xs (k:Int)) (R:=λe _ W3=>e=.normal/\(∃X,Q0 X W2 W3/\∀x∈X,x<w2.heap.size)/\zbq b b1 b2 (.func bF bA bK) (Xv lt xs (k+1)) W3/\Q0 [] w W3) (by rw[fo4.size]; simpa using A07) (λp hp=>?_) ?_ λe vs a5 W3 hR _=>?_
  ·simp only[Ii,List.not_mem_nil,or_false] at hp;rcases hp with rfl | rfl | rfl | rfl
   ·exact⟨Ik rfl,q3⟩
   ·exact⟨Ik rfl,q6⟩
   ·exact⟨Ik rfl,q7⟩
   ·exact⟨Ik rfl,q8⟩
  ·refine⟨(Xv lt xs k).2,Md hB5.c2,bF,bA,bK,λ_=>Md hB5.c0,(Xv lt xs k).1,λ_=>Md hB5.c1,λhs wr WT _=>?_,λhs=>⟨λ_=>?_,λh=>(by cases h)⟩⟩
   ·have SR:(Xv lt xs k).2=true:=by simpa using hs
    obtain⟨j,hj,hje⟩:=zi8 k SR;have hc:=hb k j hk Qo wr (zX.trans WT);rw[<-hje] at hc;refine hc.mono λe W3 ⟨he,eB⟩=>⟨_,he,Ys,λg=>?_,λg M' oQ=>?_⟩
    ·have hB7:=(hB5.ext WT Qs Qs Qs).ext eB Qs Qs Qs;obtain⟨t1,c1⟩:=hB7.c1;obtain⟨t2,c2⟩:=hB7.c2;have e1:Q0 [b1] W3 (R9 W3 (some ⟨b1,0,none⟩) 0 [.int .i64 (gi xs (k:Int))]):=JS (bs:=[b1]) Qs;refine⟨M5 (k0:=0) c1 Qs Qs,M5 (k0:=0) (QB c2 e1 (by simp; omega)) Qs Qs,λI' gL=>?_⟩;obtain⟨f1,f2,f3⟩:=fin W3 (WT.trans eB) I' gL;refine⟨rfl,f1,?_,f3⟩;rw[show Xv lt xs (k+1)=(gi xs (k:Int),true) from C' g];exact f2
    ·have gL:=(WT.trans eB).trans oQ;refine⟨rfl,⟨[],gL,Qs⟩,?_,zX.trans gL⟩;rw[show Xv lt xs (k+1)=Xv lt xs k from B' (by rw[g]; decide)];exact hB5.ext gL Qs Qs Qs
   ·have SR:(Xv lt xs k).2=false:=by
     cases h:(Xv lt xs k).2 with
     | false=>rfl
     | true=>exact Ir (by rw[h]; rfl) hs
    obtain⟨t1,c1⟩:=hB5.c1;obtain⟨t2,c2⟩:=hB5.c2;have e1:Q0 [b1] W2 (R9 W2 (some ⟨b1,0,none⟩) 0 [.int .i64 (gi xs (k:Int))]):=JS (bs:=[b1]) Qs;refine⟨M5 (k0:=0) c1 Qs Qs,M5 (k0:=0) (QB c2 e1 (by simp; omega)) Qs Qs,λI' gL=>?_⟩;obtain⟨f1,f2,f3⟩:=fin W2 (Q0.refl _ _) I' gL;refine⟨rfl,f1,?_,f3⟩;rw[show Xv lt xs (k+1)=(gi xs (k:Int),true) from C' (by rw[SR]; rfl)];exact f2
  ·obtain⟨rfl,hX3,hI3⟩:=hR;exact⟨hX3,hI3⟩
 ·intro D W hD ⟨hBn,hXn⟩ hdD;refine GM none (some ⟨b1,0,none⟩) (some ⟨b2,0,none⟩) (R:=λe vs W1=>e=.ret/\vs=[.int .i64 (Xv lt xs xs.length).1,.bool (Xv lt xs xs.length).2]/\Q0 [] W W1) A07 (λp hp=>?_) ⟨_,Md hBn.c1,_,Md hBn.c2,λwr hx=>⟨rfl,rfl,hx⟩⟩ λe vs a6 W1 hR fo6=>?_
  ·simp only[Ii,List.not_mem_nil,or_false] at hp;rcases hp with rfl | rfl
   ·exact⟨Ik rfl,p6⟩
   ·exact⟨Ik rfl,p7⟩
  ·obtain⟨rfl,rfl,WT⟩:=hR
   have hr:∀w',(results Tryz.f198 a6.tmps).run Tryz.prog w'=.ok (.tuple #[.int .i64 (Xv lt xs xs.length).1,.bool (Xv lt xs xs.length).2]) w':=λw'=>by
    rw[results_tmp2 (t:=4) (u:=5) Qk];have:=fo6.out;simp only[List.map_cons,List.map_nil,I4,and_true] at this;rw[this.1,this.2]
   exact(EG (D:=D) (by rw[fo6.defers]; simp[hd3]) ((WT.block D (Array.getElem?_eq_some_iff.1 hdD).1 Qs).trans hdD) hr λw' hx=>⟨rfl,(hXn.trans WT).fresh hx λx hm=>.inl (by
    have:x=D:=by simpa using hm
    have:=hX2.size;omega)⟩).2
theorem Tc{W1 W2:Wo}{b:Nat}{v:Va}{ys:List Nat}(h:Q1 [] W1 (some ⟨b,0,none⟩) 0 [v])(hx:Q0 ys W1 W2)(hb:b∉ys):Q1 [] W2 (some ⟨b,0,none⟩) 0 [v]:=by
 obtain⟨a,ha,_,hc⟩:=h.get 0 _ rfl;cases ha;have hw:JA ys W1 (some ⟨b,0,none⟩) (0+0) v:=⟨_,rfl,hb,hc⟩;obtain⟨a2,ha2,_,hc2⟩:=hw.ext hx;cases ha2;exact YZ ⟨_,rfl,Qs,hc2⟩
theorem FL{W1:Wo}{b:Nat}{v:Va}(h:Q1 [] W1 (some ⟨b,0,none⟩) 0 [v]):b<W1.heap.size:=by
 obtain⟨a,ha,_,hc⟩:=h.get 0 _ rfl;cases ha;have:=World.block_lt_of_cell? W1 _ hc
 rwa[ZC] at this
def zoj(k:Int):KI:=⟨Int.tmod (k) 3==0,k+1,k+1+1,k+1+1+1,k+1+1+1+1⟩
end Go.Proofs.YtnclplgaicdapaaGreatDoor
