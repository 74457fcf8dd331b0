/- Part 11 of what the law FnLast needs. -/
import Derived.Test.YtnclplgaicdapaaGreatDoorFnLastPj
import Derived.Test.YtnclplgaicdapaaGreatDoorRows
import Derived.ChangeSame
import Derived.ChangeVars
import Derived.JoinedOf
import Derived.LaidLaws
import Derived.LaidHandle
import Derived.Stop.Joined
set_option linter.unusedVariables false
set_option linter.unusedSimpArgs false
set_option maxRecDepth 100000
set_option maxHeartbeats 8000000
namespace Go.Proofs.YtnclplgaicdapaaGreatDoor
open Go.RowKit
section
open Go.ChangeShapes Go.WideShapes Go.RowKit
abbrev laidE : List (String × DataW Unit) := [("errors.errorType", Rows.laid_errors_errorType)]
theorem zxp : Tryz.prog.globalNamed "errors.errorType" = some 0 := by kernel_rfl
theorem zxq : (Tryz.prog.cutTypes.find? (·.1 == "internal/reflectlite.rtype")).map (·.2) = some 174 := by kernel_rfl
theorem zrz:Tryz.prog.types.size=243:=Qk
theorem zk6:((List.range 243).filter λt=>Tryz.prog.rowNamed t [101,114,114,111,114])=[67]:=Qk
theorem zk5:typeHandle Tryz.prog 67=.pointer (some ⟨1,67,none⟩):=Qk
theorem glob_of_laid{W:Wo}(h:laidMetH Tryz.prog laidE W):MA W:=by
 have h':laidMet Tryz.prog [] W/\handlesMet Tryz.prog laidE W:=h;obtain⟨name,u,ty,e1,e2,e3,e4,e5⟩:=h'.2 _ (IA.2 rfl);have en:name=[101,114,114,111,114]:=(Option.some.inj e1).symm;subst en;obtain rfl:=Option.some.inj (zxq.symm.trans e2);have hm:ty∈(List.range 243).filter λt=>Tryz.prog.rowNamed t [101,114,114,111,114]:=List.mem_filter.2 ⟨List.mem_range.2 (by rw[<-zrz]; exact e3),e4⟩
 rw[zk6] at hm;obtain rfl:=IA.1 hm;rw[zk5] at e5;unfold MA
 simpa using World.var?_cell zxp e5 0
noncomputable def laidWorld(os:Os):Wo:=
 let w0:=World.holding Tryz.prog os ⟨#[],#[],[]⟩
 { w0 with heap:=w0.heap.modify 0 fun
   | .cells _ t frozen=>.cells #[.iface 174 (.agg #[.pointer (some ⟨1,67,none⟩)])] t frozen
   | o=>o }
theorem laidWorld_met(os:Os)(args:Array Va):laidMetH Tryz.prog laidE ((laidWorld os).forCall (λ_ _=>0) ⟨#[],args,[]⟩).memory:=
 laidMetH_of_parts (laidMet_nil _ _) Qk
end
def zzp(P:Program)(gf:FuncId)(lb:Array Va)(N:Nat)(Bk6:Nat->List Va)(I:Nat->Wo->Prop)(w:Wo):Prop:=
 ∀(l:Nat) (J:Nat->Wo->Prop) (Jx:Unit->Wo->Prop) (W:Wo),Q0 [] w W->(∀k W1,J k W1->I k W1)->z2y W.heap.size J->z2y W.heap.size Jx->
  (∀k W1,k<N->J k W1->OH P (.func (.yield l) #[] #[]) (Bk6 k) W1 λe W2=>(∃X,Q0 X W1 W2/\∀x∈X,x<W.heap.size)/\((e=.returned (.bool true)/\J (k+1) W2)\/(e=.returned (.bool false)/\Jx () W2)))->
  J 0 W->Calls P gf (#[.func (.yield l) #[] #[]]++lb) W λe W2=>(∃v,e=.returned v)/\(J N W2\/Jx () W2)
theorem zwa{P:Program}{g:Operand}{ps:Array Tmp}{asg body:Code}{Q:Exit->Act->Wo->Prop}{a:Act}{w:Wo}{gf:FuncId}{lb:Array Va}(hg:a.eval g=.func (.func gf) #[] lb)(eg:∀args w,(callFunc gf args).run P w=.ok (.enter gf args) w)(I:Nat->Wo->Prop)(Ix:Code->Wo->Prop)(N:Nat)(Bk6:Nat->List Va)(hI:z2y w.heap.size I)(hIx:z2y w.heap.size Ix)(h0:I 0 w)(hps:∀k,(Bk6 k).length=ps.size)(hit:zzp P gf lb N Bk6 I w)(CO0:∀l k W,k<N->I k W->w.heap.size<=l->asg.wpIn (Vo (some l)) 0 P (Exit.then (fun a1 W1=>(∃X,Q0 X W W1/\∀x∈X,x<w.heap.size)/\∀W2,Q0 [l] W1 W2->body.wpIn (Vo (some l)) 0 P (z1m w.heap.size I Ix k W2) a1 W2) (fun _ _ _=>False))
   { tmps:=(ps.zip (Bk6 k).toArray).foldl (λt (p,v)=>t.setIfInBounds p v) a.tmps,defers:=[] } W)(Ca2:∀D W,w.heap.size<=D->I N W->W.heap[D]? = some (.deferred (some []))->Q .normal { a with defers:=N8 D::a.defers } W)(Cf7:∀D c W,w.heap.size<=D->Ix c W->W.heap[D]? = some (.deferred (some []))->c.wpIn (Vo none) 0 P Q { a with defers:=N8 D::a.defers } W) :
  (Code.rangeFunc g ps asg body).wpIn (Vo none) 0 P Q a w:=by
 refine wpIn_rangeFunc λfn _=>?_
 obtain⟨rec,A75⟩:∃rec:LoopState->Option Code->Loop,rec=λst pe=>{ state:=st,pending:=pe,fn,tmps:=a.tmps,params:=ps,assign:=asg,body,defers:=w.heap.size }:=⟨_,rfl⟩
 obtain⟨W1,hW1⟩:∃W1,(w.alloc (.deferred (some []))).alloc (.loop (rec .ready none))=W1:=⟨_,rfl⟩
 have hL1:W1.heap[w.heap.size+1]? = some (.loop (rec .ready none)):=by
  have:=World.alloc_heap_new (w.alloc (.deferred (some []))) (.loop (rec .ready none));rw[World.size_alloc] at this;rw[<-hW1]; exact this
 have hD1:W1.heap[w.heap.size]? = some (.deferred (some [])):=by
  rw[<-hW1]; exact(Below.heap_alloc _ _ _ Qs).trans (World.alloc_heap_new w _)
 have hX1:Q0 [] w W1:=by rw[<-hW1]; exact((Q0.refl [] w).alloc _).alloc _
 have nH:W1.heap.size=w.heap.size+2:=by rw[<-hW1]; simp
 refine⟨w.heap.size+1,[N8 w.heap.size],W1,{ target:=.fn (.func gf) lb,args:=#[.func (.yield (w.heap.size+1)) #[] #[]] },W1,gf,#[.func (.yield (w.heap.size+1)) #[] #[]]++lb,W1,?_,?_,λ_ _=>trivial,?_,λhx=>(by simp[Vo,Fence.wide] at hx),PI ?_⟩
 ·rw[<-hW1,A75]; exact run_enterLoop_outer _ _ _ _ _
 ·simp only[resolve,hg];simp[go_sem]
 ·simp[invoke,eg]
 have oQ:∀{W W':Wo} {ys:List Nat} {x:Nat} {o:Obj},W.heap[x]? = some o->Q0 ys W W'->x∉ys->W'.heap[x]? = some o:=λ{W W' ys x o} h hx hn=>(hx.block x (Array.getElem?_eq_some_iff.1 h).1 hn).trans h
 refine(hit (w.heap.size+1)
  (λk W=>I k W/\W.heap[w.heap.size+1]? = some (.loop (rec .ready none))/\W.heap[w.heap.size]? = some (.deferred (some [])))
  (λ_ W=>∃c,Ix c W/\W.heap[w.heap.size+1]? = some (.loop (rec .done (some c)))/\W.heap[w.heap.size]? = some (.deferred (some [])))
  W1 hX1 (λk W h=>h.1)
  (λk W W' ys h hx hy=>⟨hI k W W' ys h.1 hx λy hm=>by have:=hy y hm; omega,oQ h.2.1 hx λhm=>by have:=hy _ hm; omega,oQ h.2.2 hx λhm=>by have:=hy _ hm; omega⟩)
  (λk W W' ys h hx hy=>by
   obtain⟨c,h1,h2,h3⟩:=h;exact⟨c,hIx c W W' ys h1 hx λy hm=>by have:=hy y hm; omega,oQ h2 hx λhm=>by have:=hy _ hm; omega,oQ h3 hx λhm=>by have:=hy _ hm; omega⟩)
  ?_ ⟨hI 0 _ _ [] h0 hX1 Qs,hL1,hD1⟩).mono ?_
 ·rintro k W hk ⟨hi,hl,hd⟩;have hy:=run_yield (P:=P) (args:=(Bk6 k).toArray) hl (by rw[A75]; simpa using hps k);rw[<-zkz] at hy;rw[A75] at hy;refine .inr ⟨w.heap.size+1,fn,_,asg,body,hy,?_⟩
  have hr:=roundIn_of_wpIn (F:=Vo none) (n:=0) (P:=P) (l:=w.heap.size+1) (f:=fn) (assign:=asg) (body:=body) (w:=W) (R:=λe W2=>(∃X,Q0 X W W2/\∀x∈X,x<W1.heap.size)/\((e=.returned (.bool true)/\I (k+1) W2/\W2.heap[w.heap.size+1]? = some (.loop (rec .ready none))/\W2.heap[w.heap.size]? = some (.deferred (some [])))\/(e=.returned (.bool false)/\∃c,Ix c W2/\W2.heap[w.heap.size+1]? = some (.loop (rec .done (some c)))/\W2.heap[w.heap.size]? = some (.deferred (some []))))) trivial
   (wpIn_mono (CO0 (w.heap.size+1) k W hk hi Qo) λe a1 W1' hq=>?_)
  ·exact⟨trivial,λc cs _=>hr.2 c cs (zbx _ _)⟩
  ·cases e with
   | normal=>
    obtain⟨⟨X,hX,hXl⟩,hb⟩:=hq;have nF:=oQ hl hX λhm=>by have:=hXl _ hm; omega
    have hd1:=oQ hd hX λhm=>by have:=hXl _ hm; omega
    refine⟨_,run_beginRound nF (by rw[A75]),?_⟩;have hl2:(W1'.putObj (w.heap.size+1) (.loop { rec .ready none with state:=.busy })).heap[w.heap.size+1]? = some (.loop { rec .ready none with state:=.busy }):=World.putObj_heap_same (Array.getElem?_eq_some_iff.1 nF).1;have hd2:=oQ hd1 (Yg W1' (w.heap.size+1) (.loop { rec .ready none with state:=.busy })) Qs;refine wpIn_mono (hb _ (Yg _ _ _)) λe2 a2 W3 hr=>?_
    obtain⟨⟨X2,hX2,CL3⟩,hm⟩:=hr;have hl3:=oQ hl2 hX2 λhm=>by have:=CL3 _ hm; omega
    have hd3:=oQ hd2 hX2 λhm=>by have:=CL3 _ hm; omega
    have fin:∀(jump:Option Code),(Instr.endRound (w.heap.size+1) jump).run P W3=.ok (.bool jump.isNone) (W3.putObj (w.heap.size+1) (.loop (rec (if jump.isNone then .ready else .done) jump)))/\
      (W3.putObj (w.heap.size+1) (.loop (rec (if jump.isNone then .ready else .done) jump))).heap[w.heap.size+1]? = some (.loop (rec (if jump.isNone then .ready else .done) jump))/\
      (W3.putObj (w.heap.size+1) (.loop (rec (if jump.isNone then .ready else .done) jump))).heap[w.heap.size]? = some (.deferred (some [])):=λjump=>by
     have:=run_endRound (P:=P) jump hl3;rw[A75] at this ⊢;exact⟨this,World.putObj_heap_same (Array.getElem?_eq_some_iff.1 hl3).1,oQ hd3 (Yg _ _ _) Qs⟩
    have pN:∀o,∃X,Q0 X W (W3.putObj (w.heap.size+1) o)/\∀x∈X,x<W1.heap.size:=λo=>by
     have m1:Q0 (X++[w.heap.size+1]++X2) W W1':=hX.mono λx hm=>by simp[hm]
     have m2:Q0 (X++[w.heap.size+1]++X2) W1' (W1'.putObj (w.heap.size+1) (.loop { rec .ready none with state:=.busy })):=(Yg _ _ _).mono λx hm=>by
      have:x=w.heap.size+1:=by simpa using hm
      simp[this]
     have m3:Q0 (X++[w.heap.size+1]++X2) _ W3:=hX2.mono λx hm=>by simp[hm]
     have m4:Q0 (X++[w.heap.size+1]++X2) W3 (W3.putObj (w.heap.size+1) o):=(Yg _ _ _).mono λx hm=>by
      have:x=w.heap.size+1:=by simpa using hm
      simp[this]
     refine⟨_,((m1.trans m2).trans m3).trans m4,λx hm=>?_⟩;simp only[Io,IA] at hm;rcases hm with (hm | hm) | hm
     ·have:=hXl x hm; omega
     ·omega
     ·have:=CL3 x hm; omega
    cases e2 with
    | normal=>
     obtain⟨f1,f2,f3⟩:=fin none;exact⟨_,_,f1,pN _,.inl ⟨rfl,hI _ _ _ [w.heap.size+1] hm (Yg _ _ _) Qs,f2,f3⟩⟩
    | ret=>
     obtain⟨f1,f2,f3⟩:=fin (some .ret);exact⟨_,_,f1,pN _,.inr ⟨rfl,.ret,hIx _ _ _ [w.heap.size+1] hm (Yg _ _ _) Qs,f2,f3⟩⟩
    | exit i=>
     obtain⟨f1,f2,f3⟩:=fin (some (.exit i));exact⟨_,_,f1,pN _,.inr ⟨rfl,.exit i,hIx _ _ _ [w.heap.size+1] hm (Yg _ _ _) Qs,f2,f3⟩⟩
    | goto t=>
     obtain⟨f1,f2,f3⟩:=fin (some (.goto t));exact⟨_,_,f1,pN _,.inr ⟨rfl,.goto t,hIx _ _ _ [w.heap.size+1] hm (Yg _ _ _) Qs,f2,f3⟩⟩
    | panic ch=>exact hm.elim
    | outgrown=>exact hm.elim
   | _=>exact hq.elim
 ·rintro e W2 ⟨⟨v,rfl⟩,(⟨hi,hl,hd⟩ | ⟨c,hi,hl,hd⟩)⟩
  ·have:=run_endLoop (P:=P) hl (by rw[A75]; simp);rw[A75] at this;exact⟨none,_,this,Ca2 _ _ (I8 _) (hI _ _ _ [w.heap.size+1] hi (Yg _ _ _) Qs) (oQ hd (Yg _ _ _) Qs)⟩
  ·have:=run_endLoop (P:=P) hl (by rw[A75]; simp);rw[A75] at this;exact⟨some c,_,this,Cf7 _ c _ (I8 _) (hIx _ _ _ [w.heap.size+1] hi (Yg _ _ _) Qs) (oQ hd (Yg _ _ _) Qs)⟩
def G0(m:Int)(k:Nat):List Int:=((List.range k).filter λ(i:Nat)=>Z0 m (i:Int)).map λ(i:Nat)=>(i:Int)
theorem Fx{m:Int}{k:Nat}(h:Z0 m (k:Int)=true):G0 m (k+1)=G0 m k++[(k:Int)]:=by
 unfold G0;rw[List.range_succ,List.filter_append]; simp[h]
theorem zcv{m:Int}{k:Nat}(h:Z0 m (k:Int)=false):G0 m (k+1)=G0 m k:=by
 unfold G0;rw[List.range_succ,List.filter_append]; simp[h]
theorem zyx(m:Int)(k j:Nat):∃r,G0 m (k+j)=G0 m k++r:=by
 induction j with
 | zero=>exact⟨[],Qs⟩
 | succ j ih=>
  obtain⟨r,hr⟩:=ih;rw[show k+(j+1)=(k+j)+1 from rfl]
  cases h:Z0 m ((k+j:Nat):Int) with
  | true=>rw[Fx h,hr]; exact⟨r++[((k+j:Nat):Int)],Qs⟩
  | false=>rw[zcv h,hr]; exact⟨r,rfl⟩
theorem zn0{α:Type}[Inhabited α](l r:List α)(x:α):gi (l++(x::r)) (l.length:Int)=x:=by
 unfold gi;simp
theorem z08{m:Int}{k:Nat}(hk:k<4)(h:Z0 m (k:Int)=true):(G0 m k).length<(G0 m 4).length/\gi (G0 m 4) ((G0 m k).length:Int)=(k:Int):=by
 obtain⟨r,hr⟩:=zyx m (k+1) (4-(k+1));rw[show k+1+(4-(k+1))=4 by omega,Fx h,List.append_assoc] at hr;rw[hr];exact⟨Qs,zn0 _ _ _⟩
theorem zb8{m:Int}{bm:Nat}{I:Nat->Wo->Prop}{w:Wo}(hI:∀k W1,I k W1->Q1 [] W1 (some ⟨bm,0,none⟩) 0 [.int .i64 m]) :
  zzp Tryz.prog QH #[.pointer (some ⟨bm,0,none⟩)] (G0 m 4).length (λk=>[.int .i64 (gi (G0 m 4) (k:Int))]) I w:=by
 intro l J Jx W hx hJI hAJ hAx hY h0;refine(Km (.yield l) #[] #[] (some ⟨bm,0,none⟩) (R:=λv w'=>J (G0 m 4).length w'\/Jx () w') ?_).mono λe w' ⟨v,he,hr⟩=>⟨⟨v,he⟩,hr⟩
 refine XC 4 0 rfl (λk w1=>k<=4/\J (G0 m k).length w1) (λw1 S4 _=>⟨Ie _,hAJ 0 _ _ [] h0 S4 Qs⟩) λk w1 _ ⟨hk,hJ⟩=>⟨λIT=>?_,λRN wr R3=>.inl ?_⟩
 ·have IT:=Ot IT;have hk4:k<4:=Qo;refine⟨m,hI _ _ (hJI _ _ hJ),Z0 m (k:Int),zcc,λh J' S4 _=>?_,λh=>⟨λg=>(by cases g),λ_=>⟨⟨Qo,Qo⟩,λRQ Sw _=>Qp hk4 ⟨Qo,?_⟩⟩⟩⟩
  ·obtain⟨hl,hg⟩:=z08 hk4 h;have hc:=hY (G0 m k).length J' hl (hAJ _ _ _ [] hJ S4 Qs)
   dsimp only at hc
   rw[hg] at hc;refine hc.mono λe w2 ⟨_,hr⟩=>?_
   rcases hr with ⟨he,hJ2⟩ | ⟨he,hJx⟩
   ·refine⟨true,he,Yo,λg=>(by rw[h] at g; cases g),λ_=>⟨⟨Qo,Qo⟩,λRu Ra _=>Qp hk4 ⟨Qo,?_⟩⟩⟩;rw[Fx h,Ip];exact hAJ _ _ _ [] hJ2 Ra Qs
   ·exact⟨false,he,Yo,λ_ O' R3=>.inr (hAx _ _ _ [] hJx R3 Qs),λg=>(by rw[h] at g; cases g)⟩
  ·have h:Z0 m (k:Int)=false:=by simpa using h
   rw[zcv h];exact hAJ _ _ _ [] hJ Sw Qs
 ·have RN:=Ou RN;have:k=4:=Qo;subst this;exact hAJ _ _ _ [] hJ R3 Qs
theorem zhc{m:Int}{w:Wo}:Cz Xd #[I m] w λe w'=>∃b:Nat,w.heap.size<=b/\e=.returned (.func (.func QH) #[] #[.pointer (some ⟨b,0,none⟩)])/\Q1 [] w' (some ⟨b,0,none⟩) 0 [I m]/\Q0 [] w w':=by
 refine(LA m (R:=λv w'=>∃b:Nat,w.heap.size<=b/\v=.func (.func QH) #[] #[.pointer (some ⟨b,0,none⟩)]/\Q1 [] w' (some ⟨b,0,none⟩) 0 [I m]/\Q0 [] w w') ?_).mono λe w' ⟨v,he,b,hb,hv,h1⟩=>⟨b,hb,by rw[he,hv],h1⟩
 intro b wb hx hb Ws _ wr R3;refine⟨b,hb,rfl,?_,hx.trans R3⟩;have hc:=QQ Ws R3 Qs;exact XZ ⟨⟨b,0,none⟩,rfl,Qs,by rw[Addr.add_lit,Nat.add_zero,V0 hc]; rfl⟩
theorem zkx{W:Wo}{b:Nat}{v:Va}(h:∃t,W.heap[b]? = some (.cells ([v]:List Va).toArray t (0,0))):Q1 [] W (some ⟨b,0,none⟩) 0 [v]:=by
 obtain⟨t,h⟩:=h;exact XZ ⟨⟨b,0,none⟩,rfl,Qs,by rw[Addr.add_lit,Nat.add_zero,V0 h]; rfl⟩
theorem zfj{a:Array Va}{i:Nat}{v:Va}(h:i<a.size):(a.setIfInBounds i v).getD i undef=v:=by
 rw[Array.getD_eq_getD_getElem?,Array.getElem?_setIfInBounds_self_of_lt h]; rfl
theorem Gr{a:Array Va}{i j:Nat}{v:Va}(h:i≠j):(a.setIfInBounds i v).getD j undef=a.getD j undef:=by
 rw[Array.getD_eq_getD_getElem?,Array.getD_eq_getD_getElem?,Array.getElem?_setIfInBounds_ne h]
theorem EP{P:Program}{f:FuncId}{fn:Func}{body:Code}{n:Nat}{args:List Va}{w:Wo}{R:Ending->Wo->Prop}(hf:P.funcs[f]? = some fn)(hb:fn.body=some body)(hn:fn.ntmps=n)(hl:args.length<=n)(h:∀a:Act,a.tmps.size=n->(∀(i:Nat) v,args[i]? = some v->a.tmps.getD i undef=v)->a.defers=[]->body.wpIn (Vo none) 0 P (bodyPostM (Vo none) 0 P fn R) a w):Calls P f args.toArray w R:=by
 refine zk0 hf hb (h _ ?_ ?_ rfl)
 ·simp[hn]; omega
 ·intro i v hv;rw[Array.getD_eq_getD_getElem?,Array.getElem?_append_left (by simpa using (I9.1 hv).1)];simp[hv]
theorem zlg{i:Tmp}{v:Va}{t:Array Va}:((#[i].zip [v].toArray).foldl (λ(t:Array Va) (p,v)=>t.setIfInBounds p v) t)=t.setIfInBounds i v:=Qs
theorem Hc{W1 W2:Wo}{b:Nat}{v:Va}{ys:List Nat}(h:Q1 [] W1 (some ⟨b,0,none⟩) 0 [v])(hx:Q0 ys W1 W2)(hb:b∉ys):Q1 [] W2 (some ⟨b,0,none⟩) 0 [v]:=by
 obtain⟨a,ha,_,hc⟩:=h.get 0 _ rfl;cases ha;have hw:U0 ys W1 (some ⟨b,0,none⟩) (0+0) v:=⟨_,rfl,hb,hc⟩;obtain⟨a2,ha2,_,hc2⟩:=hw.ext hx;cases ha2;exact XZ ⟨_,rfl,Qs,hc2⟩
theorem zpw{W1:Wo}{b:Nat}{v:Va}(h:Q1 [] W1 (some ⟨b,0,none⟩) 0 [v]):b<W1.heap.size:=by
 obtain⟨a,ha,_,hc⟩:=h.get 0 _ rfl;cases ha;have:=World.block_lt_of_cell? W1 _ hc
 rwa[Zu] at this
noncomputable def OS(l:Option Nat):Uw:={ P:=Tryz.prog,T:=Uv zpa,pf:=zs1,ef:=zr0,tt:=zw0,vis:=[3],n:=10,pm:=false,wr:=false,rd:=l }
noncomputable def GS:List (Nat×Y2):=[]
noncomputable def YY:List Code:=[cL ((JX Tryz.f60)),cL (cR ((JX Tryz.f60)))]
def OK(w:Wo)(R:Exit->List Va->Wo->Prop):Prop:= (∀a b,Q0 [] w b->w.heap.size<=a->b.heap[a]? = some (Obj.cells ([I 0]:List Va).toArray Qb (0,0))->a∉([]:List Nat)->Yk [] b (some (Addr.mk a 0 none)) 0 1/\(∀c,Q0 [] (R8 b (some (Addr.mk a 0 none)) 0 [I 0]) c->R .normal [.pointer ((some (Addr.mk a 0 none)).map (·.add 0))] c))
theorem H2(l:Option Nat)(w:Wo)(R:Exit->List Va->Wo->Prop):z2d (OS l) GS YY (JY []) w (ML [3] R)=OK w R:=Qk
theorem Gm(l:Option Nat){w:Wo}{R:Exit->List Va->Wo->Prop}{X:Code}{Q:Exit->Act->Wo->Prop}{a:Act}(hn:a.tmps.size=10)(uM:Lh [] a)(hvc:OK w R)(hX:∀vs a1 w1,R .normal vs w1->znb (Pb YY) [3] a a1 vs->X.wpIn (Vo l) 0 Tryz.prog Q a1 w1)(hQ:∀e vs a1 w1,e≠.normal->R e vs w1->znb (Pb YY) [3] a a1 vs->Q e a1 w1):(zoz YY X).wpIn (Vo l) 0 Tryz.prog Q a w:=
 zzt (C:=OS l) (zuq _ _ _ _ _) hn uM (by rw[H2]; exact hvc) hX hQ
noncomputable def OR(l:Option Nat):Uw:={ P:=Tryz.prog,T:=Uv zpa,pf:=zs1,ef:=zr0,tt:=zw0,vis:=[],n:=10,pm:=false,wr:=false,rd:=l }
noncomputable def GR:List (Nat×Y2):=[]
noncomputable def XT:Code:=(cL (cL (cR (cR ((JX Tryz.f60))))))
def OJ(g:Int)(w:Wo)(R:Exit->List Va->Wo->Prop):Prop:= (AY [] w λe=>Cz Xd #[I g] e λh b=>(∃(f:Fn) (d:Array Va) (c:Array Va),h=.returned (.func f d c)/\Q9 [] e b/\(∀a,Q0 [] b a->R .normal [.func f d c] a)))
theorem H1(l:Option Nat)(m:Int)(w:Wo)(R:Exit->List Va->Wo->Prop):B7 (OR l) GR XT (JY [(0,.int .i64 m)]) w (ML [5] R)=OJ m w R:=Qk
theorem Gl(l:Option Nat)(m:Int){w:Wo}{R:Exit->List Va->Wo->Prop}{Q:Exit->Act->Wo->Prop}{a:Act}(hn:a.tmps.size=10)(uM:Lh [(0,.int .i64 m)] a)(hvc:OJ m w R)(hQ:∀e vs a1 w1,R e vs w1->znb (X3 XT) [5] a a1 vs->Q e a1 w1):XT.wpIn (Vo l) 0 Tryz.prog Q a w:=
 zb0 (C:=OR l) (zuq _ _ _ _ _) hn uM (by rw[H1]; exact hvc) hQ
noncomputable def TQ(l:Option Nat):Uw:={ P:=Tryz.prog,T:=Uv zpa,pf:=zs1,ef:=zr0,tt:=zw0,vis:=[],n:=10,pm:=false,wr:=false,rd:=l }
noncomputable def LO:List (Nat×Y2):=[]
noncomputable def Xv:Code:=(z3g (cB (cR (cL (cR (cR ((JX Tryz.f60))))))))
def TM(a:OA)(w:Wo)(R:Exit->List Va->Wo->Prop):Prop:= (∃(b:Int),Q1 [] w a 0 [I b]/\Ql .i64 (b+1)/\Yk [] w a 0 1/\(∀c,Q0 [] (R8 w a 0 [I (b+1)]) c->R .normal [] c))
theorem LW(l:Option Nat)(count:OA)(w:Wo)(R:Exit->List Va->Wo->Prop):B7 (TQ l) LO Xv (JY [(3,.pointer count)]) w (ML [] R)=TM count w R:=Qk
theorem LD(l:Option Nat)(count:OA){w:Wo}{R:Exit->List Va->Wo->Prop}{Q:Exit->Act->Wo->Prop}{a:Act}(hn:a.tmps.size=10)(uM:Lh [(3,.pointer count)] a)(hvc:TM count w R)(hQ:∀e vs a1 w1,R e vs w1->znb (X3 Xv) [] a a1 vs->Q e a1 w1):Xv.wpIn (Vo l) 0 Tryz.prog Q a w:=
 zb0 (C:=TQ l) (zuq _ _ _ _ _) hn uM (by rw[LW]; exact hvc) hQ
noncomputable def TR(l:Option Nat):Uw:={ P:=Tryz.prog,T:=Uv zpa,pf:=zs1,ef:=zr0,tt:=zw0,vis:=[],n:=10,pm:=false,wr:=false,rd:=l }
noncomputable def LR:List (Nat×Y2):=[]
noncomputable def Xw:Code:=(cR (cR (cR ((JX Tryz.f60)))))
def TN(c:OA)(w:Wo)(R:Exit->List Va->Wo->Prop):Prop:= (∃(b:Int),Q1 [] w c 0 [I b]/\(∀a,Q0 [] w a->R .ret [I b] a))
theorem LX(l:Option Nat)(count:OA)(w:Wo)(R:Exit->List Va->Wo->Prop):B7 (TR l) LR Xw (JY [(3,.pointer count)]) w (ML [2] R)=TN count w R:=Qk
theorem LE(l:Option Nat)(count:OA){w:Wo}{R:Exit->List Va->Wo->Prop}{Q:Exit->Act->Wo->Prop}{a:Act}(hn:a.tmps.size=10)(uM:Lh [(3,.pointer count)] a)(hvc:TN count w R)(hQ:∀e vs a1 w1,R e vs w1->znb (X3 Xw) [2] a a1 vs->Q e a1 w1):Xw.wpIn (Vo l) 0 Tryz.prog Q a w:=
 zb0 (C:=TR l) (zuq _ _ _ _ _) hn uM (by rw[LX]; exact hvc) hQ
noncomputable def OV(l:Option Nat):Uw:={ P:=Tryz.prog,T:=Uv zpa,pf:=zs1,ef:=zr0,tt:=zw0,vis:=[2],n:=8,pm:=false,wr:=false,rd:=l }
noncomputable def GV:List (Nat×Y2):=[]
noncomputable def YZ:List Code:=[cL ((JX Tryz.f119))]
def ON(w:Wo)(R:Exit->List Va->Wo->Prop):Prop:= (∀a b,Q0 [] w b->w.heap.size<=a->b.heap[a]? = some (Obj.cells ([I 0]:List Va).toArray Qb (0,0))->a∉([]:List Nat)->(∀c,Q0 [] b c->R .normal [.pointer ((some (Addr.mk a 0 none)).map (·.add 0))] c))
theorem H5(l:Option Nat)(w:Wo)(R:Exit->List Va->Wo->Prop):z2d (OV l) GV YZ (JY []) w (ML [2] R)=ON w R:=Qk
theorem Gq(l:Option Nat){w:Wo}{R:Exit->List Va->Wo->Prop}{X:Code}{Q:Exit->Act->Wo->Prop}{a:Act}(hn:a.tmps.size=8)(uM:Lh [] a)(hvc:ON w R)(hX:∀vs a1 w1,R .normal vs w1->znb (Pb YZ) [2] a a1 vs->X.wpIn (Vo l) 0 Tryz.prog Q a1 w1)(hQ:∀e vs a1 w1,e≠.normal->R e vs w1->znb (Pb YZ) [2] a a1 vs->Q e a1 w1):(zoz YZ X).wpIn (Vo l) 0 Tryz.prog Q a w:=
 zzt (C:=OV l) (zuq _ _ _ _ _) hn uM (by rw[H5]; exact hvc) hX hQ
noncomputable def OU(l:Option Nat):Uw:={ P:=Tryz.prog,T:=Uv zpa,pf:=zs1,ef:=zr0,tt:=zw0,vis:=[],n:=8,pm:=false,wr:=false,rd:=l }
noncomputable def GU:List (Nat×Y2):=[]
noncomputable def XV:Code:=(cL (cL (cR ((JX Tryz.f119)))))
def OM(g:Int)(w:Wo)(R:Exit->List Va->Wo->Prop):Prop:= (AY [] w λe=>Cz Xd #[I g] e λh b=>(∃(f:Fn) (d:Array Va) (c:Array Va),h=.returned (.func f d c)/\Q9 [] e b/\(∀a,Q0 [] b a->R .normal [.func f d c] a)))
theorem H4(l:Option Nat)(m:Int)(w:Wo)(R:Exit->List Va->Wo->Prop):B7 (OU l) GU XV (JY [(0,.int .i64 m)]) w (ML [5] R)=OM m w R:=Qk
theorem Gp(l:Option Nat)(m:Int){w:Wo}{R:Exit->List Va->Wo->Prop}{Q:Exit->Act->Wo->Prop}{a:Act}(hn:a.tmps.size=8)(uM:Lh [(0,.int .i64 m)] a)(hvc:OM m w R)(hQ:∀e vs a1 w1,R e vs w1->znb (X3 XV) [5] a a1 vs->Q e a1 w1):XV.wpIn (Vo l) 0 Tryz.prog Q a w:=
 zb0 (C:=OU l) (zuq _ _ _ _ _) hn uM (by rw[H4]; exact hvc) hQ
noncomputable def OT(l:Option Nat):Uw:={ P:=Tryz.prog,T:=Uv zpa,pf:=zs1,ef:=zr0,tt:=zw0,vis:=[],n:=8,pm:=false,wr:=false,rd:=l }
noncomputable def GT:List (Nat×Y2):=[]
noncomputable def XU:Code:=(z3r (cB (cR (cL (cR ((JX Tryz.f119)))))))
def OL(b:Int)(w:Wo)(R:Exit->List Va->Wo->Prop):Prop:= (∀a,Q0 [] w a->R .normal [I b] a)
theorem H3(l:Option Nat)(x:Int)(w:Wo)(R:Exit->List Va->Wo->Prop):B7 (OT l) GT XU (JY [(6,.int .i64 x)]) w (ML [3] R)=OL x w R:=Qk
theorem Gn(l:Option Nat)(x:Int){w:Wo}{R:Exit->List Va->Wo->Prop}{Q:Exit->Act->Wo->Prop}{a:Act}(hn:a.tmps.size=8)(uM:Lh [(6,.int .i64 x)] a)(hvc:OL x w R)(hQ:∀e vs a1 w1,R e vs w1->znb (X3 XU) [3] a a1 vs->Q e a1 w1):XU.wpIn (Vo l) 0 Tryz.prog Q a w:=
 zb0 (C:=OT l) (zuq _ _ _ _ _) hn uM (by rw[H3]; exact hvc) hQ
noncomputable def TT(l:Option Nat):Uw:={ P:=Tryz.prog,T:=Uv zpa,pf:=zs1,ef:=zr0,tt:=zw0,vis:=[],n:=8,pm:=false,wr:=false,rd:=l }
noncomputable def LS:List (Nat×Y2):=[]
noncomputable def Xx:Code:=(z3g (cB (cR (cL (cR ((JX Tryz.f119)))))))
def TO(b:OA)(c:Int)(w:Wo)(R:Exit->List Va->Wo->Prop):Prop:= Yk [] w b 0 1/\(∀a,Q0 [] (R8 w b 0 [I c]) a->R .ret [] a)
theorem LY(l:Option Nat)(x:OA)(M':Int)(w:Wo)(R:Exit->List Va->Wo->Prop):B7 (TT l) LS Xx (JY [(2,.pointer x),(3,.int .i64 M')]) w (ML [] R)=TO x M' w R:=Qk
theorem LF(l:Option Nat)(x:OA)(M':Int){w:Wo}{R:Exit->List Va->Wo->Prop}{Q:Exit->Act->Wo->Prop}{a:Act}(hn:a.tmps.size=8)(uM:Lh [(2,.pointer x),(3,.int .i64 M')] a)(hvc:TO x M' w R)(hQ:∀e vs a1 w1,R e vs w1->znb (X3 Xx) [] a a1 vs->Q e a1 w1):Xx.wpIn (Vo l) 0 Tryz.prog Q a w:=
 zb0 (C:=TT l) (zuq _ _ _ _ _) hn uM (by rw[LY]; exact hvc) hQ
noncomputable def TV(l:Option Nat):Uw:={ P:=Tryz.prog,T:=Uv zpa,pf:=zs1,ef:=zr0,tt:=zw0,vis:=[],n:=8,pm:=false,wr:=false,rd:=l }
noncomputable def LU:List (Nat×Y2):=[]
noncomputable def Xy:Code:=(cR (cR ((JX Tryz.f119))))
def TP(b:OA)(w:Wo)(R:Exit->List Va->Wo->Prop):Prop:= Yk [] w b 0 1/\(∀a,Q0 [] (R8 w b 0 [I (-1)]) a->R .ret [] a)
theorem LZ(l:Option Nat)(x:OA)(w:Wo)(R:Exit->List Va->Wo->Prop):B7 (TV l) LU Xy (JY [(2,.pointer x)]) w (ML [] R)=TP x w R:=Qk
theorem LG(l:Option Nat)(x:OA){w:Wo}{R:Exit->List Va->Wo->Prop}{Q:Exit->Act->Wo->Prop}{a:Act}(hn:a.tmps.size=8)(uM:Lh [(2,.pointer x)] a)(hvc:TP x w R)(hQ:∀e vs a1 w1,R e vs w1->znb (X3 Xy) [] a a1 vs->Q e a1 w1):Xy.wpIn (Vo l) 0 Tryz.prog Q a w:=
 zb0 (C:=TV l) (zuq _ _ _ _ _) hn uM (by rw[LZ]; exact hvc) hQ
def zl3(k:Int):Px:=⟨Int.tmod (k) 3==0,k+1,k+1+1,k+1+1+1,k+1+1+1+1⟩
end Go.Proofs.YtnclplgaicdapaaGreatDoor
