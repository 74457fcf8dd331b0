/- Part 11 of what the law FnFork needs. -/
import Derived.Test.YtnclplgaicdapaaGreatDoorFnForkPj
import Derived.Test.YtnclplgaicdapaaGreatDoorRows
import Derived.ChangeSame
import Derived.ChangeVars
import Derived.JoinedOf
import Derived.LaidLaws
import Derived.LaidHandle
import Derived.Stop.Joined
set_option linter.unusedVariables false
set_option linter.unusedSimpArgs false
set_option maxRecDepth 100000
set_option maxHeartbeats 8000000
namespace Go.Proofs.YtnclplgaicdapaaGreatDoor
open Go.RowKit
section
open Go.ChangeShapes Go.WideShapes Go.RowKit
abbrev laidE : List (String × DataW Unit) := [("errors.errorType", Rows.laid_errors_errorType)]
theorem zxy : Tryz.prog.globalNamed "errors.errorType" = some 0 := by kernel_rfl
theorem zxz : (Tryz.prog.cutTypes.find? (·.1 == "internal/reflectlite.rtype")).map (·.2) = some 174 := by kernel_rfl
theorem zrw:Tryz.prog.types.size=243:=Qk
theorem zlj:((List.range 243).filter λt=>Tryz.prog.rowNamed t [101,114,114,111,114])=[67]:=Qk
theorem zli:typeHandle Tryz.prog 67=.pointer (some ⟨1,67,none⟩):=Qk
theorem glob_of_laid{W:Wo}(h:laidMetH Tryz.prog laidE W):Tc W:=by
 have h':laidMet Tryz.prog [] W/\handlesMet Tryz.prog laidE W:=h;obtain⟨name,u,ty,e1,e2,e3,e4,e5⟩:=h'.2 _ (IA.2 rfl);have en:name=[101,114,114,111,114]:=(Option.some.inj e1).symm;subst en;obtain rfl:=Option.some.inj (zxz.symm.trans e2);have hm:ty∈(List.range 243).filter λt=>Tryz.prog.rowNamed t [101,114,114,111,114]:=List.mem_filter.2 ⟨List.mem_range.2 (by rw[<-zrw]; exact e3),e4⟩
 rw[zlj] at hm;obtain rfl:=IA.1 hm;rw[zli] at e5;unfold Tc
 simpa using World.var?_cell zxy e5 0
noncomputable def laidWorld(os:Os):Wo:=
 let w0:=World.holding Tryz.prog os ⟨#[],#[],[]⟩
 { w0 with heap:=w0.heap.modify 0 fun
   | .cells _ t frozen=>.cells #[.iface 174 (.agg #[.pointer (some ⟨1,67,none⟩)])] t frozen
   | o=>o }
theorem laidWorld_met(os:Os)(args:Array Va):laidMetH Tryz.prog laidE ((laidWorld os).forCall (λ_ _=>0) ⟨#[],args,[]⟩).memory:=
 laidMetH_of_parts (laidMet_nil _ _) Qk
end
def ztt(P:Program)(gf:FuncId)(lb:Array Va)(N:Nat)(Bn7:Nat->List Va)(I:Nat->Wo->Prop)(w:Wo):Prop:=
 ∀(l:Nat) (J:Nat->Wo->Prop) (Jx:Unit->Wo->Prop) (W:Wo),Q0 [] w W->(∀k W1,J k W1->I k W1)->z26 W.heap.size J->z26 W.heap.size Jx->
  (∀k W1,k<N->J k W1->MA P (.func (.yield l) #[] #[]) (Bn7 k) W1 λe W2=>(∃X,Q0 X W1 W2/\∀x∈X,x<W.heap.size)/\((e=.returned (.bool true)/\J (k+1) W2)\/(e=.returned (.bool false)/\Jx () W2)))->
  J 0 W->Calls P gf (#[.func (.yield l) #[] #[]]++lb) W λe W2=>(∃v,e=.returned v)/\(J N W2\/Jx () W2)
theorem zwc{P:Program}{g:Operand}{ps:Array Tmp}{asg body:Code}{Q:Exit->Act->Wo->Prop}{a:Act}{w:Wo}{gf:FuncId}{lb:Array Va}(hg:a.eval g=.func (.func gf) #[] lb)(eg:∀args w,(callFunc gf args).run P w=.ok (.enter gf args) w)(I:Nat->Wo->Prop)(Ix:Code->Wo->Prop)(N:Nat)(Bn7:Nat->List Va)(hI:z26 w.heap.size I)(hIx:z26 w.heap.size Ix)(h0:I 0 w)(hps:∀k,(Bn7 k).length=ps.size)(hit:ztt P gf lb N Bn7 I w)(CQ6:∀l k W,k<N->I k W->w.heap.size<=l->asg.wpIn (T7 (some l)) 0 P (Exit.then (fun a1 W1=>(∃X,Q0 X W W1/\∀x∈X,x<w.heap.size)/\∀W2,Q0 [l] W1 W2->body.wpIn (T7 (some l)) 0 P (z1w w.heap.size I Ix k W2) a1 W2) (fun _ _ _=>False))
   { tmps:=(ps.zip (Bn7 k).toArray).foldl (λt (p,v)=>t.setIfInBounds p v) a.tmps,defers:=[] } W)(Bz0:∀D W,w.heap.size<=D->I N W->W.heap[D]? = some (.deferred (some []))->Q .normal { a with defers:=zj6 D::a.defers } W)(Ci6:∀D c W,w.heap.size<=D->Ix c W->W.heap[D]? = some (.deferred (some []))->c.wpIn (T7 none) 0 P Q { a with defers:=zj6 D::a.defers } W) :
  (Code.rangeFunc g ps asg body).wpIn (T7 none) 0 P Q a w:=by
 refine wpIn_rangeFunc λfn _=>?_
 obtain⟨rec,A90⟩:∃rec:LoopState->Option Code->Loop,rec=λst pe=>{ state:=st,pending:=pe,fn,tmps:=a.tmps,params:=ps,assign:=asg,body,defers:=w.heap.size }:=⟨_,rfl⟩
 obtain⟨W1,hW1⟩:∃W1,(w.alloc (.deferred (some []))).alloc (.loop (rec .ready none))=W1:=⟨_,rfl⟩
 have hL1:W1.heap[w.heap.size+1]? = some (.loop (rec .ready none)):=by
  have:=World.alloc_heap_new (w.alloc (.deferred (some []))) (.loop (rec .ready none));rw[World.size_alloc] at this;rw[<-hW1]; exact this
 have hD1:W1.heap[w.heap.size]? = some (.deferred (some [])):=by
  rw[<-hW1]; exact(Below.heap_alloc _ _ _ Qs).trans (World.alloc_heap_new w _)
 have hX1:Q0 [] w W1:=by rw[<-hW1]; exact((Q0.refl [] w).alloc _).alloc _
 have nT:W1.heap.size=w.heap.size+2:=by rw[<-hW1]; simp
 refine⟨w.heap.size+1,[zj6 w.heap.size],W1,{ target:=.fn (.func gf) lb,args:=#[.func (.yield (w.heap.size+1)) #[] #[]] },W1,gf,#[.func (.yield (w.heap.size+1)) #[] #[]]++lb,W1,?_,?_,λ_ _=>trivial,?_,λhx=>(by simp[T7,Fence.wide] at hx),PP ?_⟩
 ·rw[<-hW1,A90]; exact run_enterLoop_outer _ _ _ _ _
 ·simp only[resolve,hg];simp[go_sem]
 ·simp[invoke,eg]
 have pE:∀{W W':Wo} {ys:List Nat} {x:Nat} {o:Obj},W.heap[x]? = some o->Q0 ys W W'->x∉ys->W'.heap[x]? = some o:=λ{W W' ys x o} h hx hn=>(hx.block x (Array.getElem?_eq_some_iff.1 h).1 hn).trans h
 refine(hit (w.heap.size+1)
  (λk W=>I k W/\W.heap[w.heap.size+1]? = some (.loop (rec .ready none))/\W.heap[w.heap.size]? = some (.deferred (some [])))
  (λ_ W=>∃c,Ix c W/\W.heap[w.heap.size+1]? = some (.loop (rec .done (some c)))/\W.heap[w.heap.size]? = some (.deferred (some [])))
  W1 hX1 (λk W h=>h.1)
  (λk W W' ys h hx hy=>⟨hI k W W' ys h.1 hx λy hm=>by have:=hy y hm; omega,pE h.2.1 hx λhm=>by have:=hy _ hm; omega,pE h.2.2 hx λhm=>by have:=hy _ hm; omega⟩)
  (λk W W' ys h hx hy=>by
   obtain⟨c,h1,h2,h3⟩:=h;exact⟨c,hIx c W W' ys h1 hx λy hm=>by have:=hy y hm; omega,pE h2 hx λhm=>by have:=hy _ hm; omega,pE h3 hx λhm=>by have:=hy _ hm; omega⟩)
  ?_ ⟨hI 0 _ _ [] h0 hX1 Qs,hL1,hD1⟩).mono ?_
 ·rintro k W hk ⟨hi,hl,hd⟩;have hy:=run_yield (P:=P) (args:=(Bn7 k).toArray) hl (by rw[A90]; simpa using hps k);rw[<-zlc] at hy;rw[A90] at hy;refine .inr ⟨w.heap.size+1,fn,_,asg,body,hy,?_⟩
  have hr:=roundIn_of_wpIn (F:=T7 none) (n:=0) (P:=P) (l:=w.heap.size+1) (f:=fn) (assign:=asg) (body:=body) (w:=W) (R:=λe W2=>(∃X,Q0 X W W2/\∀x∈X,x<W1.heap.size)/\((e=.returned (.bool true)/\I (k+1) W2/\W2.heap[w.heap.size+1]? = some (.loop (rec .ready none))/\W2.heap[w.heap.size]? = some (.deferred (some [])))\/(e=.returned (.bool false)/\∃c,Ix c W2/\W2.heap[w.heap.size+1]? = some (.loop (rec .done (some c)))/\W2.heap[w.heap.size]? = some (.deferred (some []))))) trivial
   (wpIn_mono (CQ6 (w.heap.size+1) k W hk hi Qo) λe a1 W1' hq=>?_)
  ·exact⟨trivial,λc cs _=>hr.2 c cs (zbz _ _)⟩
  ·cases e with
   | normal=>
    obtain⟨⟨X,hX,hXl⟩,hb⟩:=hq;have wA:=pE hl hX λhm=>by have:=hXl _ hm; omega
    have hd1:=pE hd hX λhm=>by have:=hXl _ hm; omega
    refine⟨_,run_beginRound wA (by rw[A90]),?_⟩;have hl2:(W1'.putObj (w.heap.size+1) (.loop { rec .ready none with state:=.busy })).heap[w.heap.size+1]? = some (.loop { rec .ready none with state:=.busy }):=World.putObj_heap_same (Array.getElem?_eq_some_iff.1 wA).1;have hd2:=pE hd1 (Yw W1' (w.heap.size+1) (.loop { rec .ready none with state:=.busy })) Qs;refine wpIn_mono (hb _ (Yw _ _ _)) λe2 a2 W3 hr=>?_
    obtain⟨⟨X2,hX2,CO1⟩,hm⟩:=hr;have hl3:=pE hl2 hX2 λhm=>by have:=CO1 _ hm; omega
    have hd3:=pE hd2 hX2 λhm=>by have:=CO1 _ hm; omega
    have fin:∀(jump:Option Code),(Instr.endRound (w.heap.size+1) jump).run P W3=.ok (.bool jump.isNone) (W3.putObj (w.heap.size+1) (.loop (rec (if jump.isNone then .ready else .done) jump)))/\
      (W3.putObj (w.heap.size+1) (.loop (rec (if jump.isNone then .ready else .done) jump))).heap[w.heap.size+1]? = some (.loop (rec (if jump.isNone then .ready else .done) jump))/\
      (W3.putObj (w.heap.size+1) (.loop (rec (if jump.isNone then .ready else .done) jump))).heap[w.heap.size]? = some (.deferred (some [])):=λjump=>by
     have:=run_endRound (P:=P) jump hl3;rw[A90] at this ⊢;exact⟨this,World.putObj_heap_same (Array.getElem?_eq_some_iff.1 hl3).1,pE hd3 (Yw _ _ _) Qs⟩
    have qB:∀o,∃X,Q0 X W (W3.putObj (w.heap.size+1) o)/\∀x∈X,x<W1.heap.size:=λo=>by
     have m1:Q0 (X++[w.heap.size+1]++X2) W W1':=hX.mono λx hm=>by simp[hm]
     have m2:Q0 (X++[w.heap.size+1]++X2) W1' (W1'.putObj (w.heap.size+1) (.loop { rec .ready none with state:=.busy })):=(Yw _ _ _).mono λx hm=>by
      have:x=w.heap.size+1:=by simpa using hm
      simp[this]
     have m3:Q0 (X++[w.heap.size+1]++X2) _ W3:=hX2.mono λx hm=>by simp[hm]
     have m4:Q0 (X++[w.heap.size+1]++X2) W3 (W3.putObj (w.heap.size+1) o):=(Yw _ _ _).mono λx hm=>by
      have:x=w.heap.size+1:=by simpa using hm
      simp[this]
     refine⟨_,((m1.trans m2).trans m3).trans m4,λx hm=>?_⟩;simp only[Io,IA] at hm;rcases hm with (hm | hm) | hm
     ·have:=hXl x hm; omega
     ·omega
     ·have:=CO1 x hm; omega
    cases e2 with
    | normal=>
     obtain⟨f1,f2,f3⟩:=fin none;exact⟨_,_,f1,qB _,.inl ⟨rfl,hI _ _ _ [w.heap.size+1] hm (Yw _ _ _) Qs,f2,f3⟩⟩
    | ret=>
     obtain⟨f1,f2,f3⟩:=fin (some .ret);exact⟨_,_,f1,qB _,.inr ⟨rfl,.ret,hIx _ _ _ [w.heap.size+1] hm (Yw _ _ _) Qs,f2,f3⟩⟩
    | exit i=>
     obtain⟨f1,f2,f3⟩:=fin (some (.exit i));exact⟨_,_,f1,qB _,.inr ⟨rfl,.exit i,hIx _ _ _ [w.heap.size+1] hm (Yw _ _ _) Qs,f2,f3⟩⟩
    | goto t=>
     obtain⟨f1,f2,f3⟩:=fin (some (.goto t));exact⟨_,_,f1,qB _,.inr ⟨rfl,.goto t,hIx _ _ _ [w.heap.size+1] hm (Yw _ _ _) Qs,f2,f3⟩⟩
    | panic ch=>exact hm.elim
    | outgrown=>exact hm.elim
   | _=>exact hq.elim
 ·rintro e W2 ⟨⟨v,rfl⟩,(⟨hi,hl,hd⟩ | ⟨c,hi,hl,hd⟩)⟩
  ·have:=run_endLoop (P:=P) hl (by rw[A90]; simp);rw[A90] at this;exact⟨none,_,this,Bz0 _ _ (I8 _) (hI _ _ _ [w.heap.size+1] hi (Yw _ _ _) Qs) (pE hd (Yw _ _ _) Qs)⟩
  ·have:=run_endLoop (P:=P) hl (by rw[A90]; simp);rw[A90] at this;exact⟨some c,_,this,Ci6 _ c _ (I8 _) (hIx _ _ _ [w.heap.size+1] hi (Yw _ _ _) Qs) (pE hd (Yw _ _ _) Qs)⟩
def Cs(m:Int)(k:Nat):List Int:=((List.range k).filter λ(i:Nat)=>Z7 m (i:Int)).map λ(i:Nat)=>(i:Int)
theorem Gz{m:Int}{k:Nat}(h:Z7 m (k:Int)=true):Cs m (k+1)=Cs m k++[(k:Int)]:=by
 unfold Cs;rw[List.range_succ,List.filter_append]; simp[h]
theorem FE{m:Int}{k:Nat}(h:Z7 m (k:Int)=false):Cs m (k+1)=Cs m k:=by
 unfold Cs;rw[List.range_succ,List.filter_append]; simp[h]
theorem zy6(m:Int)(k j:Nat):∃r,Cs m (k+j)=Cs m k++r:=by
 induction j with
 | zero=>exact⟨[],Qs⟩
 | succ j ih=>
  obtain⟨r,hr⟩:=ih;rw[show k+(j+1)=(k+j)+1 from rfl]
  cases h:Z7 m ((k+j:Nat):Int) with
  | true=>rw[Gz h,hr]; exact⟨r++[((k+j:Nat):Int)],Qs⟩
  | false=>rw[FE h,hr]; exact⟨r,rfl⟩
theorem zb2{α:Type}[Inhabited α](l r:List α)(x:α):gi (l++(x::r)) (l.length:Int)=x:=by
 unfold gi;simp
theorem z1j{m:Int}{k:Nat}(hk:k<4)(h:Z7 m (k:Int)=true):(Cs m k).length<(Cs m 4).length/\gi (Cs m 4) ((Cs m k).length:Int)=(k:Int):=by
 obtain⟨r,hr⟩:=zy6 m (k+1) (4-(k+1));rw[show k+1+(4-(k+1))=4 by omega,Gz h,List.append_assoc] at hr;rw[hr];exact⟨Qs,zb2 _ _ _⟩
theorem zcb{m:Int}{bm:Nat}{I:Nat->Wo->Prop}{w:Wo}(hI:∀k W1,I k W1->Q1 [] W1 (some ⟨bm,0,none⟩) 0 [.int .i64 m]) :
  ztt Tryz.prog Z0 #[.pointer (some ⟨bm,0,none⟩)] (Cs m 4).length (λk=>[.int .i64 (gi (Cs m 4) (k:Int))]) I w:=by
 intro l J Jx W hx hJI hAJ hAx hY h0;refine(Kl (.yield l) #[] #[] (some ⟨bm,0,none⟩) (R:=λv w'=>J (Cs m 4).length w'\/Jx () w') ?_).mono λe w' ⟨v,he,hr⟩=>⟨⟨v,he⟩,hr⟩
 refine XN 4 0 rfl (λk w1=>k<=4/\J (Cs m k).length w1) (λw1 RZ _=>⟨Ie _,hAJ 0 _ _ [] h0 RZ Qs⟩) λk w1 _ ⟨hk,hJ⟩=>⟨λIU=>?_,λRN wr R2=>.inl ?_⟩
 ·have IU:=Ot IU;have hk4:k<4:=Qo;refine⟨m,hI _ _ (hJI _ _ hJ),Z7 m (k:Int),zci,λh M' RZ _=>?_,λh=>⟨λg=>(by cases g),λ_=>⟨⟨Qo,Qo⟩,λRQ Sy _=>Qt hk4 ⟨Qo,?_⟩⟩⟩⟩
  ·obtain⟨hl,hg⟩:=z1j hk4 h;have hc:=hY (Cs m k).length M' hl (hAJ _ _ _ [] hJ RZ Qs)
   dsimp only at hc
   rw[hg] at hc;refine hc.mono λe w2 ⟨_,hr⟩=>?_
   rcases hr with ⟨he,hJ2⟩ | ⟨he,hJx⟩
   ·refine⟨true,he,Y6,λg=>(by rw[h] at g; cases g),λ_=>⟨⟨Qo,Qo⟩,λRq Rb _=>Qt hk4 ⟨Qo,?_⟩⟩⟩;rw[Gz h,Ip];exact hAJ _ _ _ [] hJ2 Rb Qs
   ·exact⟨false,he,Y6,λ_ O' R2=>.inr (hAx _ _ _ [] hJx R2 Qs),λg=>(by rw[h] at g; cases g)⟩
  ·have h:Z7 m (k:Int)=false:=by simpa using h
   rw[FE h];exact hAJ _ _ _ [] hJ Sy Qs
 ·have RN:=Ou RN;have:k=4:=Qo;subst this;exact hAJ _ _ _ [] hJ R2 Qs
theorem zhi{m:Int}{w:Wo}:Cz Xo #[I m] w λe w'=>∃b:Nat,w.heap.size<=b/\e=.returned (.func (.func Z0) #[] #[.pointer (some ⟨b,0,none⟩)])/\Q1 [] w' (some ⟨b,0,none⟩) 0 [I m]/\Q0 [] w w':=by
 refine(LD m (R:=λv w'=>∃b:Nat,w.heap.size<=b/\v=.func (.func Z0) #[] #[.pointer (some ⟨b,0,none⟩)]/\Q1 [] w' (some ⟨b,0,none⟩) 0 [I m]/\Q0 [] w w') ?_).mono λe w' ⟨v,he,b,hb,hv,h1⟩=>⟨b,hb,by rw[he,hv],h1⟩
 intro b wb hx hb Wd _ wr R2;refine⟨b,hb,rfl,?_,hx.trans R2⟩;have hc:=Qq Wd R2 Qs;exact J8 ⟨⟨b,0,none⟩,rfl,Qs,by rw[Addr.add_lit,Nat.add_zero,Tg hc]; rfl⟩
def Xq(lt:Int->Int->Bool)(xs:List Int):Nat->Int×Bool
 | 0=>(0,false)
 | k+1=>if (!(Xq lt xs k).2||lt (gi xs (k:Int)) (Xq lt xs k).1)=true then (gi xs (k:Int),true) else Xq lt xs k
theorem zg5{lt:Int->Int->Bool}{xs:List Int}:∀k:Nat,(Xq lt xs k).2=true->∃j:Nat,j<k/\(Xq lt xs k).1=gi xs (j:Int)
 | 0,h=>by cases h
 | k+1,h=>by
  simp only[Xq] at h ⊢;split
  ·exact⟨k,Qo,rfl⟩
  ·rename_i hn;rw[C' hn] at h;obtain⟨j,hj,he⟩:=zg5 k h;exact⟨j,Qo,he⟩
theorem zn2:Jm Tryz.f198=zpa Xm (.seq (.seq Jk (.block 0 (.rangeFunc (.tmp 9) #[10] Jj J3))) J4):=Qk
structure zag (b b1 b2:Nat) (bef:Va) (st:Int×Bool) (W:Wo):Prop where
 c0:∃t,W.heap[b]? = some (.cells ([bef]:List Va).toArray t (0,0))
 c1:∃t,W.heap[b1]? = some (.cells ([I st.1]:List Va).toArray t (0,0))
 c2:∃t,W.heap[b2]? = some (.cells ([.bool st.2]:List Va).toArray t (0,0))
theorem zag.ext{b b1 b2:Nat}{bef:Va}{st:Int×Bool}{W W':Wo}{ys:List Nat}(h:zag b b1 b2 bef st W)(hx:Q0 ys W W')(h0:b∉ys)(h1:b1∉ys)(h2:b2∉ys):zag b b1 b2 bef st W':=
 ⟨h.c0.imp λ_ h=>Qq h hx h0,h.c1.imp λ_ h=>Qq h hx h1,h.c2.imp λ_ h=>Qq h hx h2⟩
theorem OS{W:Wo}{b:Nat}{v:Va}(h:∃t,W.heap[b]? = some (.cells ([v]:List Va).toArray t (0,0))):Q1 [] W (some ⟨b,0,none⟩) 0 [v]:=by
 obtain⟨t,h⟩:=h;exact J8 ⟨⟨b,0,none⟩,rfl,Qs,by rw[Addr.add_lit,Nat.add_zero,Tg h]; rfl⟩
theorem zfp{a:Array Va}{i:Nat}{v:Va}(h:i<a.size):(a.setIfInBounds i v).getD i undef=v:=by
 rw[Array.getD_eq_getD_getElem?,Array.getElem?_setIfInBounds_self_of_lt h]; rfl
theorem Tx{a:Array Va}{i j:Nat}{v:Va}(h:i≠j):(a.setIfInBounds i v).getD j undef=a.getD j undef:=by
 rw[Array.getD_eq_getD_getElem?,Array.getD_eq_getD_getElem?,Array.getElem?_setIfInBounds_ne h]
theorem EW{P:Program}{f:FuncId}{fn:Func}{body:Code}{n:Nat}{args:List Va}{w:Wo}{R:Ending->Wo->Prop}(hf:P.funcs[f]? = some fn)(hb:fn.body=some body)(hn:fn.ntmps=n)(hl:args.length<=n)(h:∀a:Act,a.tmps.size=n->(∀(i:Nat) v,args[i]? = some v->a.tmps.getD i undef=v)->a.defers=[]->body.wpIn (T7 none) 0 P (bodyPostM (T7 none) 0 P fn R) a w):Calls P f args.toArray w R:=by
 refine zld hf hb (h _ ?_ ?_ rfl)
 ·simp[hn]; omega
 ·intro i v hv;rw[Array.getD_eq_getD_getElem?,Array.getElem?_append_left (by simpa using (I9.1 hv).1)];simp[hv]
theorem zwx{w:Wo}{o:OA}{n:Nat}{vs:List Va}:(R9 w o n vs).heap.size=w.heap.size:=by
 cases o with
 | none=>rfl
 | some a=>exact OC vs w a n
theorem zls{i:Tmp}{v:Va}{t:Array Va}:((#[i].zip [v].toArray).foldl (λ(t:Array Va) (p,v)=>t.setIfInBounds p v) t)=t.setIfInBounds i v:=Qs
theorem z1a{gf:FuncId}{lb:Array Va}{bF:Fn}{bA bK:Array Va}{xs:List Int}{lt:Int->Int->Bool}{w:Wo}(eg:∀args w,(callFunc gf args).run Tryz.prog w=.ok (.enter gf args) w)(hit:∀(I:Nat->Wo->Prop) (W:Wo),Q0 [] w W->(∀k W1,I k W1->Q0 [] w W1)->ztt Tryz.prog gf lb xs.length (λk=>[.int .i64 (gi xs (k:Int))]) I W)(hb:∀i j:Nat,i<xs.length->j<xs.length->∀W1,Q0 [] w W1->MA Tryz.prog (.func bF bA bK) [.int .i64 (gi xs (i:Int)),.int .i64 (gi xs (j:Int))] W1 λe W2=>e=.returned (.bool (lt (gi xs (i:Int)) (gi xs (j:Int))))/\Q0 [] W1 W2) :
  Cz Km #[.func (.func gf) #[] lb,.func bF bA bK] w λe w'=>e=.returned (.tuple #[.int .i64 (Xq lt xs xs.length).1,.bool (Xq lt xs xs.length).2])/\Q0 [] w w':=by
 refine EW (args:=[.func (.func gf) #[] lb,.func bF bA bK]) (n:=22) Tryz.func198 (body:=Jm Tryz.f198) rfl Qk Qs λa hn ha hd=>?_
 rw[zn2];have a0:=ha 0 _ rfl;have a1:=ha 1 _ rfl;refine HM none bF bA bK (R:=λe vs w1=>e=.normal/\∃b b1 b2:Nat,vs=[.pointer (some ⟨b,0,none⟩),.pointer (some ⟨b1,0,none⟩),.pointer (some ⟨b2,0,none⟩)]/\b<b1/\b1<b2/\w.heap.size<=b/\b2<w1.heap.size/\zag b b1 b2 (.func bF bA bK) (0,false) w1/\Q0 [] w w1) hn ?_ ?_ ?_ (λe vs a1 w1 gE hR _=>Is hR.1 gE)
 ·intro p hp;simp only[Ij,List.not_mem_nil,or_false] at hp;subst hp;exact⟨Il rfl,a1⟩
 ·intro b wb hx hb0 Wd _ b1 wH RZ gH By9 _ b2 wb2 R2 cN AV0 _;have l0:=YY Wd;have l1:=YY By9;have l2:=YY AV0;have s1:=RZ.size;have s2:=R2.size;refine⟨V0 (k0:=0) AV0 Qs Qs,λwr Rb=>?_⟩;have hs:Q0 [b2] wb2 (R9 wb2 (some ⟨b2,0,none⟩) 0 [.bool false]):=Xp (bs:=[b2]) Qs;have s3:=Rb.size;rw[zwx] at s3;refine⟨rfl,b,b1,b2,rfl,Qo,Qo,hb0,Qo,⟨⟨_,Qq (Qq (Qq (Qq Wd RZ Qs) R2 Qs) hs (by simp; omega)) Rb Qs⟩,⟨_,Qq (Qq (Qq By9 R2 Qs) hs (by simp; omega)) Rb Qs⟩,⟨_,Qq (UX AV0) Rb Qs⟩⟩,?_⟩
  exact(((hx.trans RZ).trans R2).fresh hs λx hm=>.inl (by
   have:x=b2:=by simpa using hm
   have:=hx.size;omega)).trans Rb
 rintro vs a2 w1 ⟨_,b,b1,b2,rfl,h01,h12,hwb,cN,hB,hX⟩ fo
 obtain⟨o3,o6,o7⟩:a2.tmps.getD 3 undef=.pointer (some ⟨b,0,none⟩)/\a2.tmps.getD 6 undef=.pointer (some ⟨b1,0,none⟩)/\a2.tmps.getD 7 undef=.pointer (some ⟨b2,0,none⟩):=by
  have:=fo.out;simp only[List.map_cons,List.map_nil,I5,and_true] at this;exact this
 have o0:a2.tmps.getD 0 undef=.func (.func gf) #[] lb:=(fo.kept 0 (by decide +kernel)).trans a0;refine wpIn_seq (wpIn_seq (HL none (.func gf) #[] lb (R:=λe vs w2=>e=.normal/\vs=[.func (.func gf) #[] lb]/\Q0 [] w1 w2) (by rw[fo.size,hn]) (λp hp=>?_) (λwr hx=>⟨rfl,rfl,hx⟩) λe vs a3 w2 hR fo3=>?_))
 ·simp only[Ij,List.not_mem_nil,or_false] at hp;subst hp;exact⟨Il rfl,o0⟩
 obtain⟨rfl,rfl,R2⟩:=hR
 have p9:a3.tmps.getD 9 undef=.func (.func gf) #[] lb:=by
  have:=fo3.out
  simpa using this
 have p3:=(fo3.kept 3 (by decide +kernel)).trans o3;have p6:=(fo3.kept 6 (by decide +kernel)).trans o6;have p7:=(fo3.kept 7 (by decide +kernel)).trans o7;have BV1:a3.tmps.size=22:=by rw[fo3.size,fo.size,hn]
 have hd3:a3.defers=[]:=by rw[fo3.defers,fo.defers,hd]
 have hX2:=hX.trans R2;have hB2:=hB.ext R2 Qs Qs Qs;have RM:b2<w2.heap.size:=Nat.lt_of_lt_of_le cN R2.size;refine wpIn_block (zwc (lb:=lb) (gf:=gf) p9 eg (λk W=>zag b b1 b2 (.func bF bA bK) (Xq lt xs k) W/\Q0 [] w W) (λ_ _=>False) xs.length (λk=>[.int .i64 (gi xs (k:Int))]) (λk W W' ys h hx hy=>⟨h.1.ext hx (λhm=>by have:=hy _ hm; omega) (λhm=>by have:=hy _ hm; omega) (λhm=>by have:=hy _ hm; omega),h.2.fresh hx λx hm=>.inl (by have:=hy x hm; have:=hX2.size; omega)⟩) (λk W W' ys h _ _=>h) ⟨hB2,hX2⟩ (λk=>rfl) (hit _ w2 hX2 λk W1 h=>h.2) ?_ ?_ (λD c W _ h _=>h.elim))
 ·intro l k W hk ⟨hBk,hXk⟩ hl;rw[zls];refine HK (some l) (gi xs (k:Int)) (R:=λe vs W1=>e=.normal/\vs=[.int .i64 (gi xs (k:Int))]/\Q0 [] W W1) ?_ (λp hp=>?_) (λwr hx=>⟨rfl,rfl,hx⟩) λe vs a4 W1 hR fo4=>?_
  ·simpa using BV1
  ·simp only[Ij,List.not_mem_nil,or_false] at hp;subst hp;exact⟨Il rfl,zfp (i:=10) (by rw[BV1]; decide)⟩
  obtain⟨rfl,rfl,SZ⟩:=hR
  have q8:a4.tmps.getD 8 undef=.int .i64 (gi xs (k:Int)):=by
   have:=fo4.out
   simpa using this
  have q3:a4.tmps.getD 3 undef=.pointer (some ⟨b,0,none⟩):=((fo4.kept 3 (by decide +kernel)).trans (Tx (i:=10) (j:=3) Qd)).trans p3;have q6:a4.tmps.getD 6 undef=.pointer (some ⟨b1,0,none⟩):=((fo4.kept 6 (by decide +kernel)).trans (Tx (i:=10) (j:=6) Qd)).trans p6;have q7:a4.tmps.getD 7 undef=.pointer (some ⟨b2,0,none⟩):=((fo4.kept 7 (by decide +kernel)).trans (Tx (i:=10) (j:=7) Qd)).trans p7;refine⟨⟨[],SZ,Qs⟩,λW2 Sy=>?_⟩;have hB5:=(hBk.ext SZ Qs Qs Qs).ext Sy (by simp; omega) (by simp; omega) (by simp; omega)
  have hX5:Q0 [] w W2:=(hXk.trans SZ).fresh Sy λx hm=>.inl (by
   have:x=l:=by simpa using hm
   have:=hX2.size;omega)
  have fin:∀(W3:Wo),Q0 [] W2 W3->∀wr,Q0 [] (R9 (R9 W3 (some ⟨b1,0,none⟩) 0 [.int .i64 (gi xs (k:Int))]) (some ⟨b2,0,none⟩) 0 [.bool true]) wr->(∃X,Q0 X W2 wr/\∀x∈X,x<w2.heap.size)/\zag b b1 b2 (.func bF bA bK) (gi xs (k:Int),true) wr/\Q0 [] w wr:=λW3 aS wr kR=>by
   have hB6:=hB5.ext aS Qs Qs Qs;obtain⟨t1,c1⟩:=hB6.c1;obtain⟨t2,c2⟩:=hB6.c2;have e1:Q0 [b1] W3 (R9 W3 (some ⟨b1,0,none⟩) 0 [.int .i64 (gi xs (k:Int))]):=Xp (bs:=[b1]) Qs;have e2:Q0 [b2] (R9 W3 (some ⟨b1,0,none⟩) 0 [.int .i64 (gi xs (k:Int))]) (R9 (R9 W3 (some ⟨b1,0,none⟩) 0 [.int .i64 (gi xs (k:Int))]) (some ⟨b2,0,none⟩) 0 [.bool true]):=Xp (bs:=[b2]) Qs;have eX:Q0 [b1,b2] W2 wr:=((aS.of_nil.trans (e1.mono Qs)).trans (e2.mono Qs)).trans kR.of_nil;have d1:=Qq (Qq (UX (vs:=[.int .i64 (gi xs (k:Int))]) (n:=0) c1) e2 (by simp; omega)) kR Qs;have d2:=Qq (UX (vs:=[.bool true]) (n:=0) (Qq c2 e1 (by simp; omega))) kR Qs;refine⟨⟨[b1,b2],eX,λx hm=>?_⟩,⟨hB5.c0.imp λ_ h=>Qq h eX (by simp; omega),⟨t1,d1⟩,⟨t2,d2⟩⟩,hX5.fresh eX λx hm=>.inl ?_⟩
   ·simp only[Ij,List.not_mem_nil,or_false] at hm;omega
   ·simp only[Ij,List.not_mem_nil,or_false] at hm;omega
  refine Gi (some l) (some ⟨b,0,none⟩) (some ⟨b1,0,none⟩) (some ⟨b2,0,none⟩) (gi xs (k:Int)) (R:=λe _ W3=>e=.normal/\(∃X,Q0 X W2 W3/\∀x∈X,x<w2.heap.size)/\zag b b1 b2 (.func bF bA bK) (Xq lt xs (k+1)) W3/\Q0 [] w W3) (by rw[fo4.size]; simpa using BV1) (λp hp=>?_) ?_ λe vs a5 W3 hR _=>?_
  ·simp only[Ij,List.not_mem_nil,or_false] at hp;rcases hp with rfl | rfl | rfl | rfl
   ·exact⟨Il rfl,q3⟩
   ·exact⟨Il rfl,q6⟩
   ·exact⟨Il rfl,q7⟩
   ·exact⟨Il rfl,q8⟩
  ·refine⟨(Xq lt xs k).2,OS hB5.c2,bF,bA,bK,λ_=>OS hB5.c0,(Xq lt xs k).1,λ_=>OS hB5.c1,λhs wr aS _=>?_,λhs=>⟨λ_=>?_,λh=>(by cases h)⟩⟩
   ·have We:(Xq lt xs k).2=true:=by simpa using hs
    obtain⟨j,hj,hje⟩:=zg5 k We;have hc:=hb k j hk Qo wr (hX5.trans aS);rw[<-hje] at hc;refine hc.mono λe W3 ⟨he,kR⟩=>⟨_,he,Y6,λg=>?_,λg O' oH=>?_⟩
    ·have hB7:=(hB5.ext aS Qs Qs Qs).ext kR Qs Qs Qs;obtain⟨t1,c1⟩:=hB7.c1;obtain⟨t2,c2⟩:=hB7.c2;have e1:Q0 [b1] W3 (R9 W3 (some ⟨b1,0,none⟩) 0 [.int .i64 (gi xs (k:Int))]):=Xp (bs:=[b1]) Qs;refine⟨V0 (k0:=0) c1 Qs Qs,V0 (k0:=0) (Qq c2 e1 (by simp; omega)) Qs Qs,λM' lQ=>?_⟩;obtain⟨f1,f2,f3⟩:=fin W3 (aS.trans kR) M' lQ;refine⟨rfl,f1,?_,f3⟩;rw[show Xq lt xs (k+1)=(gi xs (k:Int),true) from E' g];exact f2
    ·have lQ:=(aS.trans kR).trans oH;refine⟨rfl,⟨[],lQ,Qs⟩,?_,hX5.trans lQ⟩;rw[show Xq lt xs (k+1)=Xq lt xs k from C' (by rw[g]; decide)];exact hB5.ext lQ Qs Qs Qs
   ·have We:(Xq lt xs k).2=false:=by
     cases h:(Xq lt xs k).2 with
     | false=>rfl
     | true=>exact Is (by rw[h]; rfl) hs
    obtain⟨t1,c1⟩:=hB5.c1;obtain⟨t2,c2⟩:=hB5.c2;have e1:Q0 [b1] W2 (R9 W2 (some ⟨b1,0,none⟩) 0 [.int .i64 (gi xs (k:Int))]):=Xp (bs:=[b1]) Qs;refine⟨V0 (k0:=0) c1 Qs Qs,V0 (k0:=0) (Qq c2 e1 (by simp; omega)) Qs Qs,λM' lQ=>?_⟩;obtain⟨f1,f2,f3⟩:=fin W2 (Q0.refl _ _) M' lQ;refine⟨rfl,f1,?_,f3⟩;rw[show Xq lt xs (k+1)=(gi xs (k:Int),true) from E' (by rw[We]; rfl)];exact f2
  ·obtain⟨rfl,hX3,hI3⟩:=hR;exact⟨hX3,hI3⟩
 ·intro D W hD ⟨hBn,hXn⟩ hdD;refine Gj none (some ⟨b1,0,none⟩) (some ⟨b2,0,none⟩) (R:=λe vs W1=>e=.ret/\vs=[.int .i64 (Xq lt xs xs.length).1,.bool (Xq lt xs xs.length).2]/\Q0 [] W W1) BV1 (λp hp=>?_) ⟨_,OS hBn.c1,_,OS hBn.c2,λwr hx=>⟨rfl,rfl,hx⟩⟩ λe vs a6 W1 hR fo6=>?_
  ·simp only[Ij,List.not_mem_nil,or_false] at hp;rcases hp with rfl | rfl
   ·exact⟨Il rfl,p6⟩
   ·exact⟨Il rfl,p7⟩
  ·obtain⟨rfl,rfl,aS⟩:=hR
   have hr:∀w',(results Tryz.f198 a6.tmps).run Tryz.prog w'=.ok (.tuple #[.int .i64 (Xq lt xs xs.length).1,.bool (Xq lt xs xs.length).2]) w':=λw'=>by
    rw[results_tmp2 (t:=4) (u:=5) Qk];have:=fo6.out;simp only[List.map_cons,List.map_nil,I5,and_true] at this;rw[this.1,this.2]
   exact(zcw (D:=D) (by rw[fo6.defers]; simp[hd3]) ((aS.block D (Array.getElem?_eq_some_iff.1 hdD).1 Qs).trans hdD) hr λw' hx=>⟨rfl,(hXn.trans aS).fresh hx λx hm=>.inl (by
    have:x=D:=by simpa using hm
    have:=hX2.size;omega)⟩).2
theorem BH{W1 W2:Wo}{b:Nat}{v:Va}{ys:List Nat}(h:Q1 [] W1 (some ⟨b,0,none⟩) 0 [v])(hx:Q0 ys W1 W2)(hb:b∉ys):Q1 [] W2 (some ⟨b,0,none⟩) 0 [v]:=by
 obtain⟨a,ha,_,hc⟩:=h.get 0 _ rfl;cases ha;have hw:Ub ys W1 (some ⟨b,0,none⟩) (0+0) v:=⟨_,rfl,hb,hc⟩;obtain⟨a2,ha2,_,hc2⟩:=hw.ext hx;cases ha2;exact J8 ⟨_,rfl,Qs,hc2⟩
theorem zxv{W1:Wo}{b:Nat}{v:Va}(h:Q1 [] W1 (some ⟨b,0,none⟩) 0 [v]):b<W1.heap.size:=by
 obtain⟨a,ha,_,hc⟩:=h.get 0 _ rfl;cases ha;have:=World.block_lt_of_cell? W1 _ hc
 rwa[Zv] at this
noncomputable def OV(l:Option Nat):UJ:={ P:=Tryz.prog,T:=Vk zrb,pf:=zsz,ef:=zrx,tt:=zw6,vis:=[3],n:=10,pm:=false,wr:=false,rd:=l }
noncomputable def GO:List (Nat×Ya):=[]
noncomputable def X7:List Code:=[cL ((Jm Tryz.f60)),cL (cR ((Jm Tryz.f60)))]
def ON(w:Wo)(R:Exit->List Va->Wo->Prop):Prop:= (∀a b,Q0 [] w b->w.heap.size<=a->b.heap[a]? = some (Obj.cells ([I 0]:List Va).toArray Qc (0,0))->a∉([]:List Nat)->Yo [] b (some (Addr.mk a 0 none)) 0 1/\(∀c,Q0 [] (R9 b (some (Addr.mk a 0 none)) 0 [I 0]) c->R .normal [.pointer ((some (Addr.mk a 0 none)).map (·.add 0))] c))
theorem GW(l:Option Nat)(w:Wo)(R:Exit->List Va->Wo->Prop):z2l (OV l) GO X7 (U9 []) w (MI [3] R)=ON w R:=Qk
theorem Gh(l:Option Nat){w:Wo}{R:Exit->List Va->Wo->Prop}{X:Code}{Q:Exit->Act->Wo->Prop}{a:Act}(hn:a.tmps.size=10)(vZ:Lm [] a)(hvc:ON w R)(hX:∀vs a1 w1,R .normal vs w1->znp (Pb X7) [3] a a1 vs->X.wpIn (T7 l) 0 Tryz.prog Q a1 w1)(hQ:∀e vs a1 w1,e≠.normal->R e vs w1->znp (Pb X7) [3] a a1 vs->Q e a1 w1):(zpa X7 X).wpIn (T7 l) 0 Tryz.prog Q a w:=
 zz2 (C:=OV l) (zup _ _ _ _ _) hn vZ (by rw[GW]; exact hvc) hX hQ
noncomputable def OU(l:Option Nat):UJ:={ P:=Tryz.prog,T:=Vk zrb,pf:=zsz,ef:=zrx,tt:=zw6,vis:=[],n:=10,pm:=false,wr:=false,rd:=l }
noncomputable def GN:List (Nat×Ya):=[]
noncomputable def J2:Code:=(cL (cL (cR (cR ((Jm Tryz.f60))))))
def OM(g:Int)(w:Wo)(R:Exit->List Va->Wo->Prop):Prop:= (AY [] w λd=>Cz Xo #[I g] d λh b=>(∃(f:Fn) (e:Array Va) (a:Array Va),h=.returned (.func f e a)/\Q8 [] d b/\(∀c,Q0 [] b c->R .normal [.func f e a] c)))
theorem GV(l:Option Nat)(m:Int)(w:Wo)(R:Exit->List Va->Wo->Prop):Bd (OU l) GN J2 (U9 [(0,.int .i64 m)]) w (MI [5] R)=OM m w R:=Qk
theorem Gg(l:Option Nat)(m:Int){w:Wo}{R:Exit->List Va->Wo->Prop}{Q:Exit->Act->Wo->Prop}{a:Act}(hn:a.tmps.size=10)(vZ:Lm [(0,.int .i64 m)] a)(hvc:OM m w R)(hQ:∀e vs a1 w1,R e vs w1->znp (X9 J2) [5] a a1 vs->Q e a1 w1):J2.wpIn (T7 l) 0 Tryz.prog Q a w:=
 zb1 (C:=OU l) (zup _ _ _ _ _) hn vZ (by rw[GV]; exact hvc) hQ
noncomputable def TX(l:Option Nat):UJ:={ P:=Tryz.prog,T:=Vk zrb,pf:=zsz,ef:=zrx,tt:=zw6,vis:=[],n:=10,pm:=false,wr:=false,rd:=l }
noncomputable def LL:List (Nat×Ya):=[]
noncomputable def XG:Code:=(z3o (cB (cR (cL (cR (cR ((Jm Tryz.f60))))))))
def TV(b:OA)(w:Wo)(R:Exit->List Va->Wo->Prop):Prop:= (∃(a:Int),Q1 [] w b 0 [I a]/\Qm .i64 (a+1)/\Yo [] w b 0 1/\(∀c,Q0 [] (R9 w b 0 [I (a+1)]) c->R .normal [] c))
theorem LS(l:Option Nat)(count:OA)(w:Wo)(R:Exit->List Va->Wo->Prop):Bd (TX l) LL XG (U9 [(3,.pointer count)]) w (MI [] R)=TV count w R:=Qk
theorem LF(l:Option Nat)(count:OA){w:Wo}{R:Exit->List Va->Wo->Prop}{Q:Exit->Act->Wo->Prop}{a:Act}(hn:a.tmps.size=10)(vZ:Lm [(3,.pointer count)] a)(hvc:TV count w R)(hQ:∀e vs a1 w1,R e vs w1->znp (X9 XG) [] a a1 vs->Q e a1 w1):XG.wpIn (T7 l) 0 Tryz.prog Q a w:=
 zb1 (C:=TX l) (zup _ _ _ _ _) hn vZ (by rw[LS]; exact hvc) hQ
noncomputable def TY(l:Option Nat):UJ:={ P:=Tryz.prog,T:=Vk zrb,pf:=zsz,ef:=zrx,tt:=zw6,vis:=[],n:=10,pm:=false,wr:=false,rd:=l }
noncomputable def LO:List (Nat×Ya):=[]
noncomputable def XH:Code:=(cR (cR (cR ((Jm Tryz.f60)))))
def TW(c:OA)(w:Wo)(R:Exit->List Va->Wo->Prop):Prop:= (∃(b:Int),Q1 [] w c 0 [I b]/\(∀a,Q0 [] w a->R .ret [I b] a))
theorem LU(l:Option Nat)(count:OA)(w:Wo)(R:Exit->List Va->Wo->Prop):Bd (TY l) LO XH (U9 [(3,.pointer count)]) w (MI [2] R)=TW count w R:=Qk
theorem LG(l:Option Nat)(count:OA){w:Wo}{R:Exit->List Va->Wo->Prop}{Q:Exit->Act->Wo->Prop}{a:Act}(hn:a.tmps.size=10)(vZ:Lm [(3,.pointer count)] a)(hvc:TW count w R)(hQ:∀e vs a1 w1,R e vs w1->znp (X9 XH) [2] a a1 vs->Q e a1 w1):XH.wpIn (T7 l) 0 Tryz.prog Q a w:=
 zb1 (C:=TY l) (zup _ _ _ _ _) hn vZ (by rw[LU]; exact hvc) hQ
def Ut(g:OA)(d:Nat)(z:Nat)(t:Fn)(x:Array Va)(u:Array Va)(w:Wo)(R:RT):=∃(c:LQ) (l:LM),(AY [] w λv=>c [I 0] v)/\∀(a:Int) b,(∀bq∈([]:List Nat),bq<b.heap.size)->c [I a] b->Bf (decide (a<((d:Nat):Int))) (Ix g d a/\∃s m p h n r i k q,Q1 [] b g (a.toNat*9) [I s,I m,I p,I h,I n,I r,I i,I k,I q]/\AY [] b λo=>MA Tryz.prog (.func t x u) [.agg #[I s,I m,I p,I h,I n,I r,I i,I k,I q]] o λy e=>∃f,y=.returned (.bool f)/\Q8 [] o e/\Bf f (AR [] e R (I a)) (Qz (a+1)/\AY [] e λj=>c [I (a+1)] j/\l [I (a+1)] j<l [I a] b)) (AR [] b R (I (-1)))
theorem Uu(sO sL sC fF fA fK):JA (Ut sO sL sC fF fA fK) ZJ #[.slice sO sL sC,.func fF fA fK]:=eV [] false [(2,⟨[(8,.int .i64)],[],[0,1,7],[],[]⟩)] Tryz.func131 Qk Qk
def zmi(k:Int):MB:=⟨Int.tmod (k) 3==0,k+1,k+1+1,k+1+1+1,k+1+1+1+1⟩
end Go.Proofs.YtnclplgaicdapaaGreatDoor
