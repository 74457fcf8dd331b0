/- Part 11 of what the law FnWake needs. -/
import Derived.Test.YtnclplgaicdapaaGreatDoorFnWakePj
import Derived.Test.YtnclplgaicdapaaGreatDoorRows
import Derived.ChangeSame
import Derived.ChangeVars
import Derived.JoinedOf
import Derived.LaidLaws
import Derived.LaidHandle
import Derived.Stop.Joined
set_option linter.unusedVariables false
set_option linter.unusedSimpArgs false
set_option maxRecDepth 100000
set_option maxHeartbeats 8000000
namespace Go.Proofs.YtnclplgaicdapaaGreatDoor
open Go.RowKit
section
open Go.ChangeShapes Go.WideShapes Go.RowKit
abbrev laidE : List (String × DataW Unit) := [("errors.errorType", Rows.laid_errors_errorType)]
theorem zy4 : Tryz.prog.globalNamed "errors.errorType" = some 0 := by kernel_rfl
theorem zy5 : (Tryz.prog.cutTypes.find? (·.1 == "internal/reflectlite.rtype")).map (·.2) = some 174 := by kernel_rfl
theorem ztm:Tryz.prog.types.size=243:=Qk
theorem znf:((List.range 243).filter λt=>Tryz.prog.rowNamed t [101,114,114,111,114])=[67]:=Qk
theorem zne:typeHandle Tryz.prog 67=.pointer (some ⟨1,67,none⟩):=Qk
theorem glob_of_laid{W:Wo}(h:laidMetH Tryz.prog laidE W):Vw W:=by
 have h':laidMet Tryz.prog [] W/\handlesMet Tryz.prog laidE W:=h;obtain⟨name,u,ty,e1,e2,e3,e4,e5⟩:=h'.2 _ (Iz.2 rfl);have en:name=[101,114,114,111,114]:=(Option.some.inj e1).symm;subst en;obtain rfl:=Option.some.inj (zy5.symm.trans e2);have hm:ty∈(List.range 243).filter λt=>Tryz.prog.rowNamed t [101,114,114,111,114]:=List.mem_filter.2 ⟨List.mem_range.2 (by rw[<-ztm]; exact e3),e4⟩
 rw[znf] at hm;obtain rfl:=Iz.1 hm;rw[zne] at e5;unfold Vw
 simpa using World.var?_cell zy4 e5 0
noncomputable def laidWorld(os:Os):Wo:=
 let w0:=World.holding Tryz.prog os ⟨#[],#[],[]⟩
 { w0 with heap:=w0.heap.modify 0 fun
   | .cells _ t frozen=>.cells #[.iface 174 (.agg #[.pointer (some ⟨1,67,none⟩)])] t frozen
   | o=>o }
theorem laidWorld_met(os:Os)(args:Array Va):laidMetH Tryz.prog laidE ((laidWorld os).forCall (λ_ _=>0) ⟨#[],args,[]⟩).memory:=
 laidMetH_of_parts (laidMet_nil _ _) Qk
end
def zvc(P:Program)(gf:FuncId)(lb:Array Va)(N:Nat)(BT4:Nat->List Va)(I:Nat->Wo->Prop)(w:Wo):Prop:=
 ∀(l:Nat) (J:Nat->Wo->Prop) (Jx:Unit->Wo->Prop) (W:Wo),Q0 [] w W->(∀k W1,J k W1->I k W1)->z36 W.heap.size J->z36 W.heap.size Jx->
  (∀k W1,k<N->J k W1->Km P (.func (.yield l) #[] #[]) (BT4 k) W1 λe W2=>(∃X,Q0 X W1 W2/\∀x∈X,x<W.heap.size)/\((e=.returned (.bool true)/\J (k+1) W2)\/(e=.returned (.bool false)/\Jx () W2)))->
  J 0 W->Calls P gf (#[.func (.yield l) #[] #[]]++lb) W λe W2=>(∃v,e=.returned v)/\(J N W2\/Jx () W2)
theorem zqu{P:Program}{g:Operand}{ps:Array Tmp}{asg body:Code}{Q:Exit->Act->Wo->Prop}{a:Act}{w:Wo}{gf:FuncId}{lb:Array Va}(hg:a.eval g=.func (.func gf) #[] lb)(eg:∀args w,(callFunc gf args).run P w=.ok (.enter gf args) w)(I:Nat->Wo->Prop)(Ix:Code->Wo->Prop)(N:Nat)(BT4:Nat->List Va)(hI:z36 w.heap.size I)(hIx:z36 w.heap.size Ix)(h0:I 0 w)(hps:∀k,(BT4 k).length=ps.size)(hit:zvc P gf lb N BT4 I w)(CA7:∀l k W,k<N->I k W->w.heap.size<=l->asg.wpIn (UX (some l)) 0 P (Exit.then (fun a1 W1=>(∃X,Q0 X W W1/\∀x∈X,x<w.heap.size)/\∀W2,Q0 [l] W1 W2->body.wpIn (UX (some l)) 0 P (z2q w.heap.size I Ix k W2) a1 W2) (fun _ _ _=>False))
   { tmps:=(ps.zip (BT4 k).toArray).foldl (λt (p,v)=>t.setIfInBounds p v) a.tmps,defers:=[] } W)(Bf8:∀D W,w.heap.size<=D->I N W->W.heap[D]? = some (.deferred (some []))->Q .normal { a with defers:=Ae D::a.defers } W)(CR9:∀D c W,w.heap.size<=D->Ix c W->W.heap[D]? = some (.deferred (some []))->c.wpIn (UX none) 0 P Q { a with defers:=Ae D::a.defers } W) :
  (Code.rangeFunc g ps asg body).wpIn (UX none) 0 P Q a w:=by
 refine wpIn_rangeFunc λfn _=>?_
 obtain⟨rec,Ar2⟩:∃rec:LoopState->Option Code->Loop,rec=λst pe=>{ state:=st,pending:=pe,fn,tmps:=a.tmps,params:=ps,assign:=asg,body,defers:=w.heap.size }:=⟨_,rfl⟩
 obtain⟨W1,hW1⟩:∃W1,(w.alloc (.deferred (some []))).alloc (.loop (rec .ready none))=W1:=⟨_,rfl⟩
 have hL1:W1.heap[w.heap.size+1]? = some (.loop (rec .ready none)):=by
  have:=World.alloc_heap_new (w.alloc (.deferred (some []))) (.loop (rec .ready none));rw[World.size_alloc] at this;rw[<-hW1]; exact this
 have hD1:W1.heap[w.heap.size]? = some (.deferred (some [])):=by
  rw[<-hW1]; exact(Below.heap_alloc _ _ _ Qs).trans (World.alloc_heap_new w _)
 have hX1:Q0 [] w W1:=by rw[<-hW1]; exact((Q0.refl [] w).alloc _).alloc _
 have tB:W1.heap.size=w.heap.size+2:=by rw[<-hW1]; simp
 refine⟨w.heap.size+1,[Ae w.heap.size],W1,{ target:=.fn (.func gf) lb,args:=#[.func (.yield (w.heap.size+1)) #[] #[]] },W1,gf,#[.func (.yield (w.heap.size+1)) #[] #[]]++lb,W1,?_,?_,λ_ _=>trivial,?_,λhx=>(by simp[UX,Fence.wide] at hx),Mx ?_⟩
 ·rw[<-hW1,Ar2]; exact run_enterLoop_outer _ _ _ _ _
 ·simp only[resolve,hg];simp[go_sem]
 ·simp[invoke,eg]
 have nR:∀{W W':Wo} {ys:List Nat} {x:Nat} {o:Obj},W.heap[x]? = some o->Q0 ys W W'->x∉ys->W'.heap[x]? = some o:=λ{W W' ys x o} h hx hn=>(hx.block x (Array.getElem?_eq_some_iff.1 h).1 hn).trans h
 refine(hit (w.heap.size+1)
  (λk W=>I k W/\W.heap[w.heap.size+1]? = some (.loop (rec .ready none))/\W.heap[w.heap.size]? = some (.deferred (some [])))
  (λ_ W=>∃c,Ix c W/\W.heap[w.heap.size+1]? = some (.loop (rec .done (some c)))/\W.heap[w.heap.size]? = some (.deferred (some [])))
  W1 hX1 (λk W h=>h.1)
  (λk W W' ys h hx hy=>⟨hI k W W' ys h.1 hx λy hm=>by have:=hy y hm; omega,nR h.2.1 hx λhm=>by have:=hy _ hm; omega,nR h.2.2 hx λhm=>by have:=hy _ hm; omega⟩)
  (λk W W' ys h hx hy=>by
   obtain⟨c,h1,h2,h3⟩:=h;exact⟨c,hIx c W W' ys h1 hx λy hm=>by have:=hy y hm; omega,nR h2 hx λhm=>by have:=hy _ hm; omega,nR h3 hx λhm=>by have:=hy _ hm; omega⟩)
  ?_ ⟨hI 0 _ _ [] h0 hX1 Qs,hL1,hD1⟩).mono ?_
 ·rintro k W hk ⟨hi,hl,hd⟩;have hy:=run_yield (P:=P) (args:=(BT4 k).toArray) hl (by rw[Ar2]; simpa using hps k);rw[<-zm8] at hy;rw[Ar2] at hy;refine .inr ⟨w.heap.size+1,fn,_,asg,body,hy,?_⟩
  have hr:=roundIn_of_wpIn (F:=UX none) (n:=0) (P:=P) (l:=w.heap.size+1) (f:=fn) (assign:=asg) (body:=body) (w:=W) (R:=λe W2=>(∃X,Q0 X W W2/\∀x∈X,x<W1.heap.size)/\((e=.returned (.bool true)/\I (k+1) W2/\W2.heap[w.heap.size+1]? = some (.loop (rec .ready none))/\W2.heap[w.heap.size]? = some (.deferred (some [])))\/(e=.returned (.bool false)/\∃c,Ix c W2/\W2.heap[w.heap.size+1]? = some (.loop (rec .done (some c)))/\W2.heap[w.heap.size]? = some (.deferred (some []))))) trivial
   (wpIn_mono (CA7 (w.heap.size+1) k W hk hi Qo) λe a1 W1' hq=>?_)
  ·exact⟨trivial,λc cs _=>hr.2 c cs (zds _ _)⟩
  ·cases e with
   | normal=>
    obtain⟨⟨X,hX,hXl⟩,hb⟩:=hq;have mR:=nR hl hX λhm=>by have:=hXl _ hm; omega
    have hd1:=nR hd hX λhm=>by have:=hXl _ hm; omega
    refine⟨_,run_beginRound mR (by rw[Ar2]),?_⟩;have hl2:(W1'.putObj (w.heap.size+1) (.loop { rec .ready none with state:=.busy })).heap[w.heap.size+1]? = some (.loop { rec .ready none with state:=.busy }):=World.putObj_heap_same (Array.getElem?_eq_some_iff.1 mR).1;have hd2:=nR hd1 (Yi W1' (w.heap.size+1) (.loop { rec .ready none with state:=.busy })) Qs;refine wpIn_mono (hb _ (Yi _ _ _)) λe2 a2 W3 hr=>?_
    obtain⟨⟨X2,tW,B79⟩,hm⟩:=hr;have hl3:=nR hl2 tW λhm=>by have:=B79 _ hm; omega
    have hd3:=nR hd2 tW λhm=>by have:=B79 _ hm; omega
    have fin:∀(jump:Option Code),(Instr.endRound (w.heap.size+1) jump).run P W3=.ok (.bool jump.isNone) (W3.putObj (w.heap.size+1) (.loop (rec (if jump.isNone then .ready else .done) jump)))/\
      (W3.putObj (w.heap.size+1) (.loop (rec (if jump.isNone then .ready else .done) jump))).heap[w.heap.size+1]? = some (.loop (rec (if jump.isNone then .ready else .done) jump))/\
      (W3.putObj (w.heap.size+1) (.loop (rec (if jump.isNone then .ready else .done) jump))).heap[w.heap.size]? = some (.deferred (some [])):=λjump=>by
     have:=run_endRound (P:=P) jump hl3;rw[Ar2] at this ⊢;exact⟨this,World.putObj_heap_same (Array.getElem?_eq_some_iff.1 hl3).1,nR hd3 (Yi _ _ _) Qs⟩
    have oI:∀o,∃X,Q0 X W (W3.putObj (w.heap.size+1) o)/\∀x∈X,x<W1.heap.size:=λo=>by
     have m1:Q0 (X++[w.heap.size+1]++X2) W W1':=hX.mono λx hm=>by simp[hm]
     have m2:Q0 (X++[w.heap.size+1]++X2) W1' (W1'.putObj (w.heap.size+1) (.loop { rec .ready none with state:=.busy })):=(Yi _ _ _).mono λx hm=>by
      have:x=w.heap.size+1:=by simpa using hm
      simp[this]
     have m3:Q0 (X++[w.heap.size+1]++X2) _ W3:=tW.mono λx hm=>by simp[hm]
     have m4:Q0 (X++[w.heap.size+1]++X2) W3 (W3.putObj (w.heap.size+1) o):=(Yi _ _ _).mono λx hm=>by
      have:x=w.heap.size+1:=by simpa using hm
      simp[this]
     refine⟨_,((m1.trans m2).trans m3).trans m4,λx hm=>?_⟩;simp only[Im,Iz] at hm;rcases hm with (hm | hm) | hm
     ·have:=hXl x hm; omega
     ·omega
     ·have:=B79 x hm; omega
    cases e2 with
    | normal=>
     obtain⟨f1,f2,f3⟩:=fin none;exact⟨_,_,f1,oI _,.inl ⟨rfl,hI _ _ _ [w.heap.size+1] hm (Yi _ _ _) Qs,f2,f3⟩⟩
    | ret=>
     obtain⟨f1,f2,f3⟩:=fin (some .ret);exact⟨_,_,f1,oI _,.inr ⟨rfl,.ret,hIx _ _ _ [w.heap.size+1] hm (Yi _ _ _) Qs,f2,f3⟩⟩
    | exit i=>
     obtain⟨f1,f2,f3⟩:=fin (some (.exit i));exact⟨_,_,f1,oI _,.inr ⟨rfl,.exit i,hIx _ _ _ [w.heap.size+1] hm (Yi _ _ _) Qs,f2,f3⟩⟩
    | goto t=>
     obtain⟨f1,f2,f3⟩:=fin (some (.goto t));exact⟨_,_,f1,oI _,.inr ⟨rfl,.goto t,hIx _ _ _ [w.heap.size+1] hm (Yi _ _ _) Qs,f2,f3⟩⟩
    | panic ch=>exact hm.elim
    | outgrown=>exact hm.elim
   | _=>exact hq.elim
 ·rintro e W2 ⟨⟨v,rfl⟩,(⟨hi,hl,hd⟩ | ⟨c,hi,hl,hd⟩)⟩
  ·have:=run_endLoop (P:=P) hl (by rw[Ar2]; simp);rw[Ar2] at this;exact⟨none,_,this,Bf8 _ _ (I7 _) (hI _ _ _ [w.heap.size+1] hi (Yi _ _ _) Qs) (nR hd (Yi _ _ _) Qs)⟩
  ·have:=run_endLoop (P:=P) hl (by rw[Ar2]; simp);rw[Ar2] at this;exact⟨some c,_,this,CR9 _ c _ (I7 _) (hIx _ _ _ [w.heap.size+1] hi (Yi _ _ _) Qs) (nR hd (Yi _ _ _) Qs)⟩
def LX(m:Int)(k:Nat):List Int:=((List.range k).filter λ(i:Nat)=>Z1 m (i:Int)).map λ(i:Nat)=>(i:Int)
theorem Hv{m:Int}{k:Nat}(h:Z1 m (k:Int)=true):LX m (k+1)=LX m k++[(k:Int)]:=by
 unfold LX;rw[List.range_succ,List.filter_append]; simp[h]
theorem BF{m:Int}{k:Nat}(h:Z1 m (k:Int)=false):LX m (k+1)=LX m k:=by
 unfold LX;rw[List.range_succ,List.filter_append]; simp[h]
theorem zz6(m:Int)(k j:Nat):∃r,LX m (k+j)=LX m k++r:=by
 induction j with
 | zero=>exact⟨[],Qs⟩
 | succ j ih=>
  obtain⟨r,hr⟩:=ih;rw[show k+(j+1)=(k+j)+1 from rfl]
  cases h:Z1 m ((k+j:Nat):Int) with
  | true=>rw[Hv h,hr]; exact⟨r++[((k+j:Nat):Int)],Qs⟩
  | false=>rw[BF h,hr]; exact⟨r,rfl⟩
theorem zdw{α:Type}[Inhabited α](l r:List α)(x:α):gi (l++(x::r)) (l.length:Int)=x:=by
 unfold gi;simp
theorem z2d{m:Int}{k:Nat}(hk:k<4)(h:Z1 m (k:Int)=true):(LX m k).length<(LX m 4).length/\gi (LX m 4) ((LX m k).length:Int)=(k:Int):=by
 obtain⟨r,hr⟩:=zz6 m (k+1) (4-(k+1));rw[show k+1+(4-(k+1))=4 by omega,Hv h,List.append_assoc] at hr;rw[hr];exact⟨Qs,zdw _ _ _⟩
theorem EW{m:Int}{bm:Nat}{I:Nat->Wo->Prop}{w:Wo}(hI:∀k W1,I k W1->Q1 [] W1 (some ⟨bm,0,none⟩) 0 [.int .i64 m]) :
  zvc Tryz.prog QE #[.pointer (some ⟨bm,0,none⟩)] (LX m 4).length (λk=>[.int .i64 (gi (LX m 4) (k:Int))]) I w:=by
 intro l J Jx W hx hJI hAJ hAx hY h0;refine(L3 (.yield l) #[] #[] (some ⟨bm,0,none⟩) (R:=λv w'=>J (LX m 4).length w'\/Jx () w') ?_).mono λe w' ⟨v,he,hr⟩=>⟨⟨v,he⟩,hr⟩
 refine XL 4 0 rfl (λk w1=>k<=4/\J (LX m k).length w1) (λw1 RR _=>⟨Ic _,hAJ 0 _ _ [] h0 RR Qs⟩) λk w1 _ ⟨hk,hJ⟩=>⟨λIT=>?_,λRC wr R0=>.inl ?_⟩
 ·have IT:=Ot IT;have hk4:k<4:=Qo;refine⟨m,hI _ _ (hJI _ _ hJ),Z1 m (k:Int),zea,λh I' RR _=>?_,λh=>⟨λg=>(by cases g),λ_=>⟨⟨Qo,Qo⟩,λRE Sb _=>Qp hk4 ⟨Qo,?_⟩⟩⟩⟩
  ·obtain⟨hl,hg⟩:=z2d hk4 h;have hc:=hY (LX m k).length I' hl (hAJ _ _ _ [] hJ RR Qs)
   dsimp only at hc
   rw[hg] at hc;refine hc.mono λe w2 ⟨_,hr⟩=>?_
   rcases hr with ⟨he,hJ2⟩ | ⟨he,hJx⟩
   ·refine⟨true,he,Z3,λg=>(by rw[h] at g; cases g),λ_=>⟨⟨Qo,Qo⟩,λRj R3 _=>Qp hk4 ⟨Qo,?_⟩⟩⟩;rw[Hv h,Io];exact hAJ _ _ _ [] hJ2 R3 Qs
   ·exact⟨false,he,Z3,λ_ O' R0=>.inr (hAx _ _ _ [] hJx R0 Qs),λg=>(by rw[h] at g; cases g)⟩
  ·have h:Z1 m (k:Int)=false:=by simpa using h
   rw[BF h];exact hAJ _ _ _ [] hJ Sb Qs
 ·have RC:=Ou RC;have:k=4:=Qo;subst this;exact hAJ _ _ _ [] hJ R0 Qs
theorem A2{m:Int}{w:Wo}:Cz Yw #[I m] w λe w'=>∃b:Nat,w.heap.size<=b/\e=.returned (.func (.func QE) #[] #[.pointer (some ⟨b,0,none⟩)])/\Q1 [] w' (some ⟨b,0,none⟩) 0 [I m]/\Q0 [] w w':=by
 refine(Gv m (R:=λv w'=>∃b:Nat,w.heap.size<=b/\v=.func (.func QE) #[] #[.pointer (some ⟨b,0,none⟩)]/\Q1 [] w' (some ⟨b,0,none⟩) 0 [I m]/\Q0 [] w w') ?_).mono λe w' ⟨v,he,b,hb,hv,h1⟩=>⟨b,hb,by rw[he,hv],h1⟩
 intro b wb hx hb SO _ wr R0;refine⟨b,hb,rfl,?_,hx.trans R0⟩;have hc:=Qg SO R0 Qs;exact XG ⟨⟨b,0,none⟩,rfl,Qs,by rw[Addr.add_lit,Nat.add_zero,Vx hc]; rfl⟩
def Xz(lt:Int->Int->Bool)(xs:List Int):Nat->Int×Bool
 | 0=>(0,false)
 | k+1=>if (!(Xz lt xs k).2||lt (gi xs (k:Int)) (Xz lt xs k).1)=true then (gi xs (k:Int),true) else Xz lt xs k
theorem zi2{lt:Int->Int->Bool}{xs:List Int}:∀k:Nat,(Xz lt xs k).2=true->∃j:Nat,j<k/\(Xz lt xs k).1=gi xs (j:Int)
 | 0,h=>by cases h
 | k+1,h=>by
  simp only[Xz] at h ⊢;split
  ·exact⟨k,Qo,rfl⟩
  ·rename_i hn;rw[B' hn] at h;obtain⟨j,hj,he⟩:=zi2 k h;exact⟨j,Qo,he⟩
theorem zpu:YL Tryz.f198=zmn Xx (.seq (.seq JD (.block 0 (.rangeFunc (.tmp 9) #[10] JC Jk))) Jl):=Qk
structure zb7 (b b1 b2:Nat) (bef:Va) (st:Int×Bool) (W:Wo):Prop where
 c0:∃t,W.heap[b]? = some (.cells ([bef]:List Va).toArray t (0,0))
 c1:∃t,W.heap[b1]? = some (.cells ([I st.1]:List Va).toArray t (0,0))
 c2:∃t,W.heap[b2]? = some (.cells ([.bool st.2]:List Va).toArray t (0,0))
theorem zb7.ext{b b1 b2:Nat}{bef:Va}{st:Int×Bool}{W W':Wo}{ys:List Nat}(h:zb7 b b1 b2 bef st W)(hx:Q0 ys W W')(h0:b∉ys)(h1:b1∉ys)(h2:b2∉ys):zb7 b b1 b2 bef st W':=
 ⟨h.c0.imp λ_ h=>Qg h hx h0,h.c1.imp λ_ h=>Qg h hx h1,h.c2.imp λ_ h=>Qg h hx h2⟩
theorem Pr{W:Wo}{b:Nat}{v:Va}(h:∃t,W.heap[b]? = some (.cells ([v]:List Va).toArray t (0,0))):Q1 [] W (some ⟨b,0,none⟩) 0 [v]:=by
 obtain⟨t,h⟩:=h;exact XG ⟨⟨b,0,none⟩,rfl,Qs,by rw[Addr.add_lit,Nat.add_zero,Vx h]; rfl⟩
theorem E8{a:Array Va}{i:Nat}{v:Va}(h:i<a.size):(a.setIfInBounds i v).getD i undef=v:=by
 rw[Array.getD_eq_getD_getElem?,Array.getElem?_setIfInBounds_self_of_lt h]; rfl
theorem UR{a:Array Va}{i j:Nat}{v:Va}(h:i≠j):(a.setIfInBounds i v).getD j undef=a.getD j undef:=by
 rw[Array.getD_eq_getD_getElem?,Array.getD_eq_getD_getElem?,Array.getElem?_setIfInBounds_ne h]
theorem LG{P:Program}{f:FuncId}{fn:Func}{body:Code}{n:Nat}{args:List Va}{w:Wo}{R:Ending->Wo->Prop}(hf:P.funcs[f]? = some fn)(hb:fn.body=some body)(hn:fn.ntmps=n)(hl:args.length<=n)(h:∀a:Act,a.tmps.size=n->(∀(i:Nat) v,args[i]? = some v->a.tmps.getD i undef=v)->a.defers=[]->body.wpIn (UX none) 0 P (bodyPostM (UX none) 0 P fn R) a w):Calls P f args.toArray w R:=by
 refine zm9 hf hb (h _ ?_ ?_ rfl)
 ·simp[hn]; omega
 ·intro i v hv;rw[Array.getD_eq_getD_getElem?,Array.getElem?_append_left (by simpa using (I8.1 hv).1)];simp[hv]
theorem zx3{w:Wo}{o:OA}{n:Nat}{vs:List Va}:(R5 w o n vs).heap.size=w.heap.size:=by
 cases o with
 | none=>rfl
 | some a=>exact P4 vs w a n
theorem zdt{i:Tmp}{v:Va}{t:Array Va}:((#[i].zip [v].toArray).foldl (λ(t:Array Va) (p,v)=>t.setIfInBounds p v) t)=t.setIfInBounds i v:=Qs
theorem z13{gf:FuncId}{lb:Array Va}{bF:Fn}{bA bK:Array Va}{xs:List Int}{lt:Int->Int->Bool}{w:Wo}(eg:∀args w,(callFunc gf args).run Tryz.prog w=.ok (.enter gf args) w)(hit:∀(I:Nat->Wo->Prop) (W:Wo),Q0 [] w W->(∀k W1,I k W1->Q0 [] w W1)->zvc Tryz.prog gf lb xs.length (λk=>[.int .i64 (gi xs (k:Int))]) I W)(hb:∀i j:Nat,i<xs.length->j<xs.length->∀W1,Q0 [] w W1->Km Tryz.prog (.func bF bA bK) [.int .i64 (gi xs (i:Int)),.int .i64 (gi xs (j:Int))] W1 λe W2=>e=.returned (.bool (lt (gi xs (i:Int)) (gi xs (j:Int))))/\Q0 [] W1 W2) :
  Cz L4 #[.func (.func gf) #[] lb,.func bF bA bK] w λe w'=>e=.returned (.tuple #[.int .i64 (Xz lt xs xs.length).1,.bool (Xz lt xs xs.length).2])/\Q0 [] w w':=by
 refine LG (args:=[.func (.func gf) #[] lb,.func bF bA bK]) (n:=22) Tryz.func198 (body:=YL Tryz.f198) rfl Qk Qs λa hn ha hd=>?_
 rw[zpu];have a0:=ha 0 _ rfl;have a1:=ha 1 _ rfl;refine DN none bF bA bK (R:=λe vs w1=>e=.normal/\∃b b1 b2:Nat,vs=[.pointer (some ⟨b,0,none⟩),.pointer (some ⟨b1,0,none⟩),.pointer (some ⟨b2,0,none⟩)]/\b<b1/\b1<b2/\w.heap.size<=b/\b2<w1.heap.size/\zb7 b b1 b2 (.func bF bA bK) (0,false) w1/\Q0 [] w w1) hn ?_ ?_ ?_ (λe vs a1 w1 fI hR _=>Ir hR.1 fI)
 ·intro p hp;simp only[Ii,List.not_mem_nil,or_false] at hp;subst hp;exact⟨Ik rfl,a1⟩
 ·intro b wb hx hb0 SO _ b1 lY RR fQ Bf6 _ b2 wb2 R0 bR AR9 _;have l0:=Yt SO;have l1:=Yt Bf6;have l2:=Yt AR9;have s1:=RR.size;have s2:=R0.size;refine⟨U7 (k0:=0) AR9 Qs Qs,λwr R3=>?_⟩;have hs:Q0 [b2] wb2 (R5 wb2 (some ⟨b2,0,none⟩) 0 [.bool false]):=X3 (bs:=[b2]) Qs;have s3:=R3.size;rw[zx3] at s3;refine⟨rfl,b,b1,b2,rfl,Qo,Qo,hb0,Qo,⟨⟨_,Qg (Qg (Qg (Qg SO RR Qs) R0 Qs) hs (by simp; omega)) R3 Qs⟩,⟨_,Qg (Qg (Qg Bf6 R0 Qs) hs (by simp; omega)) R3 Qs⟩,⟨_,Qg (U6 AR9) R3 Qs⟩⟩,?_⟩
  exact(((hx.trans RR).trans R0).fresh hs λx hm=>.inl (by
   have:x=b2:=by simpa using hm
   have:=hx.size;omega)).trans R3
 rintro vs a2 w1 ⟨_,b,b1,b2,rfl,h01,h12,hwb,bR,hB,hX⟩ fo
 obtain⟨o3,o6,o7⟩:a2.tmps.getD 3 undef=.pointer (some ⟨b,0,none⟩)/\a2.tmps.getD 6 undef=.pointer (some ⟨b1,0,none⟩)/\a2.tmps.getD 7 undef=.pointer (some ⟨b2,0,none⟩):=by
  have:=fo.out;simp only[List.map_cons,List.map_nil,I4,and_true] at this;exact this
 have o0:a2.tmps.getD 0 undef=.func (.func gf) #[] lb:=(fo.kept 0 (by decide +kernel)).trans a0;refine wpIn_seq (wpIn_seq (DM none (.func gf) #[] lb (R:=λe vs w2=>e=.normal/\vs=[.func (.func gf) #[] lb]/\Q0 [] w1 w2) (by rw[fo.size,hn]) (λp hp=>?_) (λwr hx=>⟨rfl,rfl,hx⟩) λe vs a3 w2 hR fo3=>?_))
 ·simp only[Ii,List.not_mem_nil,or_false] at hp;subst hp;exact⟨Ik rfl,o0⟩
 obtain⟨rfl,rfl,R0⟩:=hR
 have p9:a3.tmps.getD 9 undef=.func (.func gf) #[] lb:=by
  have:=fo3.out
  simpa using this
 have p3:=(fo3.kept 3 (by decide +kernel)).trans o3;have p6:=(fo3.kept 6 (by decide +kernel)).trans o6;have p7:=(fo3.kept 7 (by decide +kernel)).trans o7;have AO0:a3.tmps.size=22:=by rw[fo3.size,fo.size,hn]
 have hd3:a3.defers=[]:=by rw[fo3.defers,fo.defers,hd]
 have tW:=hX.trans R0;have hB2:=hB.ext R0 Qs Qs Qs;have Rw:b2<w2.heap.size:=Nat.lt_of_lt_of_le bR R0.size;refine wpIn_block (zqu (lb:=lb) (gf:=gf) p9 eg (λk W=>zb7 b b1 b2 (.func bF bA bK) (Xz lt xs k) W/\Q0 [] w W) (λ_ _=>False) xs.length (λk=>[.int .i64 (gi xs (k:Int))]) (λk W W' ys h hx hy=>⟨h.1.ext hx (λhm=>by have:=hy _ hm; omega) (λhm=>by have:=hy _ hm; omega) (λhm=>by have:=hy _ hm; omega),h.2.fresh hx λx hm=>.inl (by have:=hy x hm; have:=tW.size; omega)⟩) (λk W W' ys h _ _=>h) ⟨hB2,tW⟩ (λk=>rfl) (hit _ w2 tW λk W1 h=>h.2) ?_ ?_ (λD c W _ h _=>h.elim))
 ·intro l k W hk ⟨hBk,hXk⟩ hl;rw[zdt];refine DK (some l) (gi xs (k:Int)) (R:=λe vs W1=>e=.normal/\vs=[.int .i64 (gi xs (k:Int))]/\Q0 [] W W1) ?_ (λp hp=>?_) (λwr hx=>⟨rfl,rfl,hx⟩) λe vs a4 W1 hR fo4=>?_
  ·simpa using AO0
  ·simp only[Ii,List.not_mem_nil,or_false] at hp;subst hp;exact⟨Ik rfl,E8 (i:=10) (by rw[AO0]; decide)⟩
  obtain⟨rfl,rfl,Si⟩:=hR
  have q8:a4.tmps.getD 8 undef=.int .i64 (gi xs (k:Int)):=by
   have:=fo4.out
   simpa using this
  have q3:a4.tmps.getD 3 undef=.pointer (some ⟨b,0,none⟩):=((fo4.kept 3 (by decide +kernel)).trans (UR (i:=10) (j:=3) Qd)).trans p3;have q6:a4.tmps.getD 6 undef=.pointer (some ⟨b1,0,none⟩):=((fo4.kept 6 (by decide +kernel)).trans (UR (i:=10) (j:=6) Qd)).trans p6;have q7:a4.tmps.getD 7 undef=.pointer (some ⟨b2,0,none⟩):=((fo4.kept 7 (by decide +kernel)).trans (UR (i:=10) (j:=7) Qd)).trans p7;refine⟨⟨[],Si,Qs⟩,λW2 Sb=>?_⟩;have hB5:=(hBk.ext Si Qs Qs Qs).ext Sb (by simp; omega) (by simp; omega) (by simp; omega)
  have hX5:Q0 [] w W2:=(hXk.trans Si).fresh Sb λx hm=>.inl (by
   have:x=l:=by simpa using hm
   have:=tW.size;omega)
  have fin:∀(W3:Wo),Q0 [] W2 W3->∀wr,Q0 [] (R5 (R5 W3 (some ⟨b1,0,none⟩) 0 [.int .i64 (gi xs (k:Int))]) (some ⟨b2,0,none⟩) 0 [.bool true]) wr->(∃X,Q0 X W2 wr/\∀x∈X,x<w2.heap.size)/\zb7 b b1 b2 (.func bF bA bK) (gi xs (k:Int),true) wr/\Q0 [] w wr:=λW3 Wt wr dK=>by
   have hB6:=hB5.ext Wt Qs Qs Qs;obtain⟨t1,c1⟩:=hB6.c1;obtain⟨t2,c2⟩:=hB6.c2;have e1:Q0 [b1] W3 (R5 W3 (some ⟨b1,0,none⟩) 0 [.int .i64 (gi xs (k:Int))]):=X3 (bs:=[b1]) Qs;have e2:Q0 [b2] (R5 W3 (some ⟨b1,0,none⟩) 0 [.int .i64 (gi xs (k:Int))]) (R5 (R5 W3 (some ⟨b1,0,none⟩) 0 [.int .i64 (gi xs (k:Int))]) (some ⟨b2,0,none⟩) 0 [.bool true]):=X3 (bs:=[b2]) Qs;have eX:Q0 [b1,b2] W2 wr:=((Wt.of_nil.trans (e1.mono Qs)).trans (e2.mono Qs)).trans dK.of_nil;have d1:=Qg (Qg (U6 (vs:=[.int .i64 (gi xs (k:Int))]) (n:=0) c1) e2 (by simp; omega)) dK Qs;have d2:=Qg (U6 (vs:=[.bool true]) (n:=0) (Qg c2 e1 (by simp; omega))) dK Qs;refine⟨⟨[b1,b2],eX,λx hm=>?_⟩,⟨hB5.c0.imp λ_ h=>Qg h eX (by simp; omega),⟨t1,d1⟩,⟨t2,d2⟩⟩,hX5.fresh eX λx hm=>.inl ?_⟩
   ·simp only[Ii,List.not_mem_nil,or_false] at hm;omega
   ·simp only[Ii,List.not_mem_nil,or_false] at hm;omega
  refine Hg (some l) (some ⟨b,0,none⟩) (some ⟨b1,0,none⟩) (some ⟨b2,0,none⟩) (gi xs (k:Int)) (R:=λe _ W3=>e=.normal/\(∃X,Q0 X W2 W3/\∀x∈X,x<w2.heap.size)/\zb7 b b1 b2 (.func bF bA bK) (Xz lt xs (k+1)) W3/\Q0 [] w W3) (by rw[fo4.size]; simpa using AO0) (λp hp=>?_) ?_ λe vs a5 W3 hR _=>?_
  ·simp only[Ii,List.not_mem_nil,or_false] at hp;rcases hp with rfl | rfl | rfl | rfl
   ·exact⟨Ik rfl,q3⟩
   ·exact⟨Ik rfl,q6⟩
   ·exact⟨Ik rfl,q7⟩
   ·exact⟨Ik rfl,q8⟩
  ·refine⟨(Xz lt xs k).2,Pr hB5.c2,bF,bA,bK,λ_=>Pr hB5.c0,(Xz lt xs k).1,λ_=>Pr hB5.c1,λhs wr Wt _=>?_,λhs=>⟨λ_=>?_,λh=>(by cases h)⟩⟩
   ·have SR:(Xz lt xs k).2=true:=by simpa using hs
    obtain⟨j,hj,hje⟩:=zi2 k SR;have hc:=hb k j hk Qo wr (hX5.trans Wt);rw[<-hje] at hc;refine hc.mono λe W3 ⟨he,dK⟩=>⟨_,he,Z3,λg=>?_,λg O' nQ=>?_⟩
    ·have hB7:=(hB5.ext Wt Qs Qs Qs).ext dK Qs Qs Qs;obtain⟨t1,c1⟩:=hB7.c1;obtain⟨t2,c2⟩:=hB7.c2;have e1:Q0 [b1] W3 (R5 W3 (some ⟨b1,0,none⟩) 0 [.int .i64 (gi xs (k:Int))]):=X3 (bs:=[b1]) Qs;refine⟨U7 (k0:=0) c1 Qs Qs,U7 (k0:=0) (Qg c2 e1 (by simp; omega)) Qs Qs,λI' kS=>?_⟩;obtain⟨f1,f2,f3⟩:=fin W3 (Wt.trans dK) I' kS;refine⟨rfl,f1,?_,f3⟩;rw[show Xz lt xs (k+1)=(gi xs (k:Int),true) from C' g];exact f2
    ·have kS:=(Wt.trans dK).trans nQ;refine⟨rfl,⟨[],kS,Qs⟩,?_,hX5.trans kS⟩;rw[show Xz lt xs (k+1)=Xz lt xs k from B' (by rw[g]; decide)];exact hB5.ext kS Qs Qs Qs
   ·have SR:(Xz lt xs k).2=false:=by
     cases h:(Xz lt xs k).2 with
     | false=>rfl
     | true=>exact Ir (by rw[h]; rfl) hs
    obtain⟨t1,c1⟩:=hB5.c1;obtain⟨t2,c2⟩:=hB5.c2;have e1:Q0 [b1] W2 (R5 W2 (some ⟨b1,0,none⟩) 0 [.int .i64 (gi xs (k:Int))]):=X3 (bs:=[b1]) Qs;refine⟨U7 (k0:=0) c1 Qs Qs,U7 (k0:=0) (Qg c2 e1 (by simp; omega)) Qs Qs,λI' kS=>?_⟩;obtain⟨f1,f2,f3⟩:=fin W2 (Q0.refl _ _) I' kS;refine⟨rfl,f1,?_,f3⟩;rw[show Xz lt xs (k+1)=(gi xs (k:Int),true) from C' (by rw[SR]; rfl)];exact f2
  ·obtain⟨rfl,hX3,hI3⟩:=hR;exact⟨hX3,hI3⟩
 ·intro D W hD ⟨hBn,hXn⟩ hdD;refine Hh none (some ⟨b1,0,none⟩) (some ⟨b2,0,none⟩) (R:=λe vs W1=>e=.ret/\vs=[.int .i64 (Xz lt xs xs.length).1,.bool (Xz lt xs xs.length).2]/\Q0 [] W W1) AO0 (λp hp=>?_) ⟨_,Pr hBn.c1,_,Pr hBn.c2,λwr hx=>⟨rfl,rfl,hx⟩⟩ λe vs a6 W1 hR fo6=>?_
  ·simp only[Ii,List.not_mem_nil,or_false] at hp;rcases hp with rfl | rfl
   ·exact⟨Ik rfl,p6⟩
   ·exact⟨Ik rfl,p7⟩
  ·obtain⟨rfl,rfl,Wt⟩:=hR
   have hr:∀w',(results Tryz.f198 a6.tmps).run Tryz.prog w'=.ok (.tuple #[.int .i64 (Xz lt xs xs.length).1,.bool (Xz lt xs xs.length).2]) w':=λw'=>by
    rw[results_tmp2 (t:=4) (u:=5) Qk];have:=fo6.out;simp only[List.map_cons,List.map_nil,I4,and_true] at this;rw[this.1,this.2]
   exact(zeq (D:=D) (by rw[fo6.defers]; simp[hd3]) ((Wt.block D (Array.getElem?_eq_some_iff.1 hdD).1 Qs).trans hdD) hr λw' hx=>⟨rfl,(hXn.trans Wt).fresh hx λx hm=>.inl (by
    have:x=D:=by simpa using hm
    have:=tW.size;omega)⟩).2
theorem D5{W1 W2:Wo}{b:Nat}{v:Va}{ys:List Nat}(h:Q1 [] W1 (some ⟨b,0,none⟩) 0 [v])(hx:Q0 ys W1 W2)(hb:b∉ys):Q1 [] W2 (some ⟨b,0,none⟩) 0 [v]:=by
 obtain⟨a,ha,_,hc⟩:=h.get 0 _ rfl;cases ha;have hw:JO ys W1 (some ⟨b,0,none⟩) (0+0) v:=⟨_,rfl,hb,hc⟩;obtain⟨a2,ha2,_,hc2⟩:=hw.ext hx;cases ha2;exact XG ⟨_,rfl,Qs,hc2⟩
theorem zrq{W1:Wo}{b:Nat}{v:Va}(h:Q1 [] W1 (some ⟨b,0,none⟩) 0 [v]):b<W1.heap.size:=by
 obtain⟨a,ha,_,hc⟩:=h.get 0 _ rfl;cases ha;have:=World.block_lt_of_cell? W1 _ hc
 rwa[ZK] at this
noncomputable def Pu(l:Option Nat):Uk:={ P:=Tryz.prog,T:=J3 zka,pf:=zm2,ef:=zm1,tt:=zph,wZ:=[3],n:=10,pm:=false,wr:=false,rd:=l }
noncomputable def HI:List (Nat×ZD):=[]
noncomputable def Xg:List Code:=[cL ((YL Tryz.f60)),cL (cR ((YL Tryz.f60)))]
def Pj(w:Wo)(R:Exit->List Va->Wo->Prop):Prop:= (∀a b,Q0 [] w b->w.heap.size<=a->b.heap[a]? = some (Obj.cells ([I 0]:List Va).toArray Qa (0,0))->a∉([]:List Nat)->YK [] b (some (Addr.mk a 0 none)) 0 1/\(∀c,Q0 [] (R5 b (some (Addr.mk a 0 none)) 0 [I 0]) c->R .normal [.pointer ((some (Addr.mk a 0 none)).map (·.add 0))] c))
theorem HU(l:Option Nat)(w:Wo)(R:Exit->List Va->Wo->Prop):z2z (Pu l) HI Xg (XJ []) w (TT [3] R)=Pj w R:=Qk
theorem Hc(l:Option Nat){w:Wo}{R:Exit->List Va->Wo->Prop}{X:Code}{Q:Exit->Act->Wo->Prop}{a:Act}(hn:a.tmps.size=10)(mG:PD [] a)(vH:Pj w R)(hX:∀vs a1 w1,R .normal vs w1->zgd (TA Xg) [3] a a1 vs->X.wpIn (UX l) 0 Tryz.prog Q a1 w1)(hQ:∀e vs a1 w1,e≠.normal->R e vs w1->zgd (TA Xg) [3] a a1 vs->Q e a1 w1):(zmn Xg X).wpIn (UX l) 0 Tryz.prog Q a w:=
 zwb (C:=Pu l) (zpg _ _ _ _ _) hn mG (by rw[HU]; exact vH) hX hQ
noncomputable def Pt(l:Option Nat):Uk:={ P:=Tryz.prog,T:=J3 zka,pf:=zm2,ef:=zm1,tt:=zph,wZ:=[],n:=10,pm:=false,wr:=false,rd:=l }
noncomputable def HH:List (Nat×ZD):=[]
noncomputable def Jh:Code:=(cL (cL (cR (cR ((YL Tryz.f60))))))
def Pi(g:Int)(w:Wo)(R:Exit->List Va->Wo->Prop):Prop:= (AY [] w λb=>Cz Yw #[I g] b λh c=>(∃(d:Fn) (a:Array Va) (f:Array Va),h=.returned (.func d a f)/\Q9 [] b c/\(∀e,Q0 [] c e->R .normal [.func d a f] e)))
theorem HT(l:Option Nat)(m:Int)(w:Wo)(R:Exit->List Va->Wo->Prop):E5 (Pt l) HH Jh (XJ [(0,.int .i64 m)]) w (TT [5] R)=Pi m w R:=Qk
theorem Hb(l:Option Nat)(m:Int){w:Wo}{R:Exit->List Va->Wo->Prop}{Q:Exit->Act->Wo->Prop}{a:Act}(hn:a.tmps.size=10)(mG:PD [(0,.int .i64 m)] a)(vH:Pi m w R)(hQ:∀e vs a1 w1,R e vs w1->zgd (YA Jh) [5] a a1 vs->Q e a1 w1):Jh.wpIn (UX l) 0 Tryz.prog Q a w:=
 Ha (C:=Pt l) (zpg _ _ _ _ _) hn mG (by rw[HT]; exact vH) hQ
noncomputable def Om(l:Option Nat):Uk:={ P:=Tryz.prog,T:=J3 zka,pf:=zm2,ef:=zm1,tt:=zph,wZ:=[],n:=10,pm:=false,wr:=false,rd:=l }
noncomputable def GF:List (Nat×ZD):=[]
noncomputable def XU:Code:=(z4h (cB (cR (cL (cR (cR ((YL Tryz.f60))))))))
def Oi(b:OA)(w:Wo)(R:Exit->List Va->Wo->Prop):Prop:= (∃(a:Int),Q1 [] w b 0 [I a]/\Qr .i64 (a+1)/\YK [] w b 0 1/\(∀c,Q0 [] (R5 w b 0 [I (a+1)]) c->R .normal [] c))
theorem GK(l:Option Nat)(count:OA)(w:Wo)(R:Exit->List Va->Wo->Prop):E5 (Om l) GF XU (XJ [(3,.pointer count)]) w (TT [] R)=Oi count w R:=Qk
theorem Gw(l:Option Nat)(count:OA){w:Wo}{R:Exit->List Va->Wo->Prop}{Q:Exit->Act->Wo->Prop}{a:Act}(hn:a.tmps.size=10)(mG:PD [(3,.pointer count)] a)(vH:Oi count w R)(hQ:∀e vs a1 w1,R e vs w1->zgd (YA XU) [] a a1 vs->Q e a1 w1):XU.wpIn (UX l) 0 Tryz.prog Q a w:=
 Ha (C:=Om l) (zpg _ _ _ _ _) hn mG (by rw[GK]; exact vH) hQ
noncomputable def On(l:Option Nat):Uk:={ P:=Tryz.prog,T:=J3 zka,pf:=zm2,ef:=zm1,tt:=zph,wZ:=[],n:=10,pm:=false,wr:=false,rd:=l }
noncomputable def GG:List (Nat×ZD):=[]
noncomputable def XV:Code:=(cR (cR (cR ((YL Tryz.f60)))))
def Oj(c:OA)(w:Wo)(R:Exit->List Va->Wo->Prop):Prop:= (∃(b:Int),Q1 [] w c 0 [I b]/\(∀a,Q0 [] w a->R .ret [I b] a))
theorem GL(l:Option Nat)(count:OA)(w:Wo)(R:Exit->List Va->Wo->Prop):E5 (On l) GG XV (XJ [(3,.pointer count)]) w (TT [2] R)=Oj count w R:=Qk
theorem Gx(l:Option Nat)(count:OA){w:Wo}{R:Exit->List Va->Wo->Prop}{Q:Exit->Act->Wo->Prop}{a:Act}(hn:a.tmps.size=10)(mG:PD [(3,.pointer count)] a)(vH:Oj count w R)(hQ:∀e vs a1 w1,R e vs w1->zgd (YA XV) [2] a a1 vs->Q e a1 w1):XV.wpIn (UX l) 0 Tryz.prog Q a w:=
 Ha (C:=On l) (zpg _ _ _ _ _) hn mG (by rw[GL]; exact vH) hQ
noncomputable def Px(l:Option Nat):Uk:={ P:=Tryz.prog,T:=J3 zka,pf:=zm2,ef:=zm1,tt:=zph,wZ:=[2],n:=8,pm:=false,wr:=false,rd:=l }
noncomputable def HL:List (Nat×ZD):=[]
noncomputable def Xh:List Code:=[cL ((YL Tryz.f119))]
def Pm(w:Wo)(R:Exit->List Va->Wo->Prop):Prop:= (∀a b,Q0 [] w b->w.heap.size<=a->b.heap[a]? = some (Obj.cells ([I 0]:List Va).toArray Qa (0,0))->a∉([]:List Nat)->(∀c,Q0 [] b c->R .normal [.pointer ((some (Addr.mk a 0 none)).map (·.add 0))] c))
theorem HX(l:Option Nat)(w:Wo)(R:Exit->List Va->Wo->Prop):z2z (Px l) HL Xh (XJ []) w (TT [2] R)=Pm w R:=Qk
theorem Hf(l:Option Nat){w:Wo}{R:Exit->List Va->Wo->Prop}{X:Code}{Q:Exit->Act->Wo->Prop}{a:Act}(hn:a.tmps.size=8)(mG:PD [] a)(vH:Pm w R)(hX:∀vs a1 w1,R .normal vs w1->zgd (TA Xh) [2] a a1 vs->X.wpIn (UX l) 0 Tryz.prog Q a1 w1)(hQ:∀e vs a1 w1,e≠.normal->R e vs w1->zgd (TA Xh) [2] a a1 vs->Q e a1 w1):(zmn Xh X).wpIn (UX l) 0 Tryz.prog Q a w:=
 zwb (C:=Px l) (zpg _ _ _ _ _) hn mG (by rw[HX]; exact vH) hX hQ
noncomputable def Pw(l:Option Nat):Uk:={ P:=Tryz.prog,T:=J3 zka,pf:=zm2,ef:=zm1,tt:=zph,wZ:=[],n:=8,pm:=false,wr:=false,rd:=l }
noncomputable def HK:List (Nat×ZD):=[]
noncomputable def Jj:Code:=(cL (cL (cR ((YL Tryz.f119)))))
def Pl(g:Int)(w:Wo)(R:Exit->List Va->Wo->Prop):Prop:= (AY [] w λb=>Cz Yw #[I g] b λh c=>(∃(d:Fn) (a:Array Va) (f:Array Va),h=.returned (.func d a f)/\Q9 [] b c/\(∀e,Q0 [] c e->R .normal [.func d a f] e)))
theorem HW(l:Option Nat)(m:Int)(w:Wo)(R:Exit->List Va->Wo->Prop):E5 (Pw l) HK Jj (XJ [(0,.int .i64 m)]) w (TT [5] R)=Pl m w R:=Qk
theorem He(l:Option Nat)(m:Int){w:Wo}{R:Exit->List Va->Wo->Prop}{Q:Exit->Act->Wo->Prop}{a:Act}(hn:a.tmps.size=8)(mG:PD [(0,.int .i64 m)] a)(vH:Pl m w R)(hQ:∀e vs a1 w1,R e vs w1->zgd (YA Jj) [5] a a1 vs->Q e a1 w1):Jj.wpIn (UX l) 0 Tryz.prog Q a w:=
 Ha (C:=Pw l) (zpg _ _ _ _ _) hn mG (by rw[HW]; exact vH) hQ
noncomputable def Pv(l:Option Nat):Uk:={ P:=Tryz.prog,T:=J3 zka,pf:=zm2,ef:=zm1,tt:=zph,wZ:=[],n:=8,pm:=false,wr:=false,rd:=l }
noncomputable def HJ:List (Nat×ZD):=[]
noncomputable def Ji:Code:=(z4q (cB (cR (cL (cR ((YL Tryz.f119)))))))
def Pk(b:Int)(w:Wo)(R:Exit->List Va->Wo->Prop):Prop:= (∀a,Q0 [] w a->R .normal [I b] a)
theorem HV(l:Option Nat)(x:Int)(w:Wo)(R:Exit->List Va->Wo->Prop):E5 (Pv l) HJ Ji (XJ [(6,.int .i64 x)]) w (TT [3] R)=Pk x w R:=Qk
theorem Hd(l:Option Nat)(x:Int){w:Wo}{R:Exit->List Va->Wo->Prop}{Q:Exit->Act->Wo->Prop}{a:Act}(hn:a.tmps.size=8)(mG:PD [(6,.int .i64 x)] a)(vH:Pk x w R)(hQ:∀e vs a1 w1,R e vs w1->zgd (YA Ji) [3] a a1 vs->Q e a1 w1):Ji.wpIn (UX l) 0 Tryz.prog Q a w:=
 Ha (C:=Pv l) (zpg _ _ _ _ _) hn mG (by rw[HV]; exact vH) hQ
noncomputable def Oo(l:Option Nat):Uk:={ P:=Tryz.prog,T:=J3 zka,pf:=zm2,ef:=zm1,tt:=zph,wZ:=[],n:=8,pm:=false,wr:=false,rd:=l }
noncomputable def GH:List (Nat×ZD):=[]
noncomputable def XW:Code:=(z4h (cB (cR (cL (cR ((YL Tryz.f119)))))))
def Ok(b:OA)(c:Int)(w:Wo)(R:Exit->List Va->Wo->Prop):Prop:= YK [] w b 0 1/\(∀a,Q0 [] (R5 w b 0 [I c]) a->R .ret [] a)
theorem GM(l:Option Nat)(x:OA)(J':Int)(w:Wo)(R:Exit->List Va->Wo->Prop):E5 (Oo l) GH XW (XJ [(2,.pointer x),(3,.int .i64 J')]) w (TT [] R)=Ok x J' w R:=Qk
theorem Gy(l:Option Nat)(x:OA)(J':Int){w:Wo}{R:Exit->List Va->Wo->Prop}{Q:Exit->Act->Wo->Prop}{a:Act}(hn:a.tmps.size=8)(mG:PD [(2,.pointer x),(3,.int .i64 J')] a)(vH:Ok x J' w R)(hQ:∀e vs a1 w1,R e vs w1->zgd (YA XW) [] a a1 vs->Q e a1 w1):XW.wpIn (UX l) 0 Tryz.prog Q a w:=
 Ha (C:=Oo l) (zpg _ _ _ _ _) hn mG (by rw[GM]; exact vH) hQ
noncomputable def Oq(l:Option Nat):Uk:={ P:=Tryz.prog,T:=J3 zka,pf:=zm2,ef:=zm1,tt:=zph,wZ:=[],n:=8,pm:=false,wr:=false,rd:=l }
noncomputable def GI:List (Nat×ZD):=[]
noncomputable def XX:Code:=(cR (cR ((YL Tryz.f119))))
def Ol(b:OA)(w:Wo)(R:Exit->List Va->Wo->Prop):Prop:= YK [] w b 0 1/\(∀a,Q0 [] (R5 w b 0 [I (-1)]) a->R .ret [] a)
theorem GN(l:Option Nat)(x:OA)(w:Wo)(R:Exit->List Va->Wo->Prop):E5 (Oq l) GI XX (XJ [(2,.pointer x)]) w (TT [] R)=Ol x w R:=Qk
theorem Gz(l:Option Nat)(x:OA){w:Wo}{R:Exit->List Va->Wo->Prop}{Q:Exit->Act->Wo->Prop}{a:Act}(hn:a.tmps.size=8)(mG:PD [(2,.pointer x)] a)(vH:Ol x w R)(hQ:∀e vs a1 w1,R e vs w1->zgd (YA XX) [] a a1 vs->Q e a1 w1):XX.wpIn (UX l) 0 Tryz.prog Q a w:=
 Ha (C:=Oq l) (zpg _ _ _ _ _) hn mG (by rw[GN]; exact vH) hQ
def UI(p:OA)(e:Nat)(z:Nat)(y:Fn)(t:Array Va)(v:Array Va)(w:Wo)(R:RT):=∃(c:LQ) (l:LM),(AY [] w λx=>c [I 0] x)/\∀(a:Int) b,(∀bq∈([]:List Nat),bq<b.heap.size)->c [I a] b->Bf (decide (a<((e:Nat):Int))) (Ix p e a/\∃h o n s k j q g m,Q1 [] b p (a.toNat*9) [I h,I o,I n,I s,I k,I j,I q,I g,I m]/\AY [] b λr=>Km Tryz.prog (.func y t v) [.agg #[I h,I o,I n,I s,I k,I j,I q,I g,I m]] r λu f=>∃d,u=.returned (.bool d)/\Q9 [] r f/\Bf d (AR [] f R (I a)) (Qz (a+1)/\AY [] f λi=>c [I (a+1)] i/\l [I (a+1)] i<l [I a] b)) (AR [] b R (I (-1)))
theorem UK(sO sL sC fF fA fK):Jp (UI sO sL sC fF fA fK) ZJ #[.slice sO sL sC,.func fF fA fK]:=eV [] false [(2,⟨[(8,.int .i64)],[],[0,1,7],[],[]⟩)] Tryz.func131 Qk Qk
def zoc(k:Int):KV:=⟨Int.tmod (k) 3==0,k+1,k+1+1,k+1+1+1,k+1+1+1+1⟩
end Go.Proofs.YtnclplgaicdapaaGreatDoor
