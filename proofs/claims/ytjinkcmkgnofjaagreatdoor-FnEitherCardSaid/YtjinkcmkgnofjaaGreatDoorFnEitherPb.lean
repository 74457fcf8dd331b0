/- Part 2 of what the law FnEither needs. -/
import Derived.Test.YtjinkcmkgnofjaaGreatDoorFnEitherPa
import Derived.RangeFuncRecord
import Derived.OrdersIn
import Derived.TacticsIn
import Derived.Scope
set_option linter.all false
set_option maxRecDepth 100000
set_option maxHeartbeats 8000000
namespace Go.Proofs.YtjinkcmkgnofjaaGreatDoor
open Go.RowKit
def PS(r:Option Nat):Fence:={ Fence.wide with round:=r }
def znn(r:Option Nat)(n:Nat):(PS r).room n:=λd h=>by simp[PS,Fence.wide] at h
def KL{r:Option Nat}{n:Nat}{P:Program}{f:FuncId}{args:Array Va}{w:Wo}{R:Ending->Wo->Prop}(h:Calls P f args w R):CallsIn (PS r) n P f args w R:=(callsIn_wide (n:=n)).2 h
def z06{r:Option Nat}{n:Nat}{P:Program}{f:FuncId}{args:Array Va}{w:Wo}{R:Ending->Wo->Prop}(h:CallsIn (PS r) n P f args w R):Calls P f args w R:=(callsIn_wide (n:=n)).1 h
def ziv{r:Option Nat}{n m:Nat}{P:Program}{l:Nat}{f:FuncId}{tmps:Array Va}{asg body:Code}{w:Wo}{R:Ending->Wo->Prop}(h:RoundIn Fence.wide n P l f tmps asg body w R):RoundIn (PS r) m P l f tmps asg body w R:=
 ⟨trivial,λc cs _=>h.2 c cs (room_wide _)⟩
def zxo{r:Option Nat}{n:Nat}{P:Program}{row:String}{args:Array Va}{w:Wo}{R:Va->Wo->Prop}(h:Rows P row args w R):RowsIn (PS r) n P row args w R:=λc cs _=>by
 obtain⟨v,w',hr,hs⟩:=h c cs;exact⟨v,w',hr,(stepsIn_wide (P:=P)).2 hs⟩
def zrt{r:Option Nat}{P:Program}{o:Oper}{a:Act}{w:Wo}{next:Act->Wo->Prop}{Q:Exit->Act->Wo->Prop}(hd:∀c,o.op≠.defer c)(h:o.uponIn (PS r) 0 P a next Q ((execOp a.eval o).run P w)):o.wpIn (PS r) 0 P a w next Q:=
 ⟨λ_ _=>trivial,by rw[Oper.semAt_eq _ _ _ hd];exact h⟩
def z49{r:Option Nat}{P:Program}{o:Oper}{a:Act}{w:Wo}{next:Act->Wo->Prop}{Q:Exit->Act->Wo->Prop}(hd:∀c,o.op≠.defer c)(h:o.wpIn (PS r) 0 P a w next Q):o.uponIn (PS r) 0 P a next Q ((execOp a.eval o).run P w):=by
 have:=h.2;rw[Oper.semAt_eq _ _ _ hd] at this;exact this
def zjn{P:Program}{o:Oper}{ρ:Operand->Va}{c:Call}(hc:o.op=.defer c)(w:Wo):(∃d w',(execOp ρ o).run P w=.ok (.defer d) w')\/∃x w',(execOp ρ o).run P w=.halt x w':=by
 simp only[execOp,hc,Sem.run_bind]
 cases hr:(resolve ρ c o.type).run P w with
 |ok d w'=>exact .inl ⟨d,w',by simp[Result.andThen]⟩
 |halt x w'=>exact .inr ⟨x,w',by simp[Result.andThen]⟩
def zob{P:Program}{C:Wo->Prop}{o:Oper}{ρ:Operand->Va}{w:Wo}{v:Va}(h:Oper.quietUpon P C w v ((execOp ρ o).run P w)):∀c,o.op≠.defer c:=λc hc=>by
 rcases zjn (P:=P) (ρ:=ρ) hc w with ⟨d,w',hr⟩|⟨x,w',hr⟩ <;> (rw[hr] at h;exact h)
def Bm{r:Option Nat}{P:Program}{C:Wo->Prop}{o:Oper}{a:Act}{K:Act->Prop}{K':Act->Wo->Prop}{Q':Exit->Act->Wo->Prop}{w:Wo}(hw:C w)(h:∀a w',C w'->K a->K' a w')(hh:o.quiet P a C K):o.wpIn (PS r) 0 P a w K' Q':=by
 obtain⟨v,h1,h2⟩:=hh;have h3:=h1 w hw;refine zrt (zob h3) ?_;unfold Oper.quietAt at h3;generalize (execOp a.eval o).run P w=res at *
 cases res with
 |ok n w'=>
  cases n <;> simp only[Oper.quietUpon] at h3 <;> simp only[Oper.uponIn]
  case value u=>
   obtain⟨e1,e2⟩:=h3;rw[e1,e2];exact h _ _ hw h2
  case skip=>
   obtain⟨e1,e2⟩:=h3;rw[e1,<-e2];exact h _ _ hw h2
  case enter f args=>
   obtain⟨e1,e2⟩:=h3;rw[e1];exact⟨λhx=>(by simp[PS,Fence.wide] at hx),KL (e2.mono λe qZ ⟨he,hc⟩=>by subst he;exact h _ _ hc h2)⟩
 |halt x w'=>exact h3.elim
section
variable {P:Program}{b:Frame}{a:Act}{k:List Item}{cs:List Frame}{w:Wo}
def T0{c:Code}:step P (lone (b.atR a (.code (.scope c)::k)) cs w)=.next (lone (b.atR a (.code c :: .inScope c::k)) cs w):=
 step_lone_go (by simp[stepG,stepG.exec,Frame.atR])
def zih{c:Code}:step P (lone (b.atR a (.inScope c::k)) cs w)=.next (lone (b.atR a k) cs w):=
 step_lone_go (by simp[stepG,stepG.exec,Frame.atR])
end
section
variable {F:Fence}{n:Nat}{P:Program}{Q:Exit->Act->Wo->Prop}{a:Act}{w:Wo}
def Dv{c:Code}(h:c.wpIn F n P (Exit.noGoto Q) a w):(Code.scope c).wpIn F n P Q a w:=by
 intro b k cs hro hb hr;have h0:(lone (b.atR a (.code (.scope c)::k)) cs w).fenced P F:=fenced_calm hb hr rfl;obtain⟨e,a₁,w₁,hq,AJ7⟩:=h b (.inScope c::k) cs hro hb hr
 cases e with
 |normal=>exact⟨.normal,a₁,w₁,hq,.head h0 T0 (StepsIn.trans AJ7 (.one (fenced_calm hb hr rfl) zih))⟩
 |exit id=>exact⟨.exit id,a₁,w₁,hq,λk' hk=>.head h0 T0 (AJ7.1 k' (by simp[exitTo,hk])),λhr' hk=>(let ⟨k₁,h1,h2⟩:=AJ7.2 hr' (by simp[exitTo,hk]);⟨k₁,h1,.head h0 T0 h2⟩)⟩
 |goto l=>exact hq.elim
 |ret=>exact⟨_,a₁,w₁,hq,.of_steps (.one h0 T0) AJ7⟩
 |panic ch=>exact⟨_,a₁,w₁,hq,.of_steps (.one h0 T0) AJ7⟩
 |outgrown=>exact⟨_,a₁,w₁,hq,.of_steps (.one h0 T0) AJ7⟩
def G5{c:Code}(I:Nat->Act->Wo->Prop){m:Nat}(h₀:I m a w)(round:∀m a w,I m a w->c.wpIn F n P (Exit.then (λa' w'=>∃j,j<m/\I j a' w') Q) a w):(Code.loop c).wpIn F n P Q a w:=by
 intro b k cs hro hb hr
 have key:∀m a w,I m a w->∃e a' w',Q e a' w'/\ArrivesIn (Machine.fenced P F) P (lone (b.atR a (.code c :: .inLoop c::k)) cs w) b k cs e a' w':=by
  intro m
  induction m using Nat.strongRecOn with
  |_ m ih=>
   intro a w hI;obtain⟨e,a₁,w₁,hq,AJ7⟩:=round m a w hI b (.inLoop c::k) cs hro hb hr
   cases e with
   |normal=>
    obtain⟨j,IV,hI₁⟩:=hq;obtain⟨e₂,a₂,w₂,hq₂,harr₂⟩:=ih j IV a₁ w₁ hI₁;exact⟨e₂,a₂,w₂,hq₂,.of_steps (StepsIn.trans AJ7 (.one (fenced_calm hb hr rfl) stepR_inLoop)) harr₂⟩
   |exit id=>exact⟨_,a₁,w₁,hq,.pass (x:=.inLoop c) rfl (λ_ _=>.inl Qs) AJ7⟩
   |goto l=>exact⟨_,a₁,w₁,hq,.pass (x:=.inLoop c) rfl (λ_ _=>.inl Qs) AJ7⟩
   |ret=>exact⟨_,a₁,w₁,hq,.pass (x:=.inLoop c) rfl (λ_ _=>.inl Qs) AJ7⟩
   |panic ch=>exact⟨_,a₁,w₁,hq,.pass (x:=.inLoop c) rfl (λ_ _=>.inl Qs) AJ7⟩
   |outgrown=>exact⟨_,a₁,w₁,hq,.pass (x:=.inLoop c) rfl (λ_ _=>.inl Qs) AJ7⟩
 obtain⟨e,a',w',hq,AJ7⟩:=key m a w h₀;exact⟨e,a',w',hq,.of_steps (.one (fenced_calm hb hr rfl) stepR_loop) AJ7⟩
end
def zm9(v:Va)(vs:List Va):Sem Next:=do let d <-Deferred.ofValue v vs.toArray;invoke d.target d.args
def zck(m:String)(v:Va)(vs:List Va):Sem Next:=invoke (.fn (.method m) #[]) (#[v]++vs.toArray)
def O1(P:Program)(v:Va)(vs:List Va)(w:Wo)(R:Ending->Wo->Prop):Prop:=
 (∃(f:FuncId) (as0:Array Va),(zm9 v vs).run P w=.ok (.enter f as0) w/\Calls P f as0 w R) \/
 ∃(l:Nat) (f:FuncId) (tmps:Array Va) (asg body:Code),(zm9 v vs).run P w=.ok (.round l f tmps asg body) w/\RoundIn Fence.wide 0 P l f tmps asg body w R
def O1.mono{P:Program}{v:Va}{vs:List Va}{w:Wo}{R R':Ending->Wo->Prop}(h:O1 P v vs w R)(hr:∀e w',R e w'->R' e w'):O1 P v vs w R':=by
 rcases h with ⟨f,as0,h1,h2⟩|⟨l,f,tmps,asg,body,h1,h2⟩
 ·exact .inl ⟨f,as0,h1,h2.mono hr⟩
 ·exact .inr ⟨l,f,tmps,asg,body,h1,h2.mono hr⟩
def zx4(C:UU)(t:TypeId):Bool:=match C.T t with
 |some { agg:=_,ks:=_,d:=.int _ }=>true
 |_=>false
def FB(C:UU):Op->Bool
 |.alloc _|.box _ _|.store _ _ _|.buildSlice _ _ _=>true
 |.call { callee:=.value (.func f),args:=_,argTypes:=_ } => !(zps C.pf f).isSome
 |.call { callee:=.builtin b,args:=_,argTypes:=_ }=>match b with
  |.append|.copy=>true
  |_=>false
 |.call { callee:=.value (.tmp _),args:=_,argTypes:=_ } | .call { callee:=.invoke _ _,args:=_,argTypes:=_ }=>true
 |.makeSlice _ _ _|.makeMap _ _|.lookup _ _ _ _|.mapUpdate _ _ _ _|.insert _ _ _ _|.range _ _|.next _ _=>true
 |.convert s d _ => !(zx4 C s&&zx4 C d)
 |_=>false
def St.dA(S:St):St:={ S with old:=S.B.length }
def Q9(B:List Nat)(w w':Wo):Prop:=∀b∈B,w'.heap[b]? = w.heap[b]?
def z7e:Builtin->List RK
 |.append=>[.cell .slice]
 |_=>[.cell (.int .i64)]
def zw8(args:Array Operand):Array Bool:=args.map λ| .const _=>true|_=>false
def M2(z:Nat):List (Nat×Operand)->Nat->List Va->Option (List Va)
 |[],_,[]=>some []
 |(i,_)::r,k,v::vs=>bif Nat.beq i k&&Nat.beq v.cells.toList.length z then
   match M2 z r (k+1) vs with
   |some l=>some (v.cells.toList++l)
   |none=>none
  else none
 |_,_,_=>none
def zeg(C:UU)(S:St)(w:Wo)(d:Option Tmp)(t:TypeId)(cells:List Va)(e:Nat->EV)(K:St->Wo->Prop):Prop:=
 ∀b,w.heap.size<=b->EB C { S with L:=S.L++[(t,cells)],B:=S.B++[b] } d (.un (e S.L.length)) λS'=>K S' w
def NG(C:UU)(S:St)(w:Wo)(d:Option Tmp)(t:TypeId)(cells:List Va)(e:Nat->EV)(K:St->Wo->Prop):Prop:=
 bif C.pm then False else ∀b w',Q0 S.bs w w'->w.heap.size<=b->w'.heap[b]? = some (Obj.cells cells.toArray t (0,0))->b∉S.B->EB C S.dA d (.un (e b)) λS'=>K S' w'
def Ky(l:List Nat)(x:Nat):Bool:=l.any λy=>Nat.beq y x
def zma(C:UU)(o:Oper):Option (List Operand×List RK×Bool×(List Va->Sem Va)):=
 match o.op with
 |.makeSlice t l c=>some ([l,c],[.cell .slice],false,λ| [x,y]=>Instr.makeSlice t x y|_=>pure undef)
 |.makeMap t none=>some ([],[.cell .map],false,λ_=>Instr.makeMap t none)
 |.makeMap t (some r)=>some ([r],[.cell .map],false,λ| [x]=>Instr.makeMap t (some x)|_=>pure undef)
 |.lookup t x i ok=>match z6c C o.type with
  |some rk=>some ([x,i],rk,false,λ| [a,b]=>Instr.lookup t a b ok|_=>pure undef)
  |none=>none
 |.mapUpdate t m k x=>some ([m,k,x],[],true,λ| [a,b,c]=>do Instr.mapUpdate t a b c;pure undef|_=>pure undef)
 |.insert t m k x=>some ([m,k,x],[],true,λ| [a,b,c]=>do Instr.mapUpdate t a b c;pure undef|_=>pure undef)
 |.range t x=>some ([x],[.cell .ptr],false,λ| [a]=>Instr.range t a|_=>pure undef)
 |.convert s d x=>match z6c C o.type with
  |some rk=>some ([x],rk,false,λ| [a]=>convert s d a|_=>pure undef)
  |none=>none
 |_=>none
def ze8{C:UU}{o:Oper}{xs:List Operand}{rk:List RK}{u:Bool}{f:List Va->Sem Va}(h:zma C o=some (xs,rk,u,f))(ρ:Operand->Va){P:Program}{w w':Wo}{v:Va}(hr:(f (xs.map ρ)).run P w=.ok v w') :
  (execOp ρ o).run P w=.ok (if u then .skip else .value v) w':=by
 unfold zma at h
 split at h
 case h_5 t m k x ho=>
  simp only[I0,Prod.mk.injEq] at h;obtain⟨rfl,rfl,rfl,rfl⟩:=h;simp only[List.map_cons,List.map_nil,Sem.run_bind,Sem.run_pure] at hr;simp only[execOp,ho,Sem.run_bind,Sem.run_pure,if_true];generalize (Instr.mapUpdate t (ρ m) (ρ k) (ρ x)).run P w=q at hr ⊢
  cases q <;> simp_all [Result.andThen]
 case h_6 t m k x ho=>
  simp only[I0,Prod.mk.injEq] at h;obtain⟨rfl,rfl,rfl,rfl⟩:=h;simp only[List.map_cons,List.map_nil,Sem.run_bind,Sem.run_pure] at hr;simp only[execOp,ho,Sem.run_bind,Sem.run_pure,if_true];generalize (Instr.mapUpdate t (ρ m) (ρ k) (ρ x)).run P w=q at hr ⊢
  cases q <;> simp_all [Result.andThen]
 all_goals
  (try split at h)
  all_goals first
   |cases h;done
   | (rename_i ho _ _ _
      simp only[I0,Prod.mk.injEq] at h;obtain⟨rfl,rfl,rfl,rfl⟩:=h;simp only[List.map_cons,List.map_nil] at hr;simp[execOp,ho,hr]
      done)
   | (rename_i ho
      simp only[I0,Prod.mk.injEq] at h;obtain⟨rfl,rfl,rfl,rfl⟩:=h;simp only[List.map_cons,List.map_nil] at hr;simp[execOp,ho,hr])
def Mo(w:Wo)(b:Nat)(s:ByteArray)(p:Nat):Wo:={ w with heap:=w.heap.setIfInBounds b (.stringIter s p) }
def z5c(C:UU)(S:St)(w:Wo)(o:Oper)(pc:List (Nat×Bool))(K:St->Wo->Prop):Prop:=
 match o.op with
 |.alloc t=>match C.T t with
  |some ty=>bif ty.ks.contains .other then False
   else match o.dst with
    |some d=>bif Ky C.vis d then NG C S w o.dst t (ty.ks.map zv) (λb=>.el (some ⟨b,0,none⟩) 0) K else zeg C S w o.dst t (ty.ks.map zv) (λi=>.loc i 0) K
    |none=>False
  |none=>False
 |.box t x=>match Hl S pc x with
  |some v=>match o.dst with
    |some d=>bif Ky C.vis d then NG C S w o.dst t v.cells.toList (λb=>.el (some ⟨b,0,none⟩) 0) K else zeg C S w o.dst t v.cells.toList (λi=>.loc i 0) K
    |none=>False
  |none=>False
 |.buildSlice t n parts=>match C.T t,L4 S pc (parts.toList.map (·.2)) with
  |some { agg:=_,ks:=_,d:=.slice e z },some vs=>match C.T e,M2 z parts.toList 0 vs with
   |some _,some cells=>bif Nat.beq n vs.length&&Nat.blt 0 z&&Nat.blt 0 n&&Nat.blt (n*z) 16777216 then
     (match o.dst with
      |some d=>bif Ky C.vis d then NG C S w o.dst e cells (λb=>.v (.slice (some ⟨b,0,none⟩) n n)) K else zeg C S w o.dst e cells (λi=>.ls i n) K
      |none=>False)
    else False
   |_,_=>False
  |_,_=>False
 |.store t x y=>match C.T t,zfv S pc x,Hl S pc y with
  |some ty,some (.loc id off),some v=>match S.L[id]? with
   |some (t',cs)=>bif Nat.beq v.cells.toList.length ty.ks.length&&Nat.ble (off+v.cells.toList.length) cs.length&&Zg v.cells.toList && !Ky S.lk id then
     K { S with L:=S.L.set id (t',cs.take off++v.cells.toList++cs.drop (off+v.cells.toList.length)) } w
    else False
   |none=>False
  |some ty,some (.le id i m),some v=>match S.L[id]? with
   |some (t',cs)=>bif Nat.beq v.cells.toList.length ty.ks.length&&Nat.beq v.cells.toList.length 1&&Zg [v] && !Ky S.lk id then
     (i.toNat+m<cs.length)/\znk (cs.map z63) λvs=>cs.set (i.toNat+m) v=vs/\K { S with L:=S.L.set id (t',vs) } w
    else False
   |none=>False
  |some ty,some (.el ob n),some v=>bif Nat.beq v.cells.toList.length ty.ks.length&&Zg v.cells.toList && !C.pm&&Nat.blt 0 ty.ks.length then
    Xd S.bs w ob n v.cells.toList.length/\K S (Rx w ob n v.cells.toList)
   else False
  |some ty,some (.v (.pointer ob)),some v=>bif Nat.beq v.cells.toList.length ty.ks.length&&Zg v.cells.toList && !C.pm&&Nat.blt 0 ty.ks.length then
    Xd S.bs w ob 0 v.cells.toList.length/\K S (Rx w ob 0 v.cells.toList)
   else False
  |_,_,_=>False
 |.call { callee:=.value (.func f),args:=args,argTypes:=_ }=>match zps C.ef f,L4 S pc args.toList with
  |some rks,some vs=>bif C.pm then False else ∀wr,Q0 S.bs w wr->(∀b∈S.B,b<wr.heap.size)->Jt S wr (zod S pc args.toList)
    (Calls C.P f vs.toArray wr λe w'=>Dy rks λr=>e=.returned r/\Q9 S.B wr w'/\EB C S.dA o.dst (.un (.v r)) λS'=>K S' w')
  |_,_=>False
 |.call { callee:=.builtin bi,args:=args,argTypes:=ts }=>match L4 S pc args.toList with
  |some vs=>bif C.pm then False else ∀wr,Q0 S.bs w wr->(∀b∈S.B,b<wr.heap.size)->Jt S wr (zod S pc args.toList)
    (Dy (z7e bi) λr=>∃w',(builtin bi ts o.type (zw8 args) vs.toArray).run C.P wr=.ok (.value r) w'/\Q9 S.B wr w'/\EB C S.dA o.dst (.un (.v r)) λS'=>K S' w')
  |none=>False
 |.call { callee:=.value (.tmp t),args:=args,argTypes:=_ }=>match Hl S pc (.tmp t),L4 S pc args.toList,z6c C o.type with
  |some v,some vs,some rks=>bif C.pm then False else ∀wr,Q0 S.bs w wr->(∀b∈S.B,b<wr.heap.size)->Jt S wr (zod S pc args.toList)
    (O1 C.P v vs wr λe w'=>Dy rks λr=>e=.returned r/\Q9 S.B wr w'/\EB C S.dA o.dst (.un (.v r)) λS'=>K S' w')
  |_,_,_=>False
 |.call { callee:=.invoke rc m,args:=args,argTypes:=_ }=>match Hl S pc rc,L4 S pc args.toList,z6c C o.type with
  |some v,some vs,some rks=>bif C.pm then False else ∀wr,Q0 S.bs w wr->(∀b∈S.B,b<wr.heap.size)->Jt S wr (zod S pc args.toList)
    (∃(f:FuncId) (as0:Array Va),(zck m v vs).run C.P wr=.ok (.enter f as0) wr/\Calls C.P f as0 wr λe w'=>Dy rks λr=>e=.returned r/\Q9 S.B wr w'/\EB C S.dA o.dst (.un (.v r)) λS'=>K S' w')
  |_,_,_=>False
 |.next it true=>match Hl S pc it with
  |some (.pointer ob)=>bif C.pm then False else ∀wr,Q0 S.bs w wr->(∀b∈S.B,b<wr.heap.size)->
    ∃(b:Nat) (s:ByteArray) (pos:Nat),ob=some ⟨b,0,none⟩/\b∉S.B/\wr.heap[b]? = some (.stringIter s pos)/\
     (s.size<=pos->EB C S.dA o.dst (.un (.v (.tuple #[.bool false]))) λS'=>K S' wr)/\
     (pos<s.size->EB C S.dA o.dst (.un (.v (.tuple #[.bool true,.int .i64 pos,.int .i32 (Utf8.decode s pos).1]))) λS'=>K S' (Mo wr b s (pos+(Utf8.decode s pos).2)))
  |_=>False
 |_=>match zma C o with
  |some (xs,rk,u,f)=>match L4 S pc xs with
   |some vs=>bif C.pm then False else ∀wr,Q0 S.bs w wr->(∀b∈S.B,b<wr.heap.size)->
     (bif u then (match o.dst with
      |none=>∃w',(f vs).run C.P wr=.ok undef w'/\Q9 S.B wr w'/\K S.dA w'
      |some _=>False)
     else Dy rk λr=>∃w',(f vs).run C.P wr=.ok r w'/\Q9 S.B wr w'/\EB C S.dA o.dst (.un (.v r)) λS'=>K S' w')
   |none=>False
  |none=>False
structure Kf (S S':St):Prop where
 B:∀(id b:Nat),S.B[id]? = some b->S'.B[id]? = some b
 ty:∀(id:Nat) (t:TypeId) (cs:List Va),S.L[id]? = some (t,cs)->∃vD:List Va,S'.L[id]? = some (t,vD)
 lk:∀id∈S.lk,id∈S'.lk/\S'.L[id]? = S.L[id]?
def Kf.refl(S:St):Kf S S:=⟨λ_ _ h=>h,λ_ _ cs h=>⟨cs,h⟩,λ_ h=>⟨h,rfl⟩⟩
def Kf.trans{S S' S'':St}(h:Kf S S')(k:Kf S' S''):Kf S S'':=
 ⟨λid b hb=>k.B id b (h.B id b hb),λid t cs hc=>(let ⟨cs1,h1⟩:=h.ty id t cs hc;k.ty id t cs1 h1),λid hi=>⟨(k.lk id (h.lk id hi).1).1,((k.lk id (h.lk id hi).1).2).trans (h.lk id hi).2⟩⟩
def Kf.cJ{S S':St}(h:Kf S S')(d:Option Tmp)(sv:SV):Kf S (S'.cJ d sv):=by
 cases d <;> exact⟨h.B,h.ty,h.lk⟩
def Zm.cJ{S:St}{w wr:Wo}(h:Zm S w wr)(d:Option Tmp)(sv:SV):Zm (S.cJ d sv) w wr:=by
 cases d <;> exact⟨h.ext,h.loc,h.len,h.wC,h.fresh⟩
def KY{l:List Nat}{x:Nat}(h:Ky l x=false):x∉l:=by
 intro hx;have:Ky l x:=by simp only[Ky,List.any_eq_true];exact⟨x,hx,Nat.beq_refl x⟩
 rw[h] at this;cases this
structure Gj (S:St):Prop where
 old:S.old<=S.B.length
 lk:∀id∈S.lk,id<S.L.length
def Gj.cJ{S:St}(h:Gj S)(d:Option Tmp)(sv:SV):Gj (S.cJ d sv):=by
 cases d <;> exact⟨h.old,h.lk⟩
def Gj.dA{S:St}(h:Gj S):Gj S.dA:=⟨I7 _,h.lk⟩
def Zm.push{S:St}{w wr:Wo}(h:Zm S w wr)(ho:S.old<=S.B.length)(t:TypeId)(cells:List Va) :
  Zm { S with L:=S.L++[(t,cells)],B:=S.B++[wr.heap.size] } w (wr.alloc (.cells cells.toArray t)):=by
 have IV:∀b∈S.B,b<wr.heap.size:=λb hb=>by
  obtain⟨id,bR⟩:=List.getElem?_of_mem hb;have hl:id<S.L.length:=by rw[h.len];exact(I8.1 bR).1
  obtain⟨b',jR,hh⟩:=h.loc id (S.L[id]).1 (S.L[id]).2 (by rw[Il hl]);rw[bR] at jR;cases jR;exact za4 hh
 have hbs:(S.B++[wr.heap.size]).take S.old=S.B.take S.old:=List.take_append_of_le_length ho;refine⟨?_,λid t' cs hl=>?_,by simp[h.len],?_,λid b bR hb=>?_⟩
 ·show Q0 ((S.B++[wr.heap.size]).take S.old) w _;rw[hbs];exact h.ext.alloc _
 ·by_cases hi:id<S.L.length
  ·have hl':S.L[id]? = some (t',cs):=by rw[<-hl];exact(Ip hi).symm
   obtain⟨b,hb,hh⟩:=h.loc id t' cs hl';refine⟨b,?_,(Below.heap_alloc wr _ b (za4 hh)).trans hh⟩;show (S.B++[wr.heap.size])[id]? = some b;rw[Ip (by rw[<-h.len];exact hi)];exact hb
  ·have hi':id=S.L.length:=by
    have:id<(S.L++[(t,cells)]).length:=(I8.1 hl).1;simp at this;omega
   subst hi';simp only[List.getElem?_concat_length,I0,Prod.mk.injEq] at hl;obtain⟨rfl,rfl⟩:=hl;refine⟨wr.heap.size,?_,heap_alloc_new wr _⟩;show (S.B++[wr.heap.size])[S.L.length]? = _;rw[h.len];simp
 ·refine List.nodup_append.2 ⟨h.wC,Qs,λx hx y hy=>?_⟩;simp only[IA] at hy;subst hy;have:=IV x hx;omega
 ·have jR:(S.B++[wr.heap.size])[id]? = some b:=hb
  by_cases hi:id<S.B.length
  ·rw[Ip hi] at jR;exact h.fresh id b bR jR
  ·have:id=S.B.length:=by
    have:id<(S.B++[wr.heap.size]).length:=(I8.1 jR).1;simp at this;omega
   subst this;simp at jR;subst jR;exact h.ext.size
def Zm.age{S:St}{w wr Wy:Wo}(h:Zm S w wr)(hk:Q9 S.B wr Wy):Zm S.dA Wy Wy:=
 ⟨Q0.refl _ _,λid t cs hl=>by
  obtain⟨b,hb,hh⟩:=h.loc id t cs hl;exact⟨b,hb,(hk b (List.mem_of_getElem? hb)).trans hh⟩,h.len,h.wC,λid b bR hb=>by
  have:id<S.B.length:=(I8.1 hb).1;simp only[St.dA] at bR;omega⟩
def Zm.lt{S:St}{w wr:Wo}(h:Zm S w wr):∀b∈S.B,b<wr.heap.size:=λb hb=>by
 obtain⟨id,bR⟩:=List.getElem?_of_mem hb;have hl:id<S.L.length:=by rw[h.len];exact(I8.1 bR).1
 obtain⟨b',jR,hh⟩:=h.loc id (S.L[id]).1 (S.L[id]).2 (by rw[Il hl]);rw[bR] at jR;cases jR;exact za4 hh
def Zm.DG7{S:St}{w wr:Wo}(h:Zm S w wr){i j b:Nat}(hi:S.B[i]? = some b)(hj:S.B[j]? = some b):i=j:=by
 obtain⟨h1l,h1e⟩:=I8.1 hi;obtain⟨h2l,h2e⟩:=I8.1 hj;have hp:=List.pairwise_iff_getElem.1 h.wC;rcases Nat.lt_trichotomy i j with IV|heq|hgt
 ·exact Ir (h1e.trans h2e.symm) (hp i j h1l h2l IV)
 ·exact heq
 ·exact Ir (h2e.trans h1e.symm) (hp j i h2l h1l hgt)
def zmz{P:Program}{T:TypeId->Option Ty}(hT:zv1 P T){t:TypeId}{ty:Ty}(ht:T t=some ty)(rF:ty.ks.contains .other=false) :
  ∃i z,P.info? t=some i/\i.zero=some z/\z.cells=(ty.ks.map zv).toArray:=by
 obtain⟨i,z,hi,hz,_,hks⟩:=(hT.facts ht).info;refine⟨i,z,hi,hz,?_⟩
 have h0:∀(l:List Va),(l.map MS).contains .other=false->(l.map MS).map zv=l:=by
  intro l
  induction l with
  |nil=>intro _;rfl
  |cons x r ih=>
   intro hc;simp only[List.map_cons,List.contains_cons,H'] at hc;have hx:MS x≠.other:=by intro e;rw[e] at hc;simp at hc
   simp only[List.map_cons,ih hc.2,<-zku hx]
 have h1:=h0 z.cells.toList (by rw[hks];exact rF);rw[hks] at h1;rw[h1,Array.toArray_toList]
def EV.jA{S S':St}(h:zat S S'):∀{e:EV} {u:Va},EV.den S e u->EV.den S' e u
 |.v _,_,h'=>h'
 |.el _ _,_,h'=>h'
 |.loc _ _,_,⟨b,hb,h'⟩=>⟨b,h _ _ hb,h'⟩
 |.ls _ _,_,⟨b,hb,h'⟩=>⟨b,h _ _ hb,h'⟩
 |.le _ _ _,_,⟨b,hb,h'⟩=>⟨b,h _ _ hb,h'⟩
 |.no,_,h'=>h'
 |.kb _,_,h'=>h'
def Ke.mono{n:Nat}{S S':St}{ops:Array Oper}{D:Nat->Prop}{a:Act}(h:Ke n S ops D a)(hl:zat S S')(hF:S'.F=S.F)(hr:S'.r=S.r):Ke n S' ops D a:=
 ⟨⟨h.fit.size,λi s hs=>by
  rw[hF] at hs;have:=h.fit.fits i s hs
  cases s with
  |un x=>exact EV.jA hl this
  |gd r pc x=>
   intro hrr;rw[hr] at hrr;have h1:=this hrr;exact⟨λhp=>EV.jA hl (h1.1 hp),h1.2⟩⟩,λi pc x hx=>by rw[hF,hr] at hx;exact h.dn i pc x hx,λi r pc x hx=>by rw[hF] at hx;rw[hr];exact h.st i r pc x hx⟩
def zmg(cs:List Va):Nat->List Va->List Va
 |_,[]=>cs
 |k,v::r=>zmg (cs.set k v) (k+1) r
def HV:∀(vs cs:List Va) (k:Nat),k+vs.length<=cs.length->zmg cs k vs=cs.take k++vs++cs.drop (k+vs.length)
 |[],cs,k,_=>by simp[zmg]
 |v::r,cs,k,h=>by
  simp only[zmg,List.length_cons] at *;rw[HV r (cs.set k v) (k+1) (by simp;omega)];have hk:k<cs.length:=Qo;rw[List.take_succ_eq_append_getElem (by simpa using hk),List.getElem_set_self,List.take_set_of_le (I7 _),List.drop_set_of_lt Qo];simp[Nat.add_assoc,Nat.add_comm 1]
def EE:∀(vs:List Va) (w:Wo) (b k n:Nat) (cs:List Va) (t:TypeId) (fz:Nat×Nat),w.heap[b]? = some (.cells cs.toArray t fz)->
  (fY w ⟨b,k,none⟩ n vs).heap[b]? = some (.cells (zmg cs (k+n) vs).toArray t fz)
 |[],_,_,_,_,_,_,_,h=>h
 |v::r,w,b,k,n,cs,t,fz,h=>by
  simp only[fY,zmg];refine EE r _ b k (n+1) (cs.set (k+n) v) t fz ?_;rw[Addr.add_lit];simp only[World.setCell,Array.getElem?_modify,if_true,h,Option.map_some,Option.isSome_none,Bool.false_eq_true,if_false];simp
structure zv6 (C:UU) (S:St) (w:Wo) (o:Oper) (a:Act) (K:St->Wo->Prop) (N:Act->Wo->Prop):Prop where
 go:∀(S1:St) (w' Wy:Wo) (e:EV) (v:Va),Kf S S1->S1.F=S.F->S1.r=S.r->Gj S1->Zm S1 w' Wy->(C.pm->w'=w/\S1.old=S.old)->EV.den S1 e v->(∀x,o.dst=some x->x<C.n/\x<4000)->K (S1.cJ o.dst (.un e)) w'->N (a.put o.dst v) Wy
def zl0{C:UU}{S:St}{w:Wo}{o:Oper}{a:Act}{K:St->Wo->Prop}{N:Act->Wo->Prop}(hN:zv6 C S w o a K N){wr:Wo}(hw:Zm S w wr)(WU:Gj S){t:TypeId}{cells:List Va}{e:Nat->EV}(h:zeg C S w o.dst t cells e K){v:Va}(hv:EV.den { S with L:=S.L++[(t,cells)],B:=S.B++[wr.heap.size] } (e S.L.length) v):N (a.put o.dst v) (wr.alloc (.cells cells.toArray t)):=by
 obtain⟨h1,h2⟩:=YJ (h wr.heap.size hw.ext.size);refine hN.go { S with L:=S.L++[(t,cells)],B:=S.B++[wr.heap.size] } w _ (e S.L.length) v ⟨λid b hb=>?_,λid t' cs hc=>⟨cs,?_⟩,λid hi=>⟨hi,?_⟩⟩ rfl rfl ⟨by simp;have:=WU.old;omega,λid hi=>by have:=WU.lk id hi;simp;omega⟩ (hw.push WU.old t cells) (λ_=>⟨rfl,rfl⟩) hv h2 h1
 ·show (S.B++[wr.heap.size])[id]? = some b;rw[Ip (I8.1 hb).1];exact hb
 ·show (S.L++[(t,cells)])[id]? = some (t',cs);rw[Ip (I8.1 hc).1];exact hc
 ·exact Ip (WU.lk id hi)
def zl1{C:UU}{S:St}{w:Wo}{o:Oper}{a:Act}{K:St->Wo->Prop}{N:Act->Wo->Prop}(hN:zv6 C S w o a K N){wr:Wo}(hw:Zm S w wr)(WU:Gj S){t:TypeId}{cells:List Va}{e:Nat->EV}(h:NG C S w o.dst t cells e K){v:Va}(hv:EV.den S.dA (e wr.heap.size) v):N (a.put o.dst v) (wr.alloc (.cells cells.toArray t)):=by
 have IV:=hw.lt;unfold NG at h
 have qS:C.pm=false:=by
  cases hp:C.pm with
  |false=>rfl
  |true=>rw[hp] at h;exact h.elim
 rw[qS] at h;simp only[cond_false] at h;obtain⟨h1,h2⟩:=YJ (h wr.heap.size (wr.alloc (.cells cells.toArray t)) (hw.ext.alloc _) hw.ext.size (heap_alloc_new wr _) (λhb=>by have:=IV _ hb;omega));exact hN.go S.dA _ _ _ v ⟨λ_ _ h=>h,λ_ _ cs h=>⟨cs,h⟩,λid hi=>⟨hi,rfl⟩⟩ rfl rfl WU.dA (hw.age λb hb=>Below.heap_alloc wr _ b (IV b hb)) (λhp=>by rw[qS] at hp;cases hp) hv h2 h1
def Dw{z:Nat}(hz:0<z):∀{ps:List (Nat×Operand)} {k:Nat} {vs cells:List Va},M2 z ps k vs=some cells->ps.length=vs.length/\cells.length=vs.length*z/\
  ∀(pre:List Va),pre.length=k*z->∀(init:List Va),init.length=vs.length*z->
   Instr.fill (λi=>some (i*z,z)) (pre++init).toArray ((ps.map (·.1)).zip vs)=some (pre++cells).toArray
 |[],k,[],cells,h=>by
  simp only[M2,I0] at h;subst h;refine⟨rfl,Qs,λpre _ init hi=>?_⟩;have:init=[]:=List.eq_nil_of_length_eq_zero (by simpa using hi);subst this;simp[Instr.fill]
 |(i,x)::ps,k,v::vs,cells,h=>by
  simp only[M2] at h
  cases hb:(Nat.beq i k&&Nat.beq v.cells.toList.length z) with
  |false=>rw[hb] at h;cases h
  |true=>
   rw[hb] at h;simp only[cond_true] at h;simp only[A'] at hb;have e1:i=k:=Ib hb.1;have e2:v.cells.toList.length=z:=Ib hb.2;subst e1
   split at h
   ·rename_i l hl;simp only[I0] at h;subst h;obtain⟨h1,h2,h3⟩:=Dw hz hl;refine⟨by simp[h1],by simp[h2,e2,Nat.add_mul];omega,λpre hp init hi=>?_⟩;have hsz:v.cells.size=z:=by simpa using e2
    have hvl:(v::vs).length*z=z+vs.length*z:=by simp[Nat.add_mul,Nat.add_comm]
    rw[hvl] at hi
    have hc:(decide (v.cells.size≠z)||decide (i*z+v.cells.size>(pre++init).toArray.size))=false:=by
     simp only[hsz,List.size_toArray,Io,hp,hi];simp
    simp only[List.map_cons,List.zip_cons_cons,Instr.fill];rw[hc];simp only[Bool.false_eq_true,if_false]
    have Cf7:∀(l:List Va) (j:Nat) (arr:List Va),(l.zipIdx j).foldl (λcs (c,j)=>cs.setIfInBounds (i*z+j) c) arr.toArray=(zmg arr (i*z+j) l).toArray:=by
     intro l
     induction l with
     |nil=>intro j arr;rfl
     |cons c l ih=>
      intro j arr;simp only[List.zipIdx_cons,List.foldl_cons,zmg];rw[show (arr.toArray.setIfInBounds (i*z+j) c)=(arr.set (i*z+j) c).toArray by simp];exact ih (j+1) _
    have hz2:(v.cells.zipIdx.foldl (λcs (c,j)=>cs.setIfInBounds (i*z+j) c) (pre++init).toArray)=(pre++v.cells.toList++init.drop z).toArray:=by
     rw[<-Array.foldl_toList,Array.toList_zipIdx];rw[Cf7 v.cells.toList 0 (pre++init),HV _ _ _ (by simp[hp,hi,hsz])];have t1:(pre++init).take (i*z)=pre:=by rw[<-hp];exact List.take_left
     have t2:(pre++init).drop (i*z+z)=init.drop z:=by rw[<-hp,List.drop_append];simp
     simp only[Nat.add_zero,e2,t1,t2]
    rw[hz2];have:=h3 (pre++v.cells.toList) (by simp[hp,hsz,Nat.add_mul]) (init.drop z) (by simp[hi])
    simpa using this
   ·cases h
 |[],_,_::_,_,h=>by simp[M2] at h
 |(_,_)::_,_,[],_,h=>by simp[M2] at h
def zfd{P:Program}(t:TypeId)(v:Va)(w:Wo):(newVar t v).run P w=.ok ⟨w.heap.size,0,none⟩ (w.alloc (.cells v.cells t)):=by
 simp[newVar,newRow]
def Zm.BM6{S:St}{w wr:Wo}(h:Zm S w wr){id b off:Nat}{t:TypeId}{cs vs:List Va}(hl:S.L[id]? = some (t,cs))(hb:S.B[id]? = some b)(hlen:off+vs.length<=cs.length)(hold:S.old<=S.B.length) :
  Zm { S with L:=S.L.set id (t,cs.take off++vs++cs.drop (off+vs.length)) } w (fY wr ⟨b,off,none⟩ 0 vs):=by
 obtain⟨b',jR,hh⟩:=h.loc id t cs hl;rw[hb] at jR;cases jR;have bR:id<S.L.length:=(I8.1 hl).1
 have Ao5:b∈S.bs\/w.heap.size<=b:=by
  by_cases ho:S.old<=id
  ·exact .inr (h.fresh id b ho hb)
  ·refine .inl ?_;have:(S.B.take S.old)[id]? = some b:=by rw[List.getElem?_take,C' Qo];exact hb
   exact List.mem_of_getElem? this
 obtain⟨r1,r2,r3⟩:=HX vs wr ⟨b,off,none⟩ 0;refine⟨⟨r1.trans h.ext.os,r2.trans h.ext.tape,r3.trans h.ext.output,by rw[PV];exact h.ext.size,λk hk hnb=>?_⟩,λid' t' vD hl'=>?_,by simp[h.len],h.wC,h.fresh⟩
 ·refine(OO vs wr ⟨b,off,none⟩ 0 k ?_).trans (h.ext.block k hk hnb);rintro rfl;rcases Ao5 with hm|hm
  ·exact hnb hm
  ·exact Nat.lt_irrefl _ (Nat.lt_of_lt_of_le hk hm)
 ·by_cases he:id=id'
  ·subst he;simp only[List.getElem?_set_self bR,I0,Prod.mk.injEq] at hl';obtain⟨rfl,rfl⟩:=hl';refine⟨b,hb,?_⟩;rw[EE vs wr b off 0 cs _ _ hh,Nat.add_zero,HV _ _ _ hlen]
  ·have hl2:S.L[id']? = some (t',vD):=by rw[<-hl'];exact(List.getElem?_set_ne he).symm
   obtain⟨b2,cH,hh2⟩:=h.loc id' t' vD hl2;refine⟨b2,cH,?_⟩
   rw[OO vs wr ⟨b,off,none⟩ 0 b2 (by
    show b2≠b;rintro rfl;exact he (h.DG7 hb cH))]
   exact hh2
def Zm.BM7{S:St}{w wr:Wo}(h:Zm S w wr){a:Addr}{n:Nat}{vs:List Va}(hb:a.block∉S.bs)(IV:a.block<w.heap.size):Zm S (fY w a n vs) (fY wr a n vs):=by
 obtain⟨r1,r2,r3⟩:=HX vs wr a n;obtain⟨q1,q2,q3⟩:=HX vs w a n;refine⟨⟨by rw[r1,q1];exact h.ext.os,by rw[r2,q2];exact h.ext.tape,by rw[r3,q3];exact h.ext.output,by rw[PV,PV];exact h.ext.size,λk hk hnb=>?_⟩,λid t cs hl=>?_,h.len,h.wC,λid b ho bR=>by rw[PV];exact h.fresh id b ho bR⟩
 ·rw[PV] at hk;have he:=h.ext.block k hk hnb
  by_cases hka:k=a.block
  ·subst hka;exact zjx vs wr w a n he
  ·rw[OO vs wr a n k hka,OO vs w a n k hka];exact he
 ·obtain⟨b,bR,hh⟩:=h.loc id t cs hl;refine⟨b,bR,?_⟩;rw[OO vs wr a n b]
  ·exact hh
  ·rintro rfl
   by_cases ho:S.old<=id
   ·have:=h.fresh id _ ho bR;omega
   ·refine hb (List.mem_of_getElem? (i:=id) ?_);show (S.B.take S.old)[id]? = _;rw[List.getElem?_take,C' Qo];exact bR
def Xd.run{P:Program}{S:St}{w wr:Wo}(h:Zm S w wr){ob:OA}{n:Nat}{vs:List Va}(hx:Xd S.bs w ob n vs.length)(B20:0<vs.length)(h1:Zg vs){a:Addr}(ho:ob=some a) :
  (storeCells (a.add n) vs 0).run P wr=.ok () (fY wr (a.add n) 0 vs)/\a.block∉S.bs/\a.block<w.heap.size:=by
 obtain⟨a',ha,hb,hc⟩:=hx;rw[ho] at ha;cases ha;obtain⟨⟨u,hu⟩,_⟩:=hc n (I7 _) Qo;have IV:a.block<w.heap.size:=by have:=World.block_lt_of_cell? w _ hu;rwa[Zz] at this
 refine⟨Vz vs wr (a.add n) 0 (JQ h1) λj _ hj=>?_,hb,IV⟩;obtain⟨⟨u',hu'⟩,hf'⟩:=hc (n+j) Qo Qo;have he:=h.ext.block a.block IV hb;rw[JF];refine⟨⟨u',?_⟩,?_⟩
 ·rw[<-hu'];exact World.cell?_of_block (w:=w) (by rw[Zz];exact he)
 ·rw[<-hf'];exact frozen?_of_block (by rw[Zz];exact he)
def zfn:∀(vs:List Va) (w:Wo) (a:Addr) (n k:Nat),fY w (a.add n) k vs=fY w a (n+k) vs
 |[],_,_,_,_=>rfl
 |v::r,w,a,n,k=>by
  simp only[fY,JF];exact zfn r _ a n (k+1)
def zmi{P:Program}{T:TypeId->Option Ty}(hT:zv1 P T){t:TypeId}{ty:Ty}(ht:T t=some ty){a:Addr}{v:Va}(hl:v.cells.toList.length=ty.ks.length){w w':Wo}(h:(storeCells a v.cells.toList).run P w=.ok () w'):(storeVar t a v).run P w=.ok () w':=by
 obtain⟨i,z,hi,_,hsz,_⟩:=(hT.facts ht).info;have hn:¬v.cells.size≠ty.ks.length:=by simpa using hl
 simp only[storeVar,Sem.run_bind,Yp hi,Result.andThen_ok,hsz,Sem.run_ite,B' hn,Sem.run_pure,h]
def zu9(parts:Array (Nat×Operand))(f:Operand->Va):(parts.map λ(i,x)=>(i,f x)).toList=(parts.toList.map (·.1)).zip ((parts.toList.map (·.2)).map f):=by
 have:(parts.map λ(i,x)=>(i,f x)).toList=parts.toList.map λ(i,x)=>(i,f x):=Qs
 rw[this];generalize parts.toList=q
 induction q with
 |nil=>rfl
 |cons y q ih=>simp[ih]
theorem zee{C:UU}{S:St}{w:Wo}{o:Oper}{a:Act}{K:St->Wo->Prop}{N:Act->Wo->Prop}(hN:zv6 C S w o a K N){wr:Wo}(hw:Zm S w wr)(WU:Gj S){t:TypeId}{cells:List Va}{e1 e2:Nat->EV}{v:Va}(h:match o.dst with
   |some d=>bif Ky C.vis d then NG C S w o.dst t cells e1 K else zeg C S w o.dst t cells e2 K
   |none=>False)(h1:EV.den S.dA (e1 wr.heap.size) v)(h2:EV.den { S with L:=S.L++[(t,cells)],B:=S.B++[wr.heap.size] } (e2 S.L.length) v):N (a.put o.dst v) (wr.alloc (.cells cells.toArray t)):=by
 split at h
 ·rename_i d hd
  cases hm:Ky C.vis d with
  |true=>
   rw[hm] at h;simp only[cond_true] at h;exact zl1 hN hw WU h h1
  |false=>
   rw[hm] at h;simp only[cond_false] at h;exact zl0 hN hw WU h h2
 ·exact h.elim
def z4j{S:St}{w wr:Wo}(hw:Zm S w wr)(b:Nat):(S.B++[b])[S.L.length]? = some b:=by rw[hw.len];simp
theorem Kb{Q:Exit->Act->Wo->Prop}{C:UU}{S:St}{w wr:Wo}{a:Act}{K:St->Wo->Prop}{N:Act->Wo->Prop}{o:Oper}(hdn:o.dst=none)(hN:zv6 C S w o a K N)(hw:Zm S w wr)(WU:Gj S)(hT:zv1 C.P C.T){t:TypeId}{x y:Operand}(ho:o.op=.store t x y){ty:Ty}(ht:C.T t=some ty){e:EV}(hx:EV.den S e (a.eval x)){v:Va}(hy:a.eval y=v)(h:match e with
   |.loc id off=>match S.L[id]? with
    |some (t',cs)=>bif Nat.beq v.cells.toList.length ty.ks.length&&Nat.ble (off+v.cells.toList.length) cs.length&&Zg v.cells.toList && !Ky S.lk id then
      K { S with L:=S.L.set id (t',cs.take off++v.cells.toList++cs.drop (off+v.cells.toList.length)) } w
     else False
    |none=>False
   |.le id i m=>match S.L[id]? with
    |some (t',cs)=>bif Nat.beq v.cells.toList.length ty.ks.length&&Nat.beq v.cells.toList.length 1&&Zg [v] && !Ky S.lk id then
      (i.toNat+m<cs.length)/\znk (cs.map z63) λvs=>cs.set (i.toNat+m) v=vs/\K { S with L:=S.L.set id (t',vs) } w
     else False
    |none=>False
   |.el ob n=>bif Nat.beq v.cells.toList.length ty.ks.length&&Zg v.cells.toList && !C.pm&&Nat.blt 0 ty.ks.length then
     Xd S.bs w ob n v.cells.toList.length/\K S (Rx w ob n v.cells.toList)
    else False
   |.v (.pointer ob)=>bif Nat.beq v.cells.toList.length ty.ks.length&&Zg v.cells.toList && !C.pm&&Nat.blt 0 ty.ks.length then
     Xd S.bs w ob 0 v.cells.toList.length/\K S (Rx w ob 0 v.cells.toList)
    else False
   |_=>False):o.uponIn (PS C.rd) 0 C.P a N Q ((execOp a.eval o).run C.P wr):=by
 have hgo:∀(S1:St) (w' Wy:Wo),Kf S S1->S1.F=S.F->S1.r=S.r->Gj S1->Zm S1 w' Wy->(C.pm->w'=w/\S1.old=S.old)->K S1 w'->N (a.put o.dst undef) Wy:=λS1 w' Wy h1 h2 h3 h4 h5 h7 h6=>
  hN.go S1 w' Wy (.v undef) undef h1 h2 h3 h4 h5 h7 rfl (λx hx=>by rw[hdn] at hx;cases hx) (by rw[hdn];exact h6)
 have Wn:∀{ad:Addr} {w':Wo},a.eval x=.pointer (some ad)->v.cells.toList.length=ty.ks.length->(storeCells ad v.cells.toList).run C.P wr=.ok () w'->(execOp a.eval o).run C.P wr=.ok .skip w':=λ{ad w'} h1 h2 h3=>by
  have:=zmi hT ht h2 h3;simp[execOp,ho,h1,hy,Instr.storeAt,Instr.sureAddr,this]
 have T':∀{id:Nat} {t':TypeId} {cs r:List Va},S.L[id]? = some (t',cs)->Ky S.lk id=false->Kf S { S with L:=S.L.set id (t',r) }:=λ{id t' cs r} hl hm=>
  ⟨λ_ _ h=>h,λid' t2 cs2 h2=>by
   show ∃vD,(S.L.set id (t',r))[id']? = some (t2,vD)
   by_cases he:id=id'
   ·subst he;rw[hl] at h2;cases h2;exact⟨r,List.getElem?_set_self (I8.1 hl).1⟩
   ·exact⟨cs2,by rw[List.getElem?_set_ne he];exact h2⟩,λid' hi=>⟨hi,by
   show (S.L.set id (t',r))[id']? = _;exact List.getElem?_set_ne (by rintro rfl;exact KY hm hi)⟩⟩
 cases e with
 |loc id off=>
  obtain⟨b,hb,hxp⟩:=hx
  dsimp only at h
  split at h
  ·rename_i t' cs hl
   cases hc:(Nat.beq v.cells.toList.length ty.ks.length&&Nat.ble (off+v.cells.toList.length) cs.length&&Zg v.cells.toList && !Ky S.lk id) with
   |false=>rw[hc] at h;exact h.elim
   |true=>
    rw[hc] at h;simp only[cond_true] at h;simp only[A',ID] at hc;obtain⟨⟨⟨c1,c2⟩,c3⟩,c4⟩:=hc;have c1:=Ib c1;have c2:=Ik c2
    have hrc:=Vz (P:=C.P) v.cells.toList wr ⟨b,off,none⟩ 0 (JQ c3) (λj _ hj=>by
     rw[Addr.add_lit,Hb hw hl hb];obtain⟨b',jR,hh⟩:=hw.loc id t' cs hl;rw[hb] at jR;cases jR;have IV:off+j<cs.length:=Qo;refine⟨⟨cs[off+j],Il IV⟩,?_⟩;simp[World.frozen?,hh])
    rw[Wn hxp c1 hrc];exact hgo _ _ _ (T' hl c4) rfl rfl ⟨WU.old,λid hi=>by simpa using WU.lk id hi⟩ (hw.BM6 hl hb c2 WU.old) (λ_=>⟨rfl,rfl⟩) h
  ·exact h.elim
 |le id i m=>
  obtain⟨b,hb,h0,hxp⟩:=hx
  dsimp only at h
  split at h
  ·rename_i t' cs hl
   cases hc:(Nat.beq v.cells.toList.length ty.ks.length&&Nat.beq v.cells.toList.length 1&&Zg [v] && !Ky S.lk id) with
   |false=>rw[hc] at h;exact h.elim
   |true=>
    rw[hc] at h;simp only[cond_true] at h;simp only[A',ID] at hc;obtain⟨⟨⟨c1,c2⟩,c3⟩,c4⟩:=hc;have c1:=Ib c1;have c2:=Ib c2;obtain⟨IV,h⟩:=h;obtain⟨_,_,rfl,h⟩:=P5 h
    have hvc:v.cells.toList=[v]:=by
     cases v with
     |agg cs=>cases c3
     |_=>rfl
    rw[<-hvc] at c3
    have hrc:=Vz (P:=C.P) v.cells.toList wr ⟨b,i.toNat+m,none⟩ 0 (JQ c3) (λj _ hj=>by
     rw[Addr.add_lit,Hb hw hl hb];obtain⟨b',jR,hh⟩:=hw.loc id t' cs hl;rw[hb] at jR;cases jR;have IV:i.toNat+m+j<cs.length:=Qo;refine⟨⟨cs[i.toNat+m+j],Il IV⟩,?_⟩;simp[World.frozen?,hh])
    rw[Wn hxp c1 hrc];have vM:=hw.BM6 (vs:=v.cells.toList) hl hb (off:=i.toNat+m) Qo WU.old
    have he:cs.take (i.toNat+m)++v.cells.toList++cs.drop (i.toNat+m+v.cells.toList.length)=cs.set (i.toNat+m) v:=by
     rw[<-HV _ _ _ Qo,hvc];rfl
    rw[he] at vM;exact hgo _ _ _ (T' hl c4) rfl rfl ⟨WU.old,λid hi=>by simpa using WU.lk id hi⟩ vM (λ_=>⟨rfl,rfl⟩) h
  ·exact h.elim
 |el ob n=>
  obtain⟨ad,hob,hxp⟩:=hx
  dsimp only at h
  cases hc:(Nat.beq v.cells.toList.length ty.ks.length&&Zg v.cells.toList && !C.pm&&Nat.blt 0 ty.ks.length) with
  |false=>rw[hc] at h;exact h.elim
  |true=>
   rw[hc] at h;simp only[cond_true] at h;simp only[A',ID] at hc;obtain⟨⟨⟨c1,c2⟩,c3⟩,c4⟩:=hc;have c1:=Ib c1;have c4:0<ty.ks.length:=Ik c4;obtain⟨h1,h2⟩:=h;obtain⟨hr,hbs,IV⟩:=h1.run (P:=C.P) hw Qo c2 hob;rw[Wn hxp c1 hr,zfn,Nat.add_zero];subst hob;exact hgo S _ _ (Kf.refl S) rfl rfl WU (hw.BM7 hbs IV) (λhp=>by rw[hp] at c3;cases c3) h2
 |v x0=>
  cases x0 with
  |pointer ob=>
    simp only[EV.den] at hx
    dsimp only at h
    cases hc:(Nat.beq v.cells.toList.length ty.ks.length&&Zg v.cells.toList && !C.pm&&Nat.blt 0 ty.ks.length) with
    |false=>rw[hc] at h;exact h.elim
    |true=>
     rw[hc] at h;simp only[cond_true] at h;simp only[A',ID] at hc;obtain⟨⟨⟨c1,c2⟩,c3⟩,c4⟩:=hc;have c1:=Ib c1;have c4:0<ty.ks.length:=Ik c4;obtain⟨h1,h2⟩:=h;obtain⟨ad,hob,_⟩:=id h1;obtain⟨hr,hbs,IV⟩:=h1.run (P:=C.P) hw Qo c2 hob;rw[Addr.add_zero'] at hr;rw[Wn (by rw[hx,hob]) c1 hr];subst hob;exact hgo S _ _ (Kf.refl S) rfl rfl WU (hw.BM7 hbs IV) (λhp=>by rw[hp] at c3;cases c3) h2
  |_=>exact h.elim
 |ls id len=>exact h.elim
 |no=>exact h.elim
 |kb x=>exact h.elim
def zuf{C:UU}(hT:zv1 C.P C.T)(RI:∀f ks,zps C.ef f=some ks->OZ C.P f){S:St}{w wr:Wo}{ops:Array Oper}{D:Nat->Prop}{o:Oper}{a:Act}{pc:List (Nat×Bool)}{K:St->Wo->Prop}{N:Act->Wo->Prop}{Q:Exit->Act->Wo->Prop}(hf:Ke C.n S ops D a)(hw:Zm S w wr)(WU:Gj S)(hp:EA ops a pc)(hN:zv6 C S w o a K N)(h:z5c C S w o pc K)(hnd:∀t x y,o.op=.store t x y->o.dst=none):o.wpIn (PS C.rd) 0 C.P a wr N Q:=by
 refine zrt (λc hc=>by unfold z5c at h;simp[hc,zma] at h) ?_;unfold z5c at h
 split at h
 case h_1 t ho=>
  split at h
  ·rename_i ty ht
   cases hc:ty.ks.contains .other with
   |true=>rw[hc] at h;exact h.elim
   |false=>
    rw[hc] at h;simp only[cond_false] at h;obtain⟨i,z,hi,hz,hzc⟩:=zmz hT ht hc
    have Wn:(execOp a.eval o).run C.P wr=.ok (.value (.pointer (some ⟨wr.heap.size,0,none⟩))) (wr.alloc (.cells (ty.ks.map zv).toArray t)):=by
     simp[execOp,ho,Instr.alloc,zeroValue,JR hi,hz,zfd,hzc]
    rw[Wn];simp only[Oper.uponIn];exact zee hN hw WU h ⟨_,rfl,by rw[Addr.add_zero']⟩ ⟨wr.heap.size,z4j hw _,rfl⟩
  ·exact h.elim
 case h_2 t x ho=>
  split at h
  ·rename_i v hv;have hv':=QW hf.fit hp hv
   have Wn:(execOp a.eval o).run C.P wr=.ok (.value (.pointer (some ⟨wr.heap.size,0,none⟩))) (wr.alloc (.cells v.cells.toList.toArray t)):=by
    simp[execOp,ho,Instr.box,zfd,hv']
   rw[Wn];simp only[Oper.uponIn];exact zee hN hw WU h ⟨_,rfl,by rw[Addr.add_zero']⟩ ⟨wr.heap.size,z4j hw _,rfl⟩
  ·exact h.elim
 case h_3 t n parts ho=>
  split at h
  ·rename_i ag ks e z vs ht hvs;have hv':=XR hf.fit hp hvs
   split at h
   ·rename_i ety cells hte C60
    cases hb:(Nat.beq n vs.length&&Nat.blt 0 z&&Nat.blt 0 n&&Nat.blt (n*z) 16777216) with
    |false=>rw[hb] at h;exact h.elim
    |true=>
     rw[hb] at h;simp only[cond_true] at h;simp only[A'] at hb;obtain⟨⟨⟨b1,b2⟩,b3⟩,b4⟩:=hb;have b1:=Ib b1;have b2:0<z:=Ik b2;have b3:0<n:=Ik b3;have b4:n*z<16777216:=Ik b4;obtain⟨d,hu,_,wO⟩:=(hT.facts ht).desc;obtain⟨inf,rfl,wN,C83⟩:=ML wO.symm;obtain⟨i2,z2,hi2,hz2,Dk5,_⟩:=(hT.facts hte).info;rw[wN] at hi2;cases hi2;obtain⟨_,hcl,Ac6⟩:=Dw b2 C60;have hf0:=Ac6 [] Qs (((Array.range (n*z)).map (z2.cells[· % z2.cells.size]!)).toList) (by simp[b1]);simp only[List.nil_append,Array.toArray_toList] at hf0;have AR1:=zu9 parts a.eval;rw[hv'] at AR1
     have hn0:¬n*z=0:=by
      have:=Nat.mul_pos b3 b2;omega
     have C57:¬n*z>2 ^ 24:=by
      have:(2:Nat) ^ 24=16777216:=rfl;omega
     have Wn:(execOp a.eval o).run C.P wr=.ok (.value (.slice (some ⟨wr.heap.size,0,none⟩) n n)) (wr.alloc (.cells cells.toArray e)):=by
      simp only[execOp,ho,Instr.buildSlice,Sem.run_bind,run_underlying hu,Result.andThen_ok,Yp wN,C83,Sem.run_ite,B' C57,B' hn0,zeroValue,JR wN,hz2,Sem.run_pure,AR1,hf0,newRow,run_newObj];rfl
     rw[Wn];simp only[Oper.uponIn];exact zee hN hw WU h rfl ⟨wr.heap.size,z4j hw _,rfl⟩
   ·exact h.elim
  ·exact h.elim
 case h_4 t x y ho=>
  have hdn:=hnd t x y ho
  split at h
  ·rename_i ty id off v ht hx hy;exact Kb hdn hN hw WU hT ho ht (Ye hf.fit hp hx) (QW hf.fit hp hy) h
  ·rename_i ty id i m v ht hx hy;exact Kb hdn hN hw WU hT ho ht (Ye hf.fit hp hx) (QW hf.fit hp hy) h
  ·rename_i ty ob n v ht hx hy;exact Kb hdn hN hw WU hT ho ht (Ye hf.fit hp hx) (QW hf.fit hp hy) h
  ·rename_i ty ob v ht hx hy;exact Kb hdn hN hw WU hT ho ht (Ye hf.fit hp hx) (QW hf.fit hp hy) h
  ·exact h.elim
 case h_5 f args ts ho=>
  split at h
  ·rename_i rks vs hef hvs;have hv:=XR hf.fit hp hvs;have ea:args.map a.eval=vs.toArray:=by rw[<-hv,<-Array.toList_map,Array.toArray_toList]
   have qS:C.pm=false:=by
    cases hp:C.pm with
    |false=>rfl
    |true=>rw[hp] at h;exact h.elim
   rw[qS] at h;simp only[cond_false] at h;rw[zow (RI f rks hef) args ts a ho,ea];simp only[Oper.uponIn];refine⟨λhx=>(by simp[PS,Fence.wide] at hx),KL ((Jt.out hw (h wr hw.ext hw.lt)).mono λe w' he=>?_)⟩;obtain⟨r,rfl,hk,hp⟩:=UB he;obtain⟨h1,h2⟩:=YJ hp;exact hN.go S.dA _ _ (.v r) r ⟨λ_ _ h=>h,λ_ _ cs h=>⟨cs,h⟩,λid hi=>⟨hi,rfl⟩⟩ rfl rfl WU.dA (hw.age hk) (λhp=>by rw[qS] at hp;cases hp) rfl h2 h1
  ·exact h.elim
 case h_6 bi args ts ho=>
  split at h
  ·rename_i vs hvs;have hv:=XR hf.fit hp hvs;have ea:args.map a.eval=vs.toArray:=by rw[<-hv,<-Array.toList_map,Array.toArray_toList]
   have qS:C.pm=false:=by
    cases hp:C.pm with
    |false=>rfl
    |true=>rw[hp] at h;exact h.elim
   rw[qS] at h;simp only[cond_false] at h;obtain⟨r,w',Wn,hk,hp⟩:=UB (Jt.out hw (h wr hw.ext hw.lt))
   have hr2:(execOp a.eval o).run C.P wr=.ok (.value r) w':=by
    rw[<-Wn];simp only[execOp,ho,resolve,Sem.run_bind,Sem.run_pure,Result.andThen_ok,invoke,ea];rfl
   rw[hr2];obtain⟨h1,h2⟩:=YJ hp;exact hN.go S.dA _ _ (.v r) r ⟨λ_ _ h=>h,λ_ _ cs h=>⟨cs,h⟩,λid hi=>⟨hi,rfl⟩⟩ rfl rfl WU.dA (hw.age hk) (λhp=>by rw[qS] at hp;cases hp) rfl h2 h1
  ·exact h.elim
 case h_7 t args ts ho=>
  split at h
  ·rename_i v vs rks hv0 hvs hrk;have hv1:=QW hf.fit hp hv0;have hv:=XR hf.fit hp hvs;have ea:args.map a.eval=vs.toArray:=by rw[<-hv,<-Array.toList_map,Array.toArray_toList]
   have qS:C.pm=false:=by
    cases hp:C.pm with
    |false=>rfl
    |true=>rw[hp] at h;exact h.elim
   rw[qS] at h;simp only[cond_false] at h
   have hgo:∀(e:Ending) (w':Wo),(Dy rks λr=>e=.returned r/\Q9 S.B wr w'/\EB C S.dA o.dst (.un (.v r)) λS'=>K S' w')->(match e with
     |.returned v=>N (a.put o.dst v) w'
     |.panicked chain=>Q (.panic chain) a w'
     |.outgrown=>LetsOut Q):=λe w' he=>by
    obtain⟨r,rfl,hk,hp⟩:=UB he;obtain⟨h1,h2⟩:=YJ hp;exact hN.go S.dA _ _ (.v r) r ⟨λ_ _ h=>h,λ_ _ cs h=>⟨cs,h⟩,λid hi=>⟨hi,rfl⟩⟩ rfl rfl WU.dA (hw.age hk) (λhp=>by rw[qS] at hp;cases hp) rfl h2 h1
   rcases Jt.out hw (h wr hw.ext hw.lt) with ⟨f,as0,Wn,hc⟩|⟨l,f,tmps,asg,body,Wn,hc⟩
   ·have hr2:(execOp a.eval o).run C.P wr=.ok (.enter f as0) wr:=by
     rw[<-Wn];simp only[execOp,ho,resolve,zm9,ea,hv1]
    rw[hr2];simp only[Oper.uponIn];exact⟨λhx=>(by simp[PS,Fence.wide] at hx),KL (hc.mono λe w' he=>by have:=hgo e w' he;cases e <;> exact this)⟩
   ·have hr2:(execOp a.eval o).run C.P wr=.ok (.round l f tmps asg body) wr:=by
     rw[<-Wn];simp only[execOp,ho,resolve,zm9,ea,hv1]
    rw[hr2];simp only[Oper.uponIn];exact⟨λhx=>(by simp[PS,Fence.wide] at hx),ziv (hc.mono λe w' he=>by have:=hgo e w' he;cases e <;> exact this)⟩
  ·exact h.elim
 case h_8 rc m args ts ho=>
  split at h
  ·rename_i v vs rks hv0 hvs hrk;have hv1:=QW hf.fit hp hv0;have hv:=XR hf.fit hp hvs;have ea:args.map a.eval=vs.toArray:=by rw[<-hv,<-Array.toList_map,Array.toArray_toList]
   have qS:C.pm=false:=by
    cases hp:C.pm with
    |false=>rfl
    |true=>rw[hp] at h;exact h.elim
   rw[qS] at h;simp only[cond_false] at h;obtain⟨f,as0,Wn,hc⟩:=Jt.out hw (h wr hw.ext hw.lt)
   have hr2:(execOp a.eval o).run C.P wr=.ok (.enter f as0) wr:=by
    rw[<-Wn];simp only[execOp,ho,resolve,Sem.run_bind,Sem.run_pure,Result.andThen_ok,zck,ea,hv1]
   rw[hr2];simp only[Oper.uponIn];refine⟨λhx=>(by simp[PS,Fence.wide] at hx),KL (hc.mono λe w' he=>?_)⟩;obtain⟨r,rfl,hk,hp⟩:=UB he;obtain⟨h1,h2⟩:=YJ hp;exact hN.go S.dA _ _ (.v r) r ⟨λ_ _ h=>h,λ_ _ cs h=>⟨cs,h⟩,λid hi=>⟨hi,rfl⟩⟩ rfl rfl WU.dA (hw.age hk) (λhp=>by rw[qS] at hp;cases hp) rfl h2 h1
  ·exact h.elim
 case h_9 it ho=>
  split at h
  ·rename_i ob hx;have fT:=QW hf.fit hp hx
   have qS:C.pm=false:=by
    cases hp:C.pm with
    |false=>rfl
    |true=>rw[hp] at h;exact h.elim
   rw[qS] at h;simp only[cond_false] at h;obtain⟨b,s,pos,rfl,hb,hh,h1,h2⟩:=h wr hw.ext hw.lt;have hg:(getObj b).run C.P wr=.ok (.stringIter s pos) wr:=by simp[getObj,Sem.run,hh]
   by_cases IV:pos<s.size
   ·have T':(setObj b (.stringIter s (pos+(Utf8.decode s pos).2))).run C.P wr=.ok () (Mo wr b s (pos+(Utf8.decode s pos).2)):=by
     simp[setObj,Sem.run,hh,Mo]
    have Wn:(execOp a.eval o).run C.P wr=.ok (.value (.tuple #[.bool true,.int .i64 pos,.int .i32 (Utf8.decode s pos).1])) (Mo wr b s (pos+(Utf8.decode s pos).2)):=by
     simp[execOp,ho,fT,Instr.next,hg,IV,T',goInt]
    rw[Wn];simp only[Oper.uponIn];obtain⟨g1,g2⟩:=YJ (h2 IV)
    have hk:Q9 S.B wr (Mo wr b s (pos+(Utf8.decode s pos).2)):=λx hx=>by
     have eO:b≠x:=λe=>hb (e▸hx)
     simp only[Mo];rw[Array.getElem?_setIfInBounds_ne eO]
    exact hN.go S.dA _ _ (.v _) _ ⟨λ_ _ h=>h,λ_ _ cs h=>⟨cs,h⟩,λid hi=>⟨hi,rfl⟩⟩ rfl rfl WU.dA (hw.age hk) (λhp=>by rw[qS] at hp;cases hp) rfl g2 g1
   ·have Wn:(execOp a.eval o).run C.P wr=.ok (.value (.tuple #[.bool false])) wr:=by
     simp[execOp,ho,fT,Instr.next,hg,IV]
    rw[Wn];simp only[Oper.uponIn];obtain⟨g1,g2⟩:=YJ (h1 (Nat.le_of_not_lt IV));exact hN.go S.dA _ _ (.v _) _ ⟨λ_ _ h=>h,λ_ _ cs h=>⟨cs,h⟩,λid hi=>⟨hi,rfl⟩⟩ rfl rfl WU.dA (hw.age λ_ _=>rfl) (λhp=>by rw[qS] at hp;cases hp) rfl g2 g1
  ·exact h.elim
 case h_10=>
  split at h
  ·rename_i xs rk u f hpr
   split at h
   ·rename_i vs hvs;have hv:=XR hf.fit hp hvs
    have qS:C.pm=false:=by
     cases hp:C.pm with
     |false=>rfl
     |true=>rw[hp] at h;exact h.elim
    rw[qS] at h;simp only[cond_false] at h;have h:=h wr hw.ext hw.lt
    cases u with
    |true=>
     simp only[cond_true] at h
     split at h
     ·rename_i hd;obtain⟨w',hr,hk,hK⟩:=h;rw[<-hv] at hr;rw[ze8 hpr a.eval hr];simp only[if_true,Oper.uponIn];exact hN.go S.dA _ _ (.v undef) undef ⟨λ_ _ h=>h,λ_ _ cs h=>⟨cs,h⟩,λid hi=>⟨hi,rfl⟩⟩ rfl rfl WU.dA (hw.age hk) (λhp=>by rw[qS] at hp;cases hp) rfl (λx hx=>by rw[hd] at hx;cases hx) (by rw[hd];exact hK)
     ·exact h.elim
    |false=>
     simp only[cond_false] at h;obtain⟨r,w',hr,hk,hp⟩:=UB h;rw[<-hv] at hr;rw[ze8 hpr a.eval hr];simp only[Bool.false_eq_true,if_false,Oper.uponIn];obtain⟨h1,h2⟩:=YJ hp;exact hN.go S.dA _ _ (.v r) r ⟨λ_ _ h=>h,λ_ _ cs h=>⟨cs,h⟩,λid hi=>⟨hi,rfl⟩⟩ rfl rfl WU.dA (hw.age hk) (λhp=>by rw[qS] at hp;cases hp) rfl h2 h1
   ·exact h.elim
  ·exact h.elim
def zp2{G:Prop->Prop}{d:TD}{op:BinOp}{a b:Va}{K:Va->Prop}(h:znh G d op a b K):∃v,K v:=by
 have kk:∀{p:Prop} [Decidable p] {A:Prop},(bif decide p then A else False)->A:=λ{p _ A} h=>by
  by_cases hk:p
  ·simpa[hk] using h
  ·simp[hk] at h
 unfold znh at h
 split at h <;> first
  |exact h.elim
  |exact⟨_,h⟩
  |exact⟨_,h.2⟩
  |exact⟨_,(kk h).2⟩
  |exact⟨_,kk h⟩
def zl9{a b:Operand}{cb:Bool}{x y:Va}{K:Va->Prop}(h:B6 a b cb x y K):∃v,K v:=by
 unfold B6 at h
 split at h <;> first|exact h.elim|exact⟨_,h⟩
def znj{C:UU}{S:St}{w:Wo}{ops:Array Oper}{o:Oper}{pc:List (Nat×Bool)}{K:EV->MY->Prop}(h:z5y C S w ops o pc K):∃e fact,K e fact:=by
 unfold z5y at h
 split at h
 case h_3=>
  split at h
  ·split at h
   ·split at h
    ·exact⟨_,_,h⟩
    ·exact h.elim
   ·split at h
    ·exact⟨_,_,h⟩
    ·exact h.elim
   ·split at h
    ·obtain⟨v,h⟩:=zl9 h;exact⟨_,_,h⟩
    ·exact h.elim
  ·exact h.elim
 case h_5=>
  split at h
  ·rename_i ty u v ht hu hv
   cases hb:z6u ty.d _ C.wr with
   |true=>
    rw[hb] at h;simp only[cond_true] at h;obtain⟨v,h⟩:=K3 h;exact⟨_,_,h.2⟩
   |false=>
    rw[hb] at h;simp only[cond_false] at h;obtain⟨v,h⟩:=zp2 h;exact⟨_,_,h⟩
  ·exact h.elim
 case h_14=>
  (repeat' split at h) <;> first
   |exact h.elim
   |(obtain⟨l,_,h⟩:=ND h;obtain⟨u,_,h⟩:=Ej h;exact⟨_,_,h.2⟩)
 case h_19=>
  split at h
  ·obtain⟨l,_,h⟩:=P5 h
   split at h
   ·exact⟨_,_,h.2⟩
   ·exact h.elim
  ·rename_i ty ob ht hx
   cases hk:ty.ks.isEmpty with
   |true=>rw[hk] at h;exact h.elim
   |false=>
    rw[hk] at h;obtain⟨l,_,h⟩:=P5 h
    split at h
    ·exact⟨_,_,h.2⟩
    ·exact h.elim
  ·(repeat' split at h) <;> first
    |exact h.elim
    |exact⟨_,_,h⟩
  ·(repeat' split at h) <;> first
    |exact h.elim
    |(obtain⟨v,h⟩:=K3 h;exact⟨_,_,h.2⟩)
  ·exact h.elim
 case h_21=>
  (repeat' split at h) <;> first
   |exact h.elim
   |(obtain⟨v,h⟩:=UB h;exact⟨_,_,h.2⟩)
 case h_16=>
  split at h
  ·rename_i ty v ht hx
   cases ho':ty.d.Aa6 with
   |true=>rw[ho'] at h;exact h.elim
   |false=>rw[ho'] at h;exact⟨_,_,h⟩
  ·exact h.elim
 case h_17=>
  (repeat' split at h) <;> first
   |exact h.elim
   |(obtain⟨v,h⟩:=UB h;exact⟨_,_,h.2⟩)
 all_goals
  (repeat' split at h) <;> first
   |exact h.elim
   |exact⟨_,_,h⟩
   |exact⟨_,_,h.2⟩
   |(obtain⟨v,h⟩:=K3 h;exact⟨_,_,h.2⟩)
def E5(o:Oper):Bool:=
 match o.op,o.dst with
 |.store _ _ _,some _=>true
 |.defer _,_=>true
 |_,_=>false
def z32(dn:Nat->Bool)(o:Oper):Bool:=
 match o.guard with
 |some (j,_)=>dn j
 |none=>true
def zsf(S:St)(ops:Array Oper)(o:Oper):Bool:=match o.guard with
 |none=>false
 |some (j,_)=>match (ops[j]?).bind (·.dst) with
  |some d=>match S.F.get d with
   |some (.gd _ _ .no)=>true
   |_=>false
  |none=>false
def BW(S:St)(ops:Array Oper)(pc:List (Nat×Bool))(o:Oper):Bool:=zsf S ops o||o.op.operands.toList.any λx=>match zfv S pc x with
 |some .no=>true
 |_=>false
def E8{n:Nat}{S:St}{ops:Array Oper}{a:Act}(hf:Ay n S ops a){pc:List (Nat×Bool)}{o:Oper}(wK:zqt S ops o=some pc)(h:BW S ops pc o):¬EA ops a pc:=λhp=>by
 unfold BW at h;rcases Bool.or_eq_true_iff.1 h with h|h
 ·unfold zsf at h
  split at h
  ·cases h
  ·rename_i j want hg
   split at h
   ·rename_i d hd
    split at h
    ·rename_i r pc' hv;unfold zqt at wK;rw[hg] at wK;simp only[hd,hv] at wK
     cases hr:Nat.beq r S.r with
     |false=>rw[hr] at wK;cases wK
     |true=>
      rw[hr] at wK;simp only[cond_true,I0] at wK;subst wK;exact((hf.fits d _ hv (Ib hr)).1 λp hm=>hp p (I1 _ hm)).elim
    ·cases h
   ·cases h
 ·obtain⟨x,_,hx⟩:=List.any_eq_true.1 h
  split at hx
  ·rename_i hv;exact(Ye hf hp hv).elim
  ·cases hx
def zc2(C:UU)(ops:Array Oper)(dn:Nat->Bool)(o:Oper)(S:St)(w:Wo)(K:MY->St->Wo->Prop):Prop:=
 bif z32 dn o && !E5 o then
  match zqt S ops o with
  |none=>False
  |some pc=>bif BW S ops pc o then EB C S o.dst (zii S pc .no) λS'=>K none S' w else bif FB C o.op then (match pc with
   |[]=>z5c C S w o [] (K none)
   |pc=>bif zvb S ops pc then Dk S ops pc (z5c C S w o pc (K none))/\(Dk S ops pc False->EB C S o.dst (zii S pc .no) λS'=>K none S' w) else False)
   else z5y C S w ops o pc λe f=>EB C S o.dst (zii S pc e) λS'=>K f S' w
 else False
structure z2x (C:UU) (S:St) (w:Wo) (ops:Array Oper) (D:Nat->Prop) (o:Oper) (a:Act) (S':St) (w':Wo) (a':Act) (Wy:Wo):Prop where
 fit:Ke C.n S' ops D a'
 rel:Zm S' w' Wy
 wf:Gj S'
 fr:Kf S S'
 r:S'.r=S.r
 put:∃v,a'=a.put o.dst v
 pm:C.pm->w'=w/\S'.old=S.old
def zqu{S:St}{ops:Array Oper}{D:Nat->Prop}{n:Nat}{a:Act}(hf:Ke n S ops D a){o:Oper}{pc:List (Nat×Bool)}(h:zqt S ops o=some pc)(hg:∀j b,o.guard=some (j,b)->D j):∀p∈pc,D p.1:=by
 unfold zqt at h
 split at h
 ·simp only[I0] at h;subst h;intro p hp;cases hp
 ·rename_i j want hgd
  split at h
  ·rename_i d hd
   split at h
   ·simp only[I0] at h;subst h;intro p hp;simp only[IA] at hp;subst hp;exact hg j want hgd
   ·rename_i r pc' b hv
    cases hr:Nat.beq r S.r with
    |false=>rw[hr] at h;cases h
    |true=>
     rw[hr] at h;simp only[cond_true,I0] at h;subst h;intro p hp;rcases Ii.1 hp with rfl|hp
     ·exact hg j want hgd
     ·have:=Ib hr;subst this;exact hf.dn d pc' _ hv p hp
   ·rename_i r pc' hv
    cases hr:Nat.beq r S.r with
    |false=>rw[hr] at h;cases h
    |true=>
     rw[hr] at h;simp only[cond_true,I0] at h;subst h;intro p hp;rcases Ii.1 hp with rfl|hp
     ·exact hg j want hgd
     ·have:=Ib hr;subst this;exact hf.dn d pc' _ hv p hp
   ·cases h
  ·cases h
structure zry (C:UU):Prop where
 T:zv1 C.P C.T
 pf:∀f ks,zps C.pf f=some ks->OZ C.P f
 ef:∀f ks,zps C.ef f=some ks->OZ C.P f
 mixed:C.P.follows .mixedOrders=true
def zc3{C:UU}(E:zry C){ops:Array Oper}{D D':Nat->Prop}{dn:Nat->Bool}{i:Nat}{o:Oper}{S:St}{w wr:Wo}{a:Act}{K:MY->St->Wo->Prop}{N:Act->Wo->Prop}{Q:Exit->Act->Wo->Prop}(hu:Bj ops)(ho:ops[i]? = some o)(hi:¬D i)(hD:∀j,D j->zv2 ops j)(hDD:∀j,D j->D' j)(hdn:∀j,dn j->zv2 ops j->D j)(hf:Ke C.n S ops D a)(hw:Zm S w wr)(WU:Gj S)(hN:∀f S' w' a' Wy,K f S' w'->z2x C S w ops D' o a S' w' a' Wy->N a' Wy)(h:zc2 C ops dn o S w K) :
  if Region.wanted o (yielded ops a.tmps) then o.wpIn (PS C.rd) 0 C.P a wr N Q else N (a.put o.dst undef) wr:=by
 unfold zc2 at h
 cases hb:(z32 dn o && !E5 o) with
 |false=>rw[hb] at h;exact h.elim
 |true=>
  rw[hb] at h;simp only[cond_true] at h;simp only[A',ID] at hb
  have hg:∀j b,o.guard=some (j,b)->D j:=λj b hgd=>by
   refine hdn j ?_ ⟨o,by rw[Array.mem_toList_iff];exact Array.mem_of_getElem? ho,b,hgd⟩;have:=hb.1;unfold z32 at this;rw[hgd] at this;exact this
  split at h
  ·exact h.elim
  ·rename_i pc wK;have Ad1:=zqu hf wK hg;have wP:=Hk hf.fit wK
   cases hdd:BW S ops pc o with
   |true=>
    rw[hdd] at h;simp only[cond_true] at h;have hp:=E8 hf.fit wK hdd;rw[B' (λhw1=>hp (wP.1 hw1))];obtain⟨h1,h2⟩:=YJ h;exact hN _ _ _ _ _ h1 ⟨hf.put hu ho hi hD hDD Ad1 h2 ⟨λhp'=>Ir hp' hp,λ_=>rfl⟩,hw.cJ _ _,WU.cJ _ _,(Kf.refl S).cJ _ _,by cases o.dst <;> rfl,⟨undef,rfl⟩,λ_=>⟨rfl,by cases o.dst <;> rfl⟩⟩
   |false=>
   rw[hdd] at h;simp only[cond_false] at h
   cases he:FB C o.op with
   |true=>
    rw[he] at h;simp only[cond_true] at h
    have run:EA ops a pc->z5c C S w o pc (K none)->o.wpIn (PS C.rd) 0 C.P a wr N Q:=λDA7 h=>by
     refine zuf E.T E.ef hf hw WU DA7 ⟨λS1 w' Wy e v h1 h2 h3 h4 h5 h9 h6 h7 h8=>?_⟩ h (λt x y hs=>?_)
     ·refine hN none _ _ _ _ h8 ⟨?_,h5.cJ _ _,h4.cJ _ _,h1.cJ _ _,by cases o.dst <;> exact h3,⟨v,rfl⟩,λhp=>by cases o.dst <;> exact h9 hp⟩;have hf1:Ke C.n S1 ops D a:=hf.mono h1.B h2 h3;exact hf1.put (pc:=[]) hu ho hi hD hDD (λp hp=>by cases hp) h7 ⟨λ_=>h6,λhn=>Ir (λp hp=>by cases hp) hn⟩
     ·have:=hb.2;unfold E5 at this;rw[hs] at this
      cases hd:o.dst with
      |none=>rfl
      |some d=>rw[hd] at this;cases this
    split at h
    ·have hw1:Region.wanted o (yielded ops a.tmps):=wP.2 (λp hp=>by cases hp);rw[C' hw1];exact run (λp hp=>by cases hp) h
    ·cases hpo:zvb S ops pc with
     |false=>rw[hpo] at h;exact h.elim
     |true=>
      rw[hpo] at h;simp only[cond_true] at h
      by_cases hp:EA ops a pc
      ·rw[C' (wP.2 hp)];exact run hp (za1 hf.fit hp h.1)
      ·rw[B' (λhw1=>hp (wP.1 hw1))];obtain⟨h1,h2⟩:=YJ (h.2 (zlb hf.fit hpo hp));exact hN _ _ _ _ _ h1 ⟨hf.put hu ho hi hD hDD Ad1 h2 ⟨λhp'=>Ir hp' hp,λ_=>rfl⟩,hw.cJ _ _,WU.cJ _ _,(Kf.refl S).cJ _ _,by cases o.dst <;> rfl,⟨undef,rfl⟩,λ_=>⟨rfl,by cases o.dst <;> rfl⟩⟩
   |false=>
    rw[he] at h;simp only[cond_false] at h
    by_cases hp:EA ops a pc
    ·rw[C' (wP.2 hp)];obtain⟨e,fact,v,hK,CP5,rN,hq⟩:=ziu E.T E.pf hf.fit hp h;obtain⟨h1,h2⟩:=YJ hK;refine Bm (C:=Zm S w) (K:=λa'=>a'=a.put o.dst v) hw (λa' w' hw' ha'=>?_) ⟨v,λWy hw'=>hq S w a rfl (λ_ _ h=>h) rN Wy hw',rfl⟩;subst ha';exact hN _ _ _ _ _ h1 ⟨hf.put hu ho hi hD hDD Ad1 h2 ⟨λ_=>CP5,λhn=>Ir hp hn⟩,hw'.cJ _ _,WU.cJ _ _,(Kf.refl S).cJ _ _,by cases o.dst <;> rfl,⟨v,rfl⟩,λ_=>⟨rfl,by cases o.dst <;> rfl⟩⟩
    ·rw[B' (λhw1=>hp (wP.1 hw1))];obtain⟨e,fact,hK⟩:=znj h;obtain⟨h1,h2⟩:=YJ hK;exact hN _ _ _ _ _ h1 ⟨hf.put hu ho hi hD hDD Ad1 h2 ⟨λhp'=>Ir hp' hp,λ_=>rfl⟩,hw.cJ _ _,WU.cJ _ _,(Kf.refl S).cJ _ _,by cases o.dst <;> rfl,⟨undef,rfl⟩,λ_=>⟨rfl,by cases o.dst <;> rfl⟩⟩
def zxk(C:UU)(ops:Array Oper):List Oper->Nat->St->Wo->(St->Wo->Prop)->Prop
 |[],_,S,w,K=>K S w
 |o::rest,k,S,w,K=>zc2 C ops (λj=>Nat.blt j k) o S w λ_ S' w'=>zxk C ops rest (k+1) S' w' K
def GV:List Oper->List Nat
 |[]=>[]
 |o::r=>match o.dst with
  |some d=>d::GV r
  |none=>GV r
def DR(ds:List Nat)(a a':Act):Prop:=a'.defers=a.defers/\a'.tmps.size=a.tmps.size/\∀i,i∉ds->a'.tmps.getD i undef=a.tmps.getD i undef
def DR.refl(ds:List Nat)(a:Act):DR ds a a:=⟨rfl,rfl,λ_ _=>rfl⟩
def DR.trans{ds:List Nat}{a b c:Act}(h:DR ds a b)(k:DR ds b c):DR ds a c:=⟨k.1.trans h.1,k.2.1.trans h.2.1,λi hi=>(k.2.2 i hi).trans (h.2.2 i hi)⟩
def DR.mono{ds es:List Nat}{a b:Act}(h:DR ds a b)(hs:∀x∈ds,x∈es):DR es a b:=⟨h.1,h.2.1,λi hi=>h.2.2 i (λhx=>hi (hs i hx))⟩
def DR.put(a:Act)(d:Option Tmp)(v:Va)(ds:List Nat)(h:∀x,d=some x->x∈ds):DR ds a (a.put d v):=by
 cases d with
 |none=>exact DR.refl _ _
 |some d=>
  refine⟨rfl,by simp[Act.put],λi hi=>?_⟩;have:d≠i:=λe=>hi (e▸h d rfl)
  simp only[Act.put,Array.getD_eq_getD_getElem?];rw[Array.getElem?_setIfInBounds_ne this]
def Aj{C:UU}(E:zry C){ops:Array Oper}(hu:Bj ops){K:St->Wo->Prop}{Q:Exit->Act->Wo->Prop}{ds:List Nat}{S0:St}{w0:Wo}{a0:Act}(hds:∀x∈GV ops.toList,x∈ds)(hQ:∀S' w' a' Wy,K S' w'->Ke C.n S' ops (λj=>j<ops.size/\zv2 ops j) a'->Zm S' w' Wy->Gj S'->Kf S0 S'->S'.r=S0.r->DR ds a0 a'->(C.pm->w'=w0/\S'.old=S0.old)->Q .normal a' Wy) :
  ∀(l:List Oper) (k:Nat) (S:St) (w wr:Wo) (a:Act),(∀j,l[j]? = ops[k+j]?)->k+l.length=ops.size->zxk C ops l k S w K->Ke C.n S ops (λj=>j<k/\zv2 ops j) a->Zm S w wr->Gj S->Kf S0 S->S.r=S0.r->DR ds a0 a->(C.pm->w=w0/\S.old=S0.old)->
   wpListIn (PS C.rd) 0 C.P ops Q l a wr
 |[],k,S,w,wr,a,_,hk,h,hf,hw,WU,hfr,hr,hfa,qS=>by
  have:k=ops.size:=by simpa using hk
  subst this;exact hQ S w a wr h hf hw WU hfr hr hfa qS
 |o::rest,k,S,w,wr,a,hl,hk,h,hf,hw,WU,hfr,hr,hfa,qS=>by
  have ho:ops[k]? = some o:=by simpa using (hl 0).symm
  have hod:∀x,o.dst=some x->x∈ds:=λx hx=>by
   refine hds x ?_;have hm:o∈ops.toList:=by rw[Array.mem_toList_iff];exact Array.mem_of_getElem? ho
   clear hk hl h;generalize ops.toList=q at hm
   induction q with
   |nil=>cases hm
   |cons y q ih=>
    simp only[GV];rcases Ii.1 hm with rfl|hm
    ·rw[hx];exact I9 ..
    ·split
     ·exact I1 _ (ih hm)
     ·exact ih hm
  have dH:=zc3 E (i:=k) (D':=λj=>j<k+1/\zv2 ops j) (N:=λa' w'=>wpListIn (PS C.rd) 0 C.P ops Q rest a' w') (Q:=Q) hu ho (λhd=>Nat.lt_irrefl _ hd.1) (λj hj=>hj.2) (λj hj=>⟨Nat.lt_succ_of_lt hj.1,hj.2⟩)
   (λj h1 h2=>⟨Ik h1,h2⟩) hf hw WU (λf S' w' a' Wy hK hL=>by
    obtain⟨v,rfl⟩:=hL.put;exact Aj E hu hds hQ rest (k+1) S' w' Wy _ (λj=>by have:=hl (j+1);simpa[Nat.add_assoc,Nat.add_comm 1 j] using this) (by simp at hk;omega) hK hL.fit hL.rel hL.wf (hfr.trans hL.fr) (hL.r.trans hr) (hfa.trans (DR.put a o.dst v ds hod)) (λhp=>⟨(hL.pm hp).1.trans (qS hp).1,(hL.pm hp).2.trans (qS hp).2⟩)) h
  unfold wpListIn
  by_cases hwt:Region.wanted o (yielded ops a.tmps)=true
  ·rw[C' hwt] at dH ⊢;exact dH
  ·rw[B' hwt] at dH ⊢;exact⟨λ_ _=>trivial,dH⟩
def z05{C:UU}{ops:Array Oper}{dn:Nat->Bool}{o:Oper}{S:St}{w:Wo}{K:MY->St->Wo->Prop}(h:zc2 C ops dn o S w K):∀c,o.op≠.defer c:=λc hc=>by
 unfold zc2 at h;have:E5 o:=by simp[E5,hc]
 rw[this] at h;simp at h
def UT(ops:Array Oper)(o:Oper)(a:Act):Option (Sem Next):=if Region.wanted o (yielded ops a.tmps) then some (execOp a.eval o) else none
def YS(P:Program)(R:Wo->Prop)(s:Option (Sem Next))(v:Va):Prop:=
 match s with
 |some s=>∀w,R w->Oper.quietUpon P R w v (s.run P w)
 |none=>v=undef
def CQ(P:Program)(o:Oper)(a:Act)(w:Wo)(N:Va->Wo->Prop):Prop:=
 match (execOp a.eval o).run P w with
 |.ok (.value v) w'=>N v w'
 |.ok .skip w'=>N undef w'
 |.ok (.enter f args) w'=>Calls P f args w' λe qZ=>∃v,e=.returned v/\N v qZ
 |.ok (.row row args) w'=>Rows P row args w' λv qZ=>N v qZ
 |.ok (.round l f tmps asg body) w'=>RoundIn Fence.wide 0 P l f tmps asg body w' λe qZ=>∃v,e=.returned v/\N v qZ
 |_=>False
def T8:List Oper->List Nat->List Nat
 |[],acc=>acc
 |o::r,acc=>T8 r (acc++[o.after.toList.foldl (λs e=>if Region.binds .any e then s ||| 2 ^ e.on ||| acc.getD e.on 0 else s) 0])
def zj5(M:List Nat)(i j:Nat):Bool := !(M.getD j 0).testBit i
def HF(P:Program)(ops:Array Oper)(un:Nat->Nat->Bool)(Q:Act->(Wo->Prop)->Prop):Nat->Array Bool->List (Nat×Option (Sem Next)×Va)->Act->(Wo->Prop)->Prop
 |0,Ry,_,a,R=>Region.ready .any ops Ry=[]/\Q a R
 |n+1,Ry,Pd,a,R=>(Region.ready .any ops Ry=[]->Q a R)/\∀i∈Region.ready .any ops Ry,∀o,ops[i]? = some o->
   (∃v,YS P R (UT ops o a) v/\HF P ops un Q n (Ry.setIfInBounds i true) ((i,UT ops o a,v)::Pd) (a.put o.dst v) R) \/
   (Region.wanted o (yielded ops a.tmps)/\∀w,R w->CQ P o a w λv w'=>∃R':Wo->Prop,R' w'/\(∀p∈Pd,un p.1 i->YS P R' p.2.1 p.2.2)/\
    HF P ops un Q n (Ry.setIfInBounds i true) Pd (a.put o.dst v) R')
section
variable {P:Program}{ops:Array Oper}{un:Nat->Nat->Bool}{Q:Act->(Wo->Prop)->Prop}
def N8{o:Oper}{a:Act}{w:Wo}{N N':Va->Wo->Prop}(h:∀v w,N v w->N' v w)(hh:CQ P o a w N):CQ P o a w N':=by
 unfold CQ at *;generalize (execOp a.eval o).run P w=r at *
 cases r with
 |ok n w'=>
  cases n <;> dsimp only at hh ⊢
  case value v=>exact h _ _ hh
  case skip=>exact h _ _ hh
  case enter f args=>exact hh.mono λe qZ ⟨v,he,hn⟩=>⟨v,he,h _ _ hn⟩
  case row row args=>exact hh.mono λv qZ hn=>h _ _ hn
  case round l f tmps asg body=>exact hh.mono λe qZ ⟨v,he,hn⟩=>⟨v,he,h _ _ hn⟩
  all_goals exact hh
 |halt x w'=>exact hh
def z03{o:Oper}{a:Act}{w:Wo}{N:Va->Wo->Prop}{K:Act->Wo->Prop}{Q':Exit->Act->Wo->Prop}{r:Option Nat}(hh:CQ P o a w N)(h:∀v w',N v w'->K (a.put o.dst v) w'):o.wpIn (PS r) 0 P a w K Q':=by
 refine zrt (λc hc=>by unfold CQ at hh;rcases zjn (P:=P) (ρ:=a.eval) hc w with ⟨d,w',hr⟩|⟨x,w',hr⟩ <;> (rw[hr] at hh;exact hh)) ?_;unfold CQ at hh;generalize (execOp a.eval o).run P w=r at *
 cases r with
 |ok n w'=>
  cases n <;> dsimp only at hh <;> simp only[Oper.uponIn]
  case value v=>exact h _ _ hh
  case skip=>exact h _ _ hh
  case enter f args=>exact⟨λhx=>(by simp[PS,Fence.wide] at hx),KL (hh.mono λe qZ ⟨v,he,hn⟩=>by subst he;exact h _ _ hn)⟩
  case row row args=>exact⟨λhx=>(by simp[PS,Fence.wide] at hx),zxo (hh.mono λv qZ hn=>h _ _ hn)⟩
  case round l f tmps asg body=>exact⟨λhx=>(by simp[PS,Fence.wide] at hx),ziv (hh.mono λe qZ ⟨v,he,hn⟩=>by subst he;exact h _ _ hn)⟩
 |halt x w'=>exact hh.elim
def zpz{o:Oper}{a:Act}{w:Wo}{K:Act->Wo->Prop}{r:Option Nat}(hd:∀c,o.op≠.defer c)(hh:o.wpIn (PS r) 0 P a w K λ_ _ _=>False)(hp:∀a' w',K a' w'->∃v,a'=a.put o.dst v):CQ P o a w λv w'=>K (a.put o.dst v) w':=by
 have hh:=z49 hd hh;unfold CQ;generalize (execOp a.eval o).run P w=r at *
 cases r with
 |ok n w'=>
  cases n <;> simp only[Oper.uponIn] at hh ⊢
  case value v=>exact hh
  case skip=>exact hh
  case defer d=>
   obtain⟨v,hv⟩:=hp _ _ hh;have h1:(({ a with defers:=d::a.defers }:Act).put o.dst undef).defers=(a.put o.dst v).defers:=by rw[hv]
   have h2:∀(b:Act) (x:Option Tmp) (u:Va),(b.put x u).defers=b.defers:=λb x u=>by cases x <;> rfl
   rw[h2,h2] at h1;have:=congrArg List.length h1;simp at this
  case enter f args=>
   exact(z06 hh.2).mono λe qZ he=>by
    cases e with
    |returned v=>exact⟨v,rfl,he⟩
    |panicked c=>exact he.elim
    |outgrown=>obtain⟨_,_,he⟩:=he;exact he.elim
  case row row args=>exact λc cs=>(let ⟨v,w1,h1,h2⟩:=hh.2 c cs (znn _ _);⟨v,w1,h1,StepsIn.steps h2⟩)
  case round l f tmps asg body=>
   refine⟨trivial,λc cs _=>?_⟩;obtain⟨e,qZ,he,hs⟩:=hh.2.2 c cs (znn _ _);refine⟨e,qZ,?_,hs⟩
   cases e with
   |returned v=>exact⟨v,rfl,he⟩
   |panicked c=>exact he.elim
   |outgrown=>obtain⟨_,_,he⟩:=he;exact he.elim
 |halt x w'=>cases x <;> simp only[Oper.uponIn] at hh
def EJ:∀{n:Nat} {Ry:Array Bool} {Pd Pd':List (Nat×Option (Sem Next)×Va)} {a:Act} {R:Wo->Prop},(∀p∈Pd',p∈Pd)->HF P ops un Q n Ry Pd a R->HF P ops un Q n Ry Pd' a R
 |0,_,_,_,_,_,_,h=>h
 |n+1,Ry,Pd,Pd',a,R,hs,h=>⟨h.1,λi hi o ho=>by
  rcases h.2 i hi o ho with ⟨v,h1,h2⟩|⟨h1,h2⟩
  ·refine .inl ⟨v,h1,EJ (λp hp=>?_) h2⟩;rcases Ii.1 hp with rfl|hp
   ·exact I9 ..
   ·exact I1 _ (hs p hp)
  ·exact .inr ⟨h1,λw hw=>N8 (λv w' ⟨R',h3,h4,h5⟩=>⟨R',h3,λp hp=>h4 p (hs p hp),EJ hs h5⟩) (h2 w hw)⟩⟩
def G4{r:Option Nat}{Q':Exit->Act->Wo->Prop}(hQ:∀a R w,Q a R->R w->Q' .normal a w):∀(n:Nat) (Ry:Array Bool) (Pd:List (Nat×Option (Sem Next)×Va)) (a:Act) (R:Wo->Prop) (w:Wo),R w->HF P ops un Q n Ry Pd a R->wpAnyIn (PS r) 0 P .any ops Q' n Ry a w
 |0,_,_,_,_,_,hw,h=>⟨h.1,hQ _ _ _ h.2 hw⟩
 |n+1,Ry,Pd,a,R,w,hw,h=>⟨λh0=>hQ _ _ _ (h.1 h0) hw,λi hi=>by
  obtain⟨_,o,ho,_⟩:=mem_ready.1 hi;unfold wpOpIn;simp only[ho];rcases h.2 i hi o ho with ⟨v,h1,h2⟩|⟨h1,h2⟩
  ·unfold UT at h1
   by_cases hwt:Region.wanted o (yielded ops a.tmps)=true
   ·rw[C' hwt] at h1 ⊢;exact Bm (C:=R) (K:=λa'=>a'=a.put o.dst v) hw (λa' w' hw' ha'=>by subst ha';exact G4 hQ n _ _ _ R w' hw' h2) ⟨v,λw' hw'=>h1 w' hw',rfl⟩
   ·rw[B' hwt] at h1 ⊢;rw[show v=undef from h1] at h2;exact⟨λ_ _=>trivial,G4 hQ n _ _ _ R w hw h2⟩
  ·rw[C' h1];exact(z03 (h2 w hw) λv w' ⟨R',h3,_,h5⟩=>G4 hQ n _ _ _ R' w' h3 h5)⟩
def zvh{oi oj:Oper}{a:Act}{v:Va}(hap:oi.apart ops oj)(hsj:∀cs b,oj.op≠.select cs b):UT ops oj (a.put oi.dst v)=UT ops oj a:=by
 obtain⟨h1,_,_⟩:=Oper.apart_spec hap;unfold UT;rw[wanted_put oj a oi.dst v h1,execOp_put oj hsj a oi.dst v h1]
def zxf{oi oj:Oper}{a:Act}{v:Va}{w:Wo}{N:Va->Wo->Prop}(hap:oi.apart ops oj)(hsj:∀cs b,oj.op≠.select cs b)(h:CQ P oj (a.put oi.dst v) w N):CQ P oj a w N:=by
 obtain⟨h1,_,_⟩:=Oper.apart_spec hap;unfold CQ at *;rw[execOp_put oj hsj a oi.dst v h1] at h;exact h
def zcc{x y:Oper}(h:x.apart ops y):∀d,y.dst=some d->d∉x.looksAt ops:=(Oper.apart_spec h).2.2
def DQ(ops:Array Oper)(Ry:Array Bool):Prop:=∀j o,ops[j]? = some o->Ry.getD j true->∀e∈o.after,Region.binds .any e->Ry.getD e.on false=true
def zrj(BX9:∀(j:Nat) (o:Oper) cs b,ops[j]? = some o->o.op≠.select cs b)(hun:∀Ry i j,DQ ops Ry->i∈Region.ready .any ops Ry->j∈Region.ready .any ops Ry->i≠j->un i j){i:Nat}{oi:Oper}{v:Va}(hi:ops[i]? = some oi) :
  ∀(n:Nat) (Ry:Array Bool) (Pd:List (Nat×Option (Sem Next)×Va)) (a:Act) (R:Wo->Prop),DQ ops Ry->
   (∀j oj,ops[j]? = some oj->j≠i->Ry.getD j true=false->(∀e∈oj.after,Region.binds .any e->e.on≠i)->oi.apart ops oj)->
   i∈Region.ready .any ops Ry->YS P R (UT ops oi a) v->
   HF P ops un Q n (Ry.setIfInBounds i true) ((i,UT ops oi a,v)::Pd) (a.put oi.dst v) R->HF P ops un Q (n+1) Ry Pd a R:=by
 intro n
 induction n with
 |zero=>
  intro Ry Pd a R hcl AD1 hr hy H;refine⟨λh=>(by rw[h] at hr;cases hr),λj hj oj hoj=>?_⟩
  by_cases hji:j=i
  ·subst hji;rw[hi] at hoj;cases hoj;exact .inl ⟨v,hy,H⟩
  ·have:=ready_mono hj hji;rw[H.1] at this;cases this
 |succ n ih=>
  intro Ry Pd a R hcl AD1 hr hy H;refine⟨λh=>(by rw[h] at hr;cases hr),λj hj oj hoj=>?_⟩
  by_cases hji:j=i
  ·subst hji;rw[hi] at hoj;cases hoj;exact .inl ⟨v,hy,H⟩
  ·obtain⟨CC1,oj',Cj2,zC⟩:=mem_ready.1 hj;rw[hoj] at Cj2;cases Cj2
   have DA1:∀e∈oj.after,Region.binds .any e->e.on≠i:=λe he hb heq=>by
    have h1:=zC e he hb;have h0:=(mem_ready.1 hr).1;rw[heq] at h1;rcases Nat.lt_or_ge i Ry.size with h'|h'
    ·simp[h'] at h0 h1;rw[h0] at h1;cases h1
    ·simp[Array.getElem?_eq_none h'] at h1
   have hap:=AD1 j oj hoj hji CC1 DA1;have hsj:=λcs b=>BX9 j oj cs b hoj
   have hsi:=λcs b=>BX9 i oi cs b hi
   have BX0:DQ ops (Ry.setIfInBounds j true):=λk ok hk vE e he hb=>by
    by_cases jD:j=k
    ·subst jD;rw[hoj] at hk;cases hk;exact getD_set_true (zC e he hb)
    ·rw[getD_set_ne true jD] at vE;exact getD_set_true (hcl k ok hk vE e he hb)
   have B05:∀k ok,ops[k]? = some ok->k≠i->(Ry.setIfInBounds j true).getD k true=false->
     (∀e∈ok.after,Region.binds .any e->e.on≠i)->oi.apart ops ok:=λk ok hk hki hun rF=>by
    refine AD1 k ok hk hki ?_ rF
    by_cases jD:j=k
    ·subst jD;exact CC1
    ·rw[getD_set_ne true jD] at hun;exact hun
   have hr':=ready_mono hr (Ne.symm hji)
   have CD1:∀u,UT ops oi (a.put oj.dst u)=UT ops oi a:=λu=>by
    unfold UT;rw[wanted_put oi a oj.dst u (zcc hap),execOp_put oi hsi a oj.dst u (zcc hap)]
   have CH3:∀u,(a.put oi.dst v).put oj.dst u=(a.put oj.dst u).put oi.dst v:=λu=>Act.put_comm a v u (Oper.apart_spec hap).2.1
   rcases H.2 j (ready_mono hj hji) oj hoj with ⟨u,h1,h2⟩|⟨h1,h2⟩
   ·rw[zvh hap hsj] at h1 h2;refine .inl ⟨u,h1,ih _ _ _ R BX0 B05 hr' (by rw[CD1 u];exact hy) ?_⟩;rw[CD1 u,<-CH3 u,Array.setIfInBounds_comm _ _ hji]
    exact EJ (λp hp=>by
     simp only[Ii] at hp ⊢;rcases hp with h|h|h
     ·exact .inr (.inl h)
     ·exact .inl h
     ·exact .inr (.inr h)) h2
   ·refine .inr ⟨?_,λw hw=>zxf hap hsj (N8 (λu w' ⟨R',h3,h4,h5⟩=>⟨R',h3,λp hp=>h4 p (I1 _ hp),?_⟩) (h2 w hw))⟩
    ·rw[wanted_put oj a oi.dst v (Oper.apart_spec hap).1] at h1;exact h1
    ·have hyi:YS P R' (UT ops oi a) v:=h4 _ (I9 ..) (hun Ry i j hcl hr hj (Ne.symm hji));refine ih _ _ _ R' BX0 B05 hr' (by rw[CD1 u];exact hyi) ?_;rw[CD1 u,<-CH3 u,Array.setIfInBounds_comm _ _ hji];exact h5
end
def zc7{acc:List Nat}{i:Nat}:∀(l:List Edge) (s:Nat),(l.foldl (λs e=>if Region.binds .any e then s ||| 2 ^ e.on ||| acc.getD e.on 0 else s) s).testBit i->
  s.testBit i\/∃e∈l,Region.binds .any e/\(e.on=i\/(acc.getD e.on 0).testBit i)
 |[],s,h=>.inl h
 |e::l,s,h=>by
  rcases zc7 l _ h with h1|⟨e',he',hb,h2⟩
  ·by_cases hb:Region.binds .any e=true
   ·simp only[C' hb] at h1;simp only[Nat.testBit_or,Iu] at h1;rcases h1 with (h1|h1)|h1
    ·exact .inl h1
    ·refine .inr ⟨e,I9 ..,hb,.inl ?_⟩;rw[Nat.testBit_two_pow] at h1
     simpa using h1
    ·exact .inr ⟨e,I9 ..,hb,.inr h1⟩
   ·simp only[B' hb] at h1;exact .inl h1
  ·exact .inr ⟨e',I1 _ he',hb,h2⟩
def Fc:∀(l:List Oper) (acc:List Nat) (pre:List Oper),acc.length=pre.length->
  (∀(j:Nat) (o:Oper),pre[j]? = some o->∀i,(acc.getD j 0).testBit i->∃e∈o.after.toList,Region.binds .any e/\(e.on=i\/(e.on<j/\(acc.getD e.on 0).testBit i)))->
  ∀(j:Nat) (o:Oper),(pre++l)[j]? = some o->∀i,((T8 l acc).getD j 0).testBit i->∃e∈o.after.toList,Region.binds .any e/\(e.on=i\/(e.on<j/\((T8 l acc).getD e.on 0).testBit i))
 |[],acc,pre,hl,h,j,o,ho,i,hb=>by
  simp only[List.append_nil] at ho;exact h j o ho i hb
 |o'::l,acc,pre,hl,h,j,o,ho,i,hb=>by
  have C51:pre++o'::l=(pre++[o'])++l:=Qs;rw[C51] at ho;simp only[T8] at hb ⊢;refine Fc l _ (pre++[o']) (by simp[hl]) (λj o ho i hb=>?_) j o ho i hb
  by_cases hj:j<pre.length
  ·rw[Ip hj] at ho;rw[List.getD_eq_getElem?_getD,Ip Qo,<-List.getD_eq_getElem?_getD] at hb;obtain⟨e,he,gJ,h2⟩:=h j o ho i hb;refine⟨e,he,gJ,?_⟩;rcases h2 with h2|⟨h2,h3⟩
   ·exact .inl h2
   ·refine .inr ⟨h2,?_⟩;rw[List.getD_eq_getElem?_getD,Ip Qo,<-List.getD_eq_getElem?_getD];exact h3
  ·have hj':j=pre.length:=by
    have:j<(pre++[o']).length:=(I8.1 ho).1;simp at this;omega
   subst hj';simp only[List.getElem?_concat_length,I0] at ho;subst ho;rw[<-hl] at hb;rw[List.getD_eq_getElem?_getD,List.getElem?_concat_length] at hb;simp only[Option.getD_some] at hb;rcases zc7 _ _ hb with h1|⟨e,he,gJ,h2⟩
   ·simp at h1
   ·refine⟨e,he,gJ,?_⟩;rcases h2 with h2|h2
    ·exact .inl h2
    ·have IV:e.on<acc.length:=by
      rcases Nat.lt_or_ge e.on acc.length with h'|h'
      ·exact h'
      ·rw[List.getD_eq_getElem?_getD,Iw h'] at h2;simp at h2
     refine .inr ⟨Qo,?_⟩;rw[List.getD_eq_getElem?_getD,Ip IV,<-List.getD_eq_getElem?_getD];exact h2
def zpb{ops:Array Oper}(Ry:Array Bool)(i j:Nat)(hcl:DQ ops Ry)(hi:i∈Region.ready .any ops Ry)(hj:j∈Region.ready .any ops Ry)(_:i≠j):zj5 (T8 ops.toList []) i j:=by
 unfold zj5;rw[ID];rw[Bool.eq_false_iff];intro hb;have CJ4:=Fc ops.toList [] [] rfl (λj o ho=>by simp at ho);simp only[List.nil_append] at CJ4;have hin:=(mem_ready.1 hi).1
 have no:Ry.getD i false≠true:=λh=>by
  rcases Nat.lt_or_ge i Ry.size with h'|h'
  ·simp[h'] at h hin;rw[h] at hin;cases hin
  ·simp[Array.getElem?_eq_none h'] at h
 have key:∀k:Nat,∀o,ops[k]? = some o->(∀e∈o.after,Region.binds .any e->Ry.getD e.on false)->((T8 ops.toList []).getD k 0).testBit i->False:=by
  intro k
  induction k using Nat.strongRecOn with
  |_ k ih=>
   intro o ho zC hb;obtain⟨e,he,gJ,h2⟩:=CJ4 k o (by simpa using ho) i hb;have he':e∈o.after:=by rw[<-Array.mem_toList_iff];exact he
   have hl:=zC e he' gJ;rcases h2 with h2|⟨h2,h3⟩
   ·rw[h2] at hl;exact no hl
   ·have IV:e.on<ops.size:=Nat.lt_trans h2 (Array.getElem?_eq_some_iff.1 ho).1;have hoe:ops[e.on]? = some ops[e.on]:=Array.getElem?_eq_getElem IV;refine ih e.on h2 _ hoe (hcl e.on _ hoe ?_) h3;rcases Nat.lt_or_ge e.on Ry.size with h'|h'
    ·simp[h'] at hl ⊢;exact hl
    ·simp[Array.getElem?_eq_none h'] at hl
 obtain⟨_,o,ho,zC⟩:=mem_ready.1 hj;exact key j o ho zC hb
def Eg(C:UU)(ops:Array Oper):List Nat->Option Nat
 |[]=>none
 |i::r=>match ops[i]? with
  |some o=>bif FB C o.op then Eg C ops r else some i
  |none=>Eg C ops r
def GZ{C:UU}{ops:Array Oper}:∀{l:List Nat} {i:Nat},Eg C ops l=some i->i∈l/\∃o,ops[i]? = some o/\FB C o.op=false
 |[],_,h=>by cases h
 |j::r,i,h=>by
  simp only[Eg] at h
  split at h
  ·rename_i o ho
   cases he:FB C o.op with
   |true=>
    rw[he] at h;obtain⟨h1,h2⟩:=GZ h;exact⟨I1 _ h1,h2⟩
   |false=>
    rw[he] at h;simp only[cond_false,I0] at h;subst h;exact⟨I9 ..,o,ho,he⟩
  ·obtain⟨h1,h2⟩:=GZ h;exact⟨I1 _ h1,h2⟩
def NU(M:List Nat)(i:Nat)(S:St)(w:Wo):List (Nat×zfx)->Prop->Prop
 |[],A=>A
 |(j,f)::r,A=>bif zj5 M j i then f S w/\NU M i S w r A else NU M i S w r A
def LR{M:List Nat}{i:Nat}{S:St}{w:Wo}:∀{l:List (Nat×zfx)} {A:Prop},NU M i S w l A->A/\∀p∈l,zj5 M p.1 i->p.2 S w
 |[],A,h=>⟨h,λp hp=>by cases hp⟩
 |(j,f)::r,A,h=>by
  simp only[NU] at h
  cases hu:zj5 M j i with
  |true=>
   rw[hu] at h;obtain⟨h1,h2⟩:=h;obtain⟨h3,h4⟩:=LR h2;refine⟨h3,λp hp hpu=>?_⟩;rcases Ii.1 hp with rfl|hp
   ·exact h1
   ·exact h4 p hp hpu
  |false=>
   rw[hu] at h;obtain⟨h3,h4⟩:=LR (A:=A) h;refine⟨h3,λp hp hpu=>?_⟩;rcases Ii.1 hp with rfl|hp
   ·rw[hu] at hpu;cases hpu
   ·exact h4 p hp hpu
def zpy(l:List Nat)(A:Nat->Prop):Prop:=
 match l with
 |[]=>True
 |[i]=>A i
 |i::r=>A i/\zpy r A
def zc0:∀{l:List Nat} {A:Nat->Prop},zpy l A->∀i∈l,A i
 |[],_,_,_,hi=>by cases hi
 |[j],A,h,i,hi=>by simp only[IA] at hi;subst hi;exact h
 |j::k::r,A,h,i,hi=>by
  rcases Ii.1 hi with rfl|hi
  ·exact h.1
  ·exact zc0 h.2 i hi
def zs2(i:Nat)(f:MY)(AH8:List (Nat×zfx)):List (Nat×zfx):=
 match f with
 |some f=>(i,f)::AH8
 |none=>AH8
def Ef(C:UU)(ops:Array Oper)(M:List Nat):Nat->Array Bool->List (Nat×zfx)->St->Wo->(St->Wo->Prop)->Prop
 |0,Ry,_,S,w,K=>match Region.ready .any ops Ry with
  |[]=>K S w
  |_=>False
 |n+1,Ry,AH8,S,w,K=>match Region.ready .any ops Ry with
  |[]=>K S w
  |rs=>match Eg C ops rs with
   |some i=>match ops[i]? with
    |some o=>bif Region.free .any ops Ry i then zc2 C ops (λj=>Ry.getD j false) o S w λf S' w'=>Ef C ops M n (Ry.setIfInBounds i true) (zs2 i f AH8) S' w' K else False
    |none=>False
   |none=>zpy rs λi=>match ops[i]? with
    |some o=>zc2 C ops (λj=>Ry.getD j false) o S w λ_ S' w'=>NU M i S' w' AH8 (Ef C ops M n (Ry.setIfInBounds i true) AH8 S' w' K)
    |none=>False
def zp3{C:UU}(E:zry C){ops:Array Oper}{D D':Nat->Prop}{dn:Nat->Bool}{i:Nat}{o:Oper}{S:St}{w:Wo}{a:Act}{K:MY->St->Wo->Prop}(hu:Bj ops)(ho:ops[i]? = some o)(hi:¬D i)(hD:∀j,D j->zv2 ops j)(hDD:∀j,D j->D' j)(hdn:∀j,dn j->zv2 ops j->D j)(hf:Ke C.n S ops D a)(WU:Gj S)(he:FB C o.op=false)(h:zc2 C ops dn o S w K) :
  ∃f v S',K f S' w/\Ke C.n S' ops D' (a.put o.dst v)/\Gj S'/\Kf S S'/\S'.r=S.r/\S'.old=S.old/\(∀w wr,Zm S w wr↔Zm S' w wr)/\YS C.P (Zm S w) (UT ops o a) v/\
   (∀(S'':St) (qZ:Wo),Kf S S''->zqf f S'' qZ->YS C.P (Zm S'' qZ) (UT ops o a) v):=by
 unfold zc2 at h
 cases hb:(z32 dn o && !E5 o) with
 |false=>rw[hb] at h;exact h.elim
 |true=>
  rw[hb] at h;simp only[cond_true] at h;simp only[A',ID] at hb
  have hg:∀j b,o.guard=some (j,b)->D j:=λj b hgd=>by
   refine hdn j ?_ ⟨o,by rw[Array.mem_toList_iff];exact Array.mem_of_getElem? ho,b,hgd⟩;have:=hb.1;unfold z32 at this;rw[hgd] at this;exact this
  split at h
  ·exact h.elim
  ·rename_i pc wK;have Ad1:=zqu hf wK hg;have wP:=Hk hf.fit wK
   have AH5:∀{sv:SV} (w wr:Wo),Zm S w wr↔Zm (S.cJ o.dst sv) w wr:=λ{sv} w wr=>by
    cases o.dst
    ·exact Iff.rfl
    ·exact⟨λh=>⟨h.ext,h.loc,h.len,h.wC,h.fresh⟩,λh=>⟨h.ext,h.loc,h.len,h.wC,h.fresh⟩⟩
   cases hdd:BW S ops pc o with
   |true=>
    rw[hdd] at h;simp only[cond_true] at h;have hp:=E8 hf.fit wK hdd;have hw1:¬Region.wanted o (yielded ops a.tmps):=λhw1=>hp (wP.1 hw1)
    obtain⟨h1,h2⟩:=YJ h;have hs:UT ops o a=none:=by unfold UT;rw[B' hw1]
    refine⟨none,undef,_,h1,hf.put hu ho hi hD hDD Ad1 h2 ⟨λhp'=>Ir hp' hp,λ_=>rfl⟩,WU.cJ _ _,(Kf.refl S).cJ _ _,by cases o.dst <;> rfl,by cases o.dst <;> rfl,AH5,?_,λS'' qZ hfr hfc=>?_⟩ <;> (rw[hs];rfl)
   |false=>
   rw[hdd] at h;rw[he] at h;simp only[cond_false] at h
   by_cases hp:EA ops a pc
   ·have hw1:=wP.2 hp;obtain⟨e,fact,v,hK,CP5,rN,hq⟩:=ziu E.T E.pf hf.fit hp h;obtain⟨h1,h2⟩:=YJ hK;refine⟨fact,v,_,h1,hf.put hu ho hi hD hDD Ad1 h2 ⟨λ_=>CP5,λhn=>Ir hp hn⟩,WU.cJ _ _,(Kf.refl S).cJ _ _,by cases o.dst <;> rfl,by cases o.dst <;> rfl,AH5,?_,λS'' qZ hfr hfc=>?_⟩
    ·unfold UT;rw[C' hw1];exact λwr hw=>hq S w a rfl (λ_ _ h=>h) rN wr hw
    ·unfold UT;rw[C' hw1];exact λwr hw=>hq S'' qZ a rfl hfr.B hfc wr hw
   ·have hw1:¬Region.wanted o (yielded ops a.tmps):=λhw1=>hp (wP.1 hw1)
    obtain⟨e,fact,hK⟩:=znj h;obtain⟨h1,h2⟩:=YJ hK;have hs:UT ops o a=none:=by unfold UT;rw[B' hw1]
    refine⟨fact,undef,_,h1,hf.put hu ho hi hD hDD Ad1 h2 ⟨λhp'=>Ir hp' hp,λ_=>rfl⟩,WU.cJ _ _,(Kf.refl S).cJ _ _,by cases o.dst <;> rfl,by cases o.dst <;> rfl,AH5,?_,λS'' qZ hfr hfc=>?_⟩ <;> (rw[hs];rfl)
def zxj(C:UU)(ops:Array Oper)(draw:Bool)(S:St)(w:Wo)(K:St->Wo->Prop):Prop:=
 bif Bj ops then
  (bif draw then
   (bif Region.noSelect ops then Ef C ops (T8 ops.toList []) ops.size (Array.replicate ops.size false) [] { S with r:=S.r+1 } w λS' w'=>K { S' with r:=S'.r+1 } w' else False)
  else zxk C ops ops.toList 0 { S with r:=S.r+1 } w λS' w'=>K { S' with r:=S'.r+1 } w')
 else False
structure TR (n:Nat) (S:St) (a:Act):Prop where
 size:a.tmps.size=n
 fits:∀i x,S.F.get i=some (.un x)->EV.den S x (a.tmps.getD i undef)
 old:∀i r pc x,S.F.get i=some (.gd r pc x)->r<S.r
def TR.enter{n:Nat}{S:St}{a:Act}(h:TR n S a)(ops:Array Oper)(D:Nat->Prop):Ke n { S with r:=S.r+1 } ops D a:=
 ⟨⟨h.size,λi s hs=>by
  cases s with
  |un x=>exact EV.jA (S:=S) (λ_ _ h=>h) (h.fits i x hs)
  |gd r pc x=>intro hr;have:=h.old i r pc x hs;simp only at hr;omega⟩,λi pc x hx=>by have:=h.old i _ pc x hx;simp only at this;omega,λi r pc x hx=>by have:=h.old i r pc x hx;show r<=S.r+1;omega⟩
def Ke.leave{n:Nat}{S:St}{ops:Array Oper}{D:Nat->Prop}{a:Act}(h:Ke n S ops D a):TR n { S with r:=S.r+1 } a:=
 ⟨h.fit.size,λi x hx=>EV.jA (S:=S) (λ_ _ h=>h) (h.fit.fits i (.un x) hx),λi r pc x hx=>Nat.lt_succ_of_le (h.st i r pc x hx)⟩
def zug{C:UU}{ops:Array Oper}{D D':Nat->Prop}{dn:Nat->Bool}{i:Nat}{o:Oper}{S:St}{w:Wo}{a:Act}{K:MY->St->Wo->Prop}(hu:Bj ops)(ho:ops[i]? = some o)(hi:¬D i)(hD:∀j,D j->zv2 ops j)(hDD:∀j,D j->D' j)(hdn:∀j,dn j->zv2 ops j->D j)(hf:Ke C.n S ops D a)(WU:Gj S)(he:FB C o.op)(hw1:¬Region.wanted o (yielded ops a.tmps))(h:zc2 C ops dn o S w K) :
  ∃S',K none S' w/\Ke C.n S' ops D' (a.put o.dst undef)/\Gj S'/\Kf S S'/\S'.r=S.r/\S'.old=S.old/\(∀w wr,Zm S w wr↔Zm S' w wr):=by
 unfold zc2 at h
 cases hb:(z32 dn o && !E5 o) with
 |false=>rw[hb] at h;exact h.elim
 |true=>
  rw[hb] at h;simp only[cond_true] at h;simp only[A',ID] at hb
  have hg:∀j b,o.guard=some (j,b)->D j:=λj b hgd=>by
   refine hdn j ?_ ⟨o,by rw[Array.mem_toList_iff];exact Array.mem_of_getElem? ho,b,hgd⟩;have:=hb.1;unfold z32 at this;rw[hgd] at this;exact this
  split at h
  ·exact h.elim
  ·rename_i pc wK;have Ad1:=zqu hf wK hg;have wP:=Hk hf.fit wK
   have AH5:∀{sv:SV} (w wr:Wo),Zm S w wr↔Zm (S.cJ o.dst sv) w wr:=λ{sv} w wr=>by
    cases o.dst
    ·exact Iff.rfl
    ·exact⟨λh=>⟨h.ext,h.loc,h.len,h.wC,h.fresh⟩,λh=>⟨h.ext,h.loc,h.len,h.wC,h.fresh⟩⟩
   cases hdd:BW S ops pc o with
   |true=>
    rw[hdd] at h;simp only[cond_true] at h;have hp:=E8 hf.fit wK hdd;obtain⟨h1,h2⟩:=YJ h;exact⟨_,h1,hf.put hu ho hi hD hDD Ad1 h2 ⟨λhp'=>Ir hp' hp,λ_=>rfl⟩,WU.cJ _ _,(Kf.refl S).cJ _ _,by cases o.dst <;> rfl,by cases o.dst <;> rfl,AH5⟩
   |false=>
   rw[hdd] at h;simp only[cond_false] at h;rw[he] at h;simp only[cond_true] at h
   split at h
   ·exact Ir (wP.2 (λp hp=>by cases hp)) hw1
   ·cases hpo:zvb S ops pc with
    |false=>rw[hpo] at h;exact h.elim
    |true=>
     rw[hpo] at h;simp only[cond_true] at h;have hp:¬EA ops a pc:=λhp=>hw1 (wP.2 hp)
     obtain⟨h1,h2⟩:=YJ (h.2 (zlb hf.fit hpo hp));exact⟨_,h1,hf.put hu ho hi hD hDD Ad1 h2 ⟨λhp'=>Ir hp' hp,λ_=>rfl⟩,WU.cJ _ _,(Kf.refl S).cJ _ _,by cases o.dst <;> rfl,by cases o.dst <;> rfl,AH5⟩
def GY{C:UU}{ops:Array Oper}:∀{l:List Nat},Eg C ops l=none->∀i∈l,∀o,ops[i]? = some o->FB C o.op=true
 |[],_,i,hi,_,_=>by cases hi
 |j::r,h,i,hi,o,ho=>by
  simp only[Eg] at h
  split at h
  ·rename_i o' ho'
   cases he:FB C o'.op with
   |false=>rw[he] at h;cases h
   |true=>
    rw[he] at h;rcases Ii.1 hi with rfl|hi
    ·rw[ho'] at ho;cases ho;exact he
    ·exact GY h i hi o ho
  ·rename_i ho';rcases Ii.1 hi with rfl|hi
   ·rw[ho'] at ho;cases ho
   ·exact GY h i hi o ho
def zk2{ops:Array Oper}{i:Nat}{o:Oper}(ho:ops[i]? = some o):∀x,o.dst=some x->x∈GV ops.toList:=λx hx=>by
 have hm:o∈ops.toList:=by rw[Array.mem_toList_iff];exact Array.mem_of_getElem? ho
 generalize ops.toList=q at hm
 induction q with
 |nil=>cases hm
 |cons y q ih=>
  simp only[GV];rcases Ii.1 hm with rfl|hm
  ·rw[hx];exact I9 ..
  ·split
   ·exact I1 _ (ih hm)
   ·exact ih hm
def DL(ops:Array Oper)(Ry:Array Bool)(j:Nat):Prop:=Ry.getD j false/\zv2 ops j
def PQ(C:UU)(ops:Array Oper)(K:St->Wo->Prop)(S0:St)(w0:Wo)(a0:Act)(ds:List Nat)(a:Act)(R:Wo->Prop):Prop:=
 ∃S' w',K S' w'/\TR C.n { S' with r:=S'.r+1 } a/\Gj S'/\Kf S0 S'/\S'.r=S0.r/\DR ds a0 a/\(C.pm->w'=w0/\S'.old=S0.old)/\R=Zm S' w'
def PG{C:UU}(E:zry C){ops:Array Oper}(hu:Bj ops)(BX9:Region.noSelect ops){K:St->Wo->Prop}{S0:St}{w0:Wo}{a0:Act}{ds:List Nat}(hds:∀x∈GV ops.toList,x∈ds) :
  ∀(n:Nat) (Ry:Array Bool) (AH8:List (Nat×zfx)) (Pd:List (Nat×Option (Sem Next)×Va)) (S:St) (w:Wo) (a:Act),Ef C ops (T8 ops.toList []) n Ry AH8 S w K->DQ ops Ry->
   Ke C.n S ops (DL ops Ry) a->Gj S->Kf S0 S->S.r=S0.r->DR ds a0 a->(C.pm->w=w0/\S.old=S0.old)->
   (∀p∈Pd,(∃f:zfx,(p.1,f)∈AH8/\∀(S'':St) (qZ:Wo),Kf S S''->f S'' qZ->YS C.P (Zm S'' qZ) p.2.1 p.2.2)\/(∀(S'':St) (qZ:Wo),Kf S S''->YS C.P (Zm S'' qZ) p.2.1 p.2.2))->
   HF C.P ops (zj5 (T8 ops.toList [])) (PQ C ops K S0 w0 a0 ds) n Ry Pd a (Zm S w)
 |0,Ry,AH8,Pd,S,w,a,h,hcl,hf,WU,hfr,hr,hfa,qS,hpd=>by
  simp only[Ef] at h
  split at h
  ·rename_i hrd;exact⟨hrd,S,w,h,hf.leave,WU,hfr,hr,hfa,qS,rfl⟩
  ·exact h.elim
 |n+1,Ry,AH8,Pd,S,w,a,h,hcl,hf,WU,hfr,hr,hfa,qS,hpd=>by
  simp only[Ef] at h
  split at h
  ·rename_i hrd;exact⟨λ_=>⟨S,w,h,hf.leave,WU,hfr,hr,hfa,qS,rfl⟩,λi hi=>by rw[hrd] at hi;cases hi⟩
  ·rename_i hrd
   split at h
   ·rename_i i hi;obtain⟨him,o',ho',he⟩:=GZ hi
    split at h
    ·rename_i o ho;rw[ho] at ho';cases ho'
     cases AD1:Region.free .any ops Ry i with
     |false=>rw[AD1] at h;exact h.elim
     |true=>
      rw[AD1] at h;simp only[cond_true] at h;obtain⟨hun,_,_,zC⟩:=mem_ready.1 him
      have hni:¬DL ops Ry i:=λhd=>by
       have h1:=hd.1;rcases Nat.lt_or_ge i Ry.size with h'|h'
       ·simp[h'] at h1 hun;rw[h1] at hun;cases hun
       ·simp[Array.getElem?_eq_none h'] at h1
      obtain⟨f,v,S',hK,hf',A93,zF,hr',B15,AH5,hys,hyf⟩:=zp3 E (i:=i) (D':=DL ops (Ry.setIfInBounds i true)) hu ho hni (λj hj=>hj.2) (λj hj=>⟨getD_set_true hj.1,hj.2⟩) (λj h1 h2=>⟨h1,h2⟩) hf WU he h
      have BX0:DQ ops (Ry.setIfInBounds i true):=λk ok hk vE e he hb=>by
       by_cases hik:i=k
       ·subst hik;rw[ho] at hk;cases hk;obtain⟨_,o2,ho2,Ce7⟩:=mem_ready.1 him;rw[ho] at ho2;cases ho2;exact getD_set_true (Ce7 e he hb)
       ·rw[getD_set_ne true hik] at vE;exact getD_set_true (hcl k ok hk vE e he hb)
      have heq:Zm S w=Zm S' w:=funext λwr=>propext (AH5 w wr)
      refine zrj (λj o cs b hj=>Region.noSelect_spec BX9 j o cs b hj) (λRy i j h1 h2 h3 h4=>zpb Ry i j h1 h2 h3 h4) ho n Ry Pd a (Zm S w) hcl (λj oj hj hji CC1 rF=>Region.free_spec ho AD1 j oj hj hji CC1 rF) him hys ?_;rw[heq];refine PG E hu BX9 hds n _ (zs2 i f AH8) _ S' w _ hK BX0 hf' A93 (hfr.trans zF) (hr'.trans hr) (hfa.trans (DR.put a _ v ds λx hx=>hds x (zk2 ho x hx))) (λhp=>⟨(qS hp).1,B15.trans (qS hp).2⟩) λp hp=>?_
      rcases Ii.1 hp with rfl|hp
      ·cases f with
       |none=>exact .inr λS'' qZ hs=>hyf S'' qZ (zF.trans hs) trivial
       |some f=>exact .inl ⟨f,I9 ..,λS'' qZ hs hfc=>hyf S'' qZ (zF.trans hs) hfc⟩
      ·rcases hpd p hp with ⟨f',hm,hs'⟩|hs'
       ·refine .inl ⟨f',?_,λS'' qZ hs hfc=>hs' S'' qZ (zF.trans hs) hfc⟩
        cases f with
        |none=>exact hm
        |some f=>exact I1 _ hm
       ·exact .inr λS'' qZ hs=>hs' S'' qZ (zF.trans hs)
    ·exact h.elim
   ·rename_i AI8;refine⟨λh0=>Ir h0 (by assumption),λi hi o ho=>?_⟩;have h1:=zc0 h i hi;rw[ho] at h1;simp only at h1;have he:=GY AI8 i hi o ho;obtain⟨hun,o2,ho2,zC⟩:=mem_ready.1 hi;rw[ho] at ho2;cases ho2
    have hni:¬DL ops Ry i:=λhd=>by
     have h1:=hd.1;rcases Nat.lt_or_ge i Ry.size with h'|h'
     ·simp[h'] at h1 hun;rw[h1] at hun;cases hun
     ·simp[Array.getElem?_eq_none h'] at h1
    have BX0:DQ ops (Ry.setIfInBounds i true):=λk ok hk vE e he hb=>by
     by_cases hik:i=k
     ·subst hik;rw[ho] at hk;cases hk;exact getD_set_true (zC e he hb)
     ·rw[getD_set_ne true hik] at vE;exact getD_set_true (hcl k ok hk vE e he hb)
    by_cases hw1:Region.wanted o (yielded ops a.tmps)=true
    case neg=>
     obtain⟨S',hK,hf',A93,zF,hr',B15,AH5⟩:=zug (i:=i) (D':=DL ops (Ry.setIfInBounds i true)) hu ho hni (λj hj=>hj.2) (λj hj=>⟨getD_set_true hj.1,hj.2⟩) (λj h1 h2=>⟨h1,h2⟩) hf WU he hw1 h1;obtain⟨hev,_⟩:=LR hK;have heq:Zm S w=Zm S' w:=funext λwr=>propext (AH5 w wr)
     have hs0:UT ops o a=none:=by unfold UT;rw[B' hw1]
     refine .inl ⟨undef,by rw[hs0];rfl,?_⟩;rw[heq];refine PG E hu BX9 hds n _ AH8 _ S' w _ hev BX0 hf' A93 (hfr.trans zF) (hr'.trans hr) (hfa.trans (DR.put a _ _ ds λx hx=>hds x (zk2 ho x hx))) (λhp=>⟨(qS hp).1,B15.trans (qS hp).2⟩) λp hp=>?_
     rcases Ii.1 hp with rfl|hp
     ·exact .inr λS'' qZ hs=>by rw[hs0];rfl
     ·rcases hpd p hp with ⟨f',hm,hs'⟩|hs'
      ·exact .inl ⟨f',hm,λS'' qZ hs hfc=>hs' S'' qZ (zF.trans hs) hfc⟩
      ·exact .inr λS'' qZ hs=>hs' S'' qZ (zF.trans hs)
    refine .inr ⟨hw1,λwr hwr=>?_⟩
    have dH:=zc3 E (i:=i) (D':=DL ops (Ry.setIfInBounds i true))
     (N:=λa' w'=>(∃v,a'=a.put o.dst v)/\∃S' qZ,NU (T8 ops.toList []) i S' qZ AH8 (Ef C ops (T8 ops.toList []) n (Ry.setIfInBounds i true) AH8 S' qZ K)/\z2x C S w ops (DL ops (Ry.setIfInBounds i true)) o a S' qZ a' w') (Q:=λ_ _ _=>False)
     hu ho hni (λj hj=>hj.2) (λj hj=>⟨getD_set_true hj.1,hj.2⟩) (λj h1 h2=>⟨h1,h2⟩) hf hwr WU (λf S' w' a' Wy hK hL=>⟨hL.put,S',w',hK,hL⟩) h1
    rw[C' hw1] at dH;refine N8 (λv w' hN=>?_) (zpz (z05 h1) dH λa' w' hN=>hN.1);obtain⟨_,S',qZ,hpo,hL⟩:=hN;obtain⟨hev,CP8⟩:=LR hpo;refine⟨Zm S' qZ,hL.rel,λp hp hpu=>?_,PG E hu BX9 hds n _ AH8 Pd S' qZ _ hev BX0 hL.fit hL.wf (hfr.trans hL.fr) (hL.r.trans hr) (hfa.trans (DR.put a o.dst v ds λx hx=>hds x (zk2 ho x hx))) (λhp=>⟨(hL.pm hp).1.trans (qS hp).1,(hL.pm hp).2.trans (qS hp).2⟩) λp hp=>?_⟩
    ·rcases hpd p hp with ⟨f',hm,hs'⟩|hs'
     ·exact hs' S' qZ hL.fr (CP8 _ hm hpu)
     ·exact hs' S' qZ hL.fr
    ·rcases hpd p hp with ⟨f',hm,hs'⟩|hs'
     ·exact .inl ⟨f',hm,λS'' w3 hs hfc=>hs' S'' w3 (hL.fr.trans hs) hfc⟩
     ·exact .inr λS'' w3 hs=>hs' S'' w3 (hL.fr.trans hs)
structure Ym where
 chg:List (Nat×CK)
 WL:List (Nat×List CK)
 BI9:List Nat
 bN:List (TypeId×List CK):=[]
 ptr:List (Nat×Nat):=[]
def Xm:Code->List Nat
 |.region _ ops _=>GV ops.toList
 |.seq a b=>Xm a++Xm b
 |.cond _ a b=>Xm a++Xm b
 |.block _ b=>Xm b
 |.loop b=>Xm b
 |.scope b=>Xm b
 |_=>[]
def FL:Code->Option Nat
 |.region id _ _=>some id
 |.seq a b=>match FL a with
  |some k=>some k
  |none=>FL b
 |.cond _ a b=>match FL a with
  |some k=>some k
  |none=>FL b
 |.block _ b=>FL b
 |.loop b=>FL b
 |.scope b=>FL b
 |_=>none
def zqk:CK->Va->Bool
 |.int k,.int k' _=>decide (k=k')
 |.bool,.bool _=>true
 |.str,.string _=>true
 |.slice,.slice _ _ _=>true
 |.ptr,.pointer _=>true
 |.fn,.func _ _ _=>true
 |.iface,_=>true
 |.map,_=>true
 |.other,_=>true
 |_,_=>false
def z5q:CK->(Va->Prop)->Prop
 |.int k,K=>∀n:Int,K (.int k n)
 |.bool,K=>∀b:Bool,K (.bool b)
 |.str,K=>∀s:ByteArray,K (.string s)
 |.slice,K=>∀(o:OA) (l c:Nat),K (.slice o l c)
 |.ptr,K=>∀o:OA,K (.pointer o)
 |.fn,K=>∀(f:Fn) (a c:Array Va),K (.func f a c)
 |_,K=>∀v:Va,K v
def Fb:List CK->(List Va->Prop)->Prop
 |[],K=>K []
 |k::r,K=>z5q k λv=>Fb r λl=>K (v::l)
def zwe{k:CK}{K:Va->Prop}(h:z5q k K){v:Va}(hv:zqk k v):K v:=by
 cases k <;> cases v <;> simp only[zqk] at hv <;> first
  |exact h _
  |exact h _ _ _
  |(cases hv;done)
  |(simp only[Ij] at hv;subst hv;exact h _)
def U8:List CK->List Va->Bool
 |[],[]=>true
 |k::r,v::l=>zqk k v&&U8 r l
 |_,_=>false
def Of:∀{ks:List CK} {K:List Va->Prop} {vs:List Va},Fb ks K->U8 ks vs->K vs
 |[],_,[],h,_=>h
 |k::r,K,v::l,h,hk=>by
  simp only[U8,A'] at hk;exact Of (K:=λl=>K (v::l)) (zwe (K:=λv=>Fb r λl=>K (v::l)) h hk.1) hk.2
 |[],_,_::_,_,hk=>by simp[U8] at hk
 |_::_,_,[],_,hk=>by simp[U8] at hk
def HC(S:St):List (Nat×CK)->Option (List Va)
 |[]=>some []
 |(i,_)::r=>match S.F.get i with
  |some (.un e)=>match z2y S e,HC S r with
   |some x,some l=>some (x::l)
   |_,_=>none
  |_=>none
def Lk(S:St):List (Nat×List CK)->Option (List Va)
 |[]=>some []
 |(id,ks)::r=>match S.L[id]?,Lk S r with
  |some (_,cs),some l=>bif Nat.beq cs.length ks.length then some (cs++l) else none
  |_,_=>none
def Ym.ks(sp:Ym):List CK:=sp.chg.map (·.2)++sp.WL.flatMap (·.2)
def zdd(S:St)(sp:Ym)(K:List Va->Prop):Prop:=
 match HC S sp.chg,Lk S sp.WL with
 |some xs,some ys=>bif U8 sp.ks (xs++ys) then K (xs++ys) else False
 |_,_=>False
def zi1(F:PT SV):List Nat->PT SV
 |[]=>.leaf
 |i::r=>match F.get i with
  |some (.un e)=>PT.set 12 (zi1 F r) i (.un e)
  |_=>zi1 F r
def ztf(F:PT SV):List (Nat×CK)->List Va->PT SV
 |(i,_)::r,v::vs=>PT.set 12 (ztf F r vs) i (.un (.v v))
 |_,_=>F
def Vh(L:List (TypeId×List Va)):List (Nat×List CK)->List Va->List (TypeId×List Va)
 |[],_=>L
 |(id,ks)::r,vs=>match L[id]? with
  |some (t,_)=>Vh (L.set id (t,vs.take ks.length)) r (vs.drop ks.length)
  |none=>Vh L r (vs.drop ks.length)
def DK(S:St)(sp:Ym):List Nat:=(List.range S.L.length).filter λid => !Ky (sp.WL.map (·.1)) id
def YI(S:St)(sp:Ym)(vs:List Va):St:=
 { S with F:=ztf (zi1 S.F sp.BI9) sp.chg (vs.take sp.chg.length),L:=Vh S.L sp.WL (vs.drop sp.chg.length),lk:=DK S sp }
def zek:List Nat->Bool
 |[]=>true
 |x::r => !Ky r x&&zek r
def zvn(S:St)(sp:Ym)(ds:List Nat):Bool:=
 (sp.BI9.all λi => !Ky ds i&&Nat.blt i 4000)&&(sp.chg.all λp=>Nat.blt p.1 4000 && !Ky sp.BI9 p.1)&&zek (sp.chg.map (·.1))&&zek (sp.WL.map (·.1))&&(sp.WL.all λp=>match S.L[p.1]? with
  |some (_,cs)=>Nat.beq cs.length p.2.length && !Ky S.lk p.1
  |none=>false)
def Ym.nks(sp:Ym):List CK:=sp.bN.flatMap (·.2)
def zr0:Nat->(List Nat->Prop)->Prop
 |0,K=>K []
 |n+1,K=>∀b:Nat,zr0 n λl=>K (b::l)
def BO:∀{n:Nat} {K:List Nat->Prop} {bs:List Nat},zr0 n K->bs.length=n->K bs
 |0,_,[],h,_=>h
 |n+1,K,b::l,h,hl=>BO (K:=λl=>K (b::l)) (h b) (by simpa using hl)
 |0,_,_::_,_,hl=>by simp at hl
 |_+1,_,[],_,hl=>by simp at hl
def Hh:List (TypeId×List CK)->List Va->List (TypeId×List Va)
 |[],_=>[]
 |(t,ks)::r,vs=>(t,vs.take ks.length)::Hh r (vs.drop ks.length)
def zjd(S:St):Nat->List (TypeId×List CK)->Option (List Va)
 |_,[]=>some []
 |n,(t,ks)::r=>match S.L[n]?,zjd S (n+1) r with
  |some (t',cs),some l=>bif Nat.beq t' t&&Nat.beq cs.length ks.length then some (cs++l) else none
  |_,_=>none
def zjk(S:St)(n k:Nat)(l:List (Nat×Nat)):Bool:=l.all λp=>Nat.blt p.1 4000&&Nat.blt p.2 k&&match S.F.get p.1 with
 |some (.un (.loc id 0))=>Nat.beq id (n+p.2)
 |_=>false
def zte(F:PT SV)(n:Nat):List (Nat×Nat)->PT SV
 |[]=>F
 |(i,j)::r=>PT.set 12 (zte F n r) i (.un (.loc (n+j) 0))
def DC(S:St)(sp:Ym)(vs zs:List Va)(bs:List Nat):St:=
 { F:=zte (YI S sp vs).F S.L.length sp.ptr,L:=(YI S sp vs).L++Hh sp.bN zs,B:=S.B++bs,old:=S.old,lk:=S.lk,r:=S.r }
def zsl(S S':St)(sp:Ym)(K:List Va->List Nat->Prop):Prop:=
 match zjd S' S.L.length sp.bN with
 |some zs=>bif U8 sp.nks zs&&zjk S' S.L.length sp.bN.length sp.ptr then zdd S' sp λvs=>K (vs++zs) ((S'.B.drop S.B.length).take sp.bN.length) else False
 |none=>False
def z51(sps:List (Nat×Ym))(b:Code):Option Ym:=match sps with
 |[]=>none
 |_=>match FL b with
  |some k=>zps sps (k+1000000)
  |none=>none
def AB4(S:St)(c:Operand)(x:Bool):St:=
 match c with
 |.tmp t=>bif Nat.blt t 4000 then { S with F:=PT.set 12 S.F t (.un (.kb x)) } else S
 |_=>S
def Ai(C:UU)(sps:List (Nat×Ym)):Code->St->Wo->(Exit->St->Wo->Prop)->Prop
 |.skip,S,w,K=>K .normal S w
 |.label _,S,w,K=>K .normal S w
 |.region _ ops d,S,w,K=>zxj C ops d S w (K .normal)
 |.seq a b,S,w,K=>match z51 sps b with
  |none=>Ai C sps a S w λe S' w'=>match e with
   |.normal=>Ai C sps b S' w' K
   |e=>K e S' w'
  |some sp=>bif zvn S sp (Xm a) then
    bif C.pm then
     ∃rQ:List Va->List Nat->Prop,(Ai C sps a { S with lk:=DK S sp } w λe S' w'=>match e with
       |.normal=>zsl S S' sp rQ
       |e=>K e { S' with lk:=S.lk } w')/\
      Fb sp.ks λvs=>Fb sp.nks λzs=>zr0 sp.bN.length λbs=>rQ (vs++zs) bs->Ai C sps b (DC S sp vs zs bs) w K
    else
     ∃rQ:List Va->List Nat->Wo->Prop,(Ai C sps a { S with lk:=DK S sp } w λe S' w'=>match e with
       |.normal=>∀wr,Q0 S'.bs w' wr->(∀b∈S'.B,b<wr.heap.size)->zsl S S' sp λvs bs=>rQ vs bs wr
       |e=>K e { S' with lk:=S.lk } w')/\
      Fb sp.ks λvs=>Fb sp.nks λzs=>zr0 sp.bN.length λbs=>∀w1,(∀b∈S.B++bs,b<w1.heap.size)->rQ (vs++zs) bs w1->Ai C sps b (DC S sp vs zs bs).dA w1 K
   else False
 |.cond c a b,S,w,K=>match zfv S [] c with
  |some (.kb true)=>Ai C sps a S w K
  |some (.kb false)=>Ai C sps b S w K
  |some (.v (.bool x))=>(x->Ai C sps a (AB4 S c true) w K)/\(x=false->Ai C sps b (AB4 S c false) w K)
  |_=>False
 |.block id b,S,w,K=>Ai C sps b S w λe S' w'=>match e with
  |.exit id'=>bif Nat.beq id' id then K .normal S' w' else K e S' w'
  |e=>K e S' w'
 |.scope b,S,w,K=>Ai C sps b S w λe S' w'=>match e with
  |.goto _=>False
  |e=>K e S' w'
 |.exit id,S,w,K=>K (.exit id) S w
 |.ret,S,w,K=>K .ret S w
 |.loop b,S,w,K=>match FL b with
  |none=>False
  |some key=>match zps sps key with
   |none=>False
   |some sp=>bif zvn S sp (Xm b) then
     bif C.pm then
      ∃(Xk:List Va->Prop) (μ:List Va->Nat),zdd S sp Xk/\Fb sp.ks λvs=>Xk vs->Ai C sps b (YI S sp vs) w λe S' w'=>match e with
       |.normal=>zdd S' sp λvs'=>Xk vs'/\μ vs'<μ vs
       |e=>K e { S' with lk:=S.lk } w'
     else
      ∃(Xk:List Va->Wo->Prop) (μ:List Va->Wo->Nat),(∀wr,Q0 S.bs w wr->(∀b∈S.B,b<wr.heap.size)->zdd S sp λvs=>Xk vs wr)/\
       Fb sp.ks λvs=>∀w1,(∀b∈S.B,b<w1.heap.size)->Xk vs w1->Ai C sps b (YI S.dA sp vs) w1 λe S' w'=>match e with
       |.normal=>∀wr,Q0 S'.bs w' wr->(∀b∈S'.B,b<wr.heap.size)->zdd S' sp λvs'=>Xk vs' wr/\μ vs' wr<μ vs w1
       |e=>K e { S' with lk:=S.lk } w'
    else False
 |_,_,_,_=>False
structure M1 (C:UU) (S:St) (w:Wo) (ds:List Nat) (a:Act) (S':St) (w':Wo) (a':Act) (Wy:Wo):Prop where
 fit:TR C.n S' a'
 rel:Zm S' w' Wy
 wf:Gj S'
 fr:Kf S S'
 fra:DR ds a a'
 pm:C.pm->w'=w/\S'.old=S.old
def M1.refl{C:UU}{S:St}{w wr:Wo}{a:Act}(ds:List Nat)(h1:TR C.n S a)(h2:Zm S w wr)(h3:Gj S):M1 C S w ds a S w a wr:=⟨h1,h2,h3,Kf.refl S,DR.refl _ _,λ_=>⟨rfl,rfl⟩⟩
def M1.trans{C:UU}{S S1 S2:St}{w w1 w2 R6 R7:Wo}{ds es fs:List Nat}{a a1 a2:Act}(h:M1 C S w ds a S1 w1 a1 R6)(k:M1 C S1 w1 es a1 S2 w2 a2 R7)(hd:∀x∈ds,x∈fs)(he:∀x∈es,x∈fs):M1 C S w fs a S2 w2 a2 R7:=
 ⟨k.fit,k.rel,k.wf,h.fr.trans k.fr,(h.fra.mono hd).trans (k.fra.mono he),λhp=>⟨(k.pm hp).1.trans (h.pm hp).1,(k.pm hp).2.trans (h.pm hp).2⟩⟩
def M1.mono{C:UU}{S S1:St}{w w1 R6:Wo}{ds fs:List Nat}{a a1:Act}(h:M1 C S w ds a S1 w1 a1 R6)(hd:∀x∈ds,x∈fs):M1 C S w fs a S1 w1 a1 R6:=
 ⟨h.fit,h.rel,h.wf,h.fr,h.fra.mono hd,h.pm⟩
def zni{C:UU}(E:zry C){id:Nat}{ops:Array Oper}{d:Bool}{S:St}{w wr:Wo}{a:Act}{K:St->Wo->Prop}{Q:Exit->Act->Wo->Prop}(h:zxj C ops d S w K)(hf:TR C.n S a)(hw:Zm S w wr)(WU:Gj S)(hQ:∀S' w' a' Wy,K S' w'->M1 C S w (GV ops.toList) a S' w' a' Wy->Q .normal a' Wy):(Code.region id ops d).wpIn (PS C.rd) 0 C.P Q a wr:=by
 unfold zxj at h
 cases hu:Bj ops with
 |false=>rw[hu] at h;exact h.elim
 |true=>
  rw[hu] at h;simp only[cond_true] at h;have AH5:∀{S1:St} {w1 R6:Wo},Zm S1 w1 R6->Zm { S1 with r:=S1.r+1 } w1 R6:=λh=>⟨h.ext,h.loc,h.len,h.wC,h.fresh⟩
  have Cm0:Gj { S with r:=S.r+1 }:=⟨WU.old,WU.lk⟩
  cases d with
  |false=>
   simp only[cond_false] at h;refine wpIn_region_list ?_
   refine Aj E hu (S0:={ S with r:=S.r+1 }) (w0:=w) (a0:=a) (ds:=GV ops.toList) (λx hx=>hx) (λS' w' a' Wy hK hf' hw' A93 zF hr' CP7 CQ9=>?_) ops.toList 0 _ w wr a (λj=>by simp) Qs h
    (hf.enter ops _) (AH5 hw) Cm0 (Kf.refl _) rfl (DR.refl _ _) (λ_=>⟨rfl,rfl⟩)
   exact hQ _ _ _ _ hK ⟨hf'.leave,AH5 hw',⟨A93.old,A93.lk⟩,⟨zF.B,zF.ty,zF.lk⟩,CP7,CQ9⟩
  |true=>
   simp only[cond_true] at h
   cases hs:Region.noSelect ops with
   |false=>rw[hs] at h;exact h.elim
   |true=>
    rw[hs] at h;simp only[cond_true] at h
    have hp:=PG E hu hs (S0:={ S with r:=S.r+1 }) (w0:=w) (a0:=a) (ds:=GV ops.toList) (λx hx=>hx) ops.size (Array.replicate ops.size false) [] [] _ w a h
     (λj o _ hl=>by
      rcases Nat.lt_or_ge j ops.size with h'|h'
      ·simp[h'] at hl
      ·rename_i ho;rw[Array.getElem?_eq_none h'] at ho;cases ho)
     (hf.enter ops _) Cm0 (Kf.refl _) rfl (DR.refl _ _) (λ_=>⟨rfl,rfl⟩) (λp hp=>by cases hp)
    refine wpIn_region_any E.mixed (G4 (λa' R w' hPQ hR=>?_) ops.size _ [] a (Zm { S with r:=S.r+1 } w) { wr with drawn:=wr.drawn+1 } ?_ hp)
    ·obtain⟨S',w1,hK,hf',A93,zF,hr',CP7,CQ9,rfl⟩:=hPQ;exact hQ _ _ _ _ hK ⟨hf',AH5 hR,⟨A93.old,A93.lk⟩,⟨zF.B,zF.ty,zF.lk⟩,CP7,CQ9⟩
    ·exact⟨hw.ext.drawn _,hw.loc,hw.len,hw.wC,hw.fresh⟩
def Nz{F:PT SV}:∀{l:List Nat} {i:Nat} {sv:SV},(∀x∈l,x<4000)->(zi1 F l).get i=some sv->i∈l/\F.get i=some sv/\∃e,sv=.un e
 |[],i,sv,_,h=>by simp[zi1,PT.get] at h
 |k::r,i,sv,hl,h=>by
  have hr:∀x∈r,x<4000:=λx hx=>hl x (I1 _ hx)
  simp only[zi1] at h
  split at h
  ·rename_i e he;rw[PT.rS _ 12 _ _ _ (by have h1:=hl k (I9 ..);show @LT.lt Nat _ (k+1) (2 ^ 12);omega)] at h
   by_cases hk:k=i
   ·subst hk;rw[C' rfl] at h;simp only[I0] at h;subst h;exact⟨I9 ..,he,e,rfl⟩
   ·rw[B' hk] at h;obtain⟨h1,h2,h3⟩:=Nz hr h;exact⟨I1 _ h1,h2,h3⟩
  ·obtain⟨h1,h2,h3⟩:=Nz hr h;exact⟨I1 _ h1,h2,h3⟩
def zjs{F:PT SV}:∀{chg:List (Nat×CK)} {vs:List Va} {i:Nat} {sv:SV},(∀p∈chg,p.1<4000)->(ztf F chg vs).get i=some sv->
  (∃(j:Nat) (k:CK) (v:Va),chg[j]? = some (i,k)/\vs[j]? = some v/\sv=.un (.v v))\/F.get i=some sv
 |[],vs,i,sv,_,h=>.inr h
 |(a,k)::r,[],i,sv,_,h=>.inr h
 |(a,k)::r,v::vs,i,sv,hl,h=>by
  have hr:∀p∈r,p.1<4000:=λx hx=>hl x (I1 _ hx)
  simp only[ztf] at h;rw[PT.rS _ 12 _ _ _ (by have h1:=hl (a,k) (I9 ..);show @LT.lt Nat _ (a+1) (2 ^ 12);simp only at h1;omega)] at h
  by_cases hk:a=i
  ·subst hk;rw[C' rfl] at h;simp only[I0] at h;exact .inl ⟨0,k,v,rfl,rfl,h.symm⟩
  ·rw[B' hk] at h;rcases zjs hr h with ⟨j,k',v',h1,h2,h3⟩|h1
   ·exact .inl ⟨j+1,k',v',by simpa using h1,by simpa using h2,h3⟩
   ·exact .inr h1
def UR{S:St}:∀{chg:List (Nat×CK)} {xs:List Va},HC S chg=some xs->xs.length=chg.length/\∀(j i:Nat) (k:CK) (v:Va),chg[j]? = some (i,k)->xs[j]? = some v->∃e,S.F.get i=some (.un e)/\z2y S e=some v
 |[],xs,h=>by simp only[HC,I0] at h;subst h;exact⟨rfl,λj i k v hj=>by simp at hj⟩
 |(a,k)::r,xs,h=>by
  simp only[HC] at h
  split at h
  ·rename_i e he
   split at h
   ·rename_i x l hx hl;simp only[I0] at h;subst h;obtain⟨h1,h2⟩:=UR hl;refine⟨by simp[h1],λj i k' v hj hv=>?_⟩
    cases j with
    |zero=>
     simp only[Ie,I0,Prod.mk.injEq] at hj hv;obtain⟨rfl,rfl⟩:=hj;subst hv;exact⟨e,he,hx⟩
    |succ j=>exact h2 j i k' v (by simpa using hj) (by simpa using hv)
   ·cases h
  ·cases h
def Aq:∀{l:List Nat},zek l->l.Nodup
 |[],_=>List.nodup_nil
 |x::r,h=>by
  simp only[zek,A',ID] at h;exact List.nodup_cons.2 ⟨KY h.1,Aq h.2⟩
def Ld{S':St}:∀{WL:List (Nat×List CK)} {L:List (TypeId×List Va)} {ys:List Va},(WL.map (·.1)).Nodup->Lk S' WL=some ys->(∀(id:Nat) (t:TypeId) (cs:List Va),L[id]? = some (t,cs)->∃vD,S'.L[id]? = some (t,vD))->
  (Vh L WL ys).length=L.length/\
  (∀(id:Nat),id∉WL.map (·.1)->(Vh L WL ys)[id]? = L[id]?)/\
  (∀(id:Nat) (t:TypeId) (cs:List Va),id∈WL.map (·.1)->(Vh L WL ys)[id]? = some (t,cs)->S'.L[id]? = some (t,cs))
 |[],L,ys,_,_,_=>⟨rfl,λ_ _=>rfl,λid t cs h=>by cases h⟩
 |(a,ks)::r,L,ys,hnd,hv,hty=>by
  have CC8:=List.nodup_cons.1 (by simpa using hnd:(a::r.map (·.1)).Nodup);simp only[Lk] at hv
  split at hv
  ·rename_i t' vD l ha hl
   cases hb:Nat.beq vD.length ks.length with
   |false=>rw[hb] at hv;cases hv
   |true=>
    rw[hb] at hv;simp only[cond_true,I0] at hv;subst hv;have hlen:vD.length=ks.length:=Ib hb;have ht:(vD++l).take ks.length=vD:=by rw[<-hlen];exact List.take_left
    have hdr:(vD++l).drop ks.length=l:=by rw[<-hlen];exact List.drop_left
    simp only[Vh]
    cases hLa:L[a]? with
    |none=>
     simp only[hdr];obtain⟨h1,h2,h3⟩:=Ld (L:=L) CC8.2 hl hty;refine⟨h1,λid bR=>h2 id (λh=>bR (I1 _ h)),λid t cs bR hc=>?_⟩;rcases Ii.1 bR with rfl|bR
     ·rw[h2 _ CC8.1] at hc;rw[hLa] at hc;cases hc
     ·exact h3 id t cs bR hc
    |some q=>
     obtain⟨t0,c0⟩:=q;simp only[ht,hdr];have IV:a<L.length:=(I8.1 hLa).1;obtain⟨cs1,eR⟩:=hty a t0 c0 hLa;rw[ha] at eR;simp only[I0,Prod.mk.injEq] at eR;obtain⟨rfl,rfl⟩:=eR
     obtain⟨h1,h2,h3⟩:=Ld (L:=L.set a (t',vD)) CC8.2 hl (λid t cs hc=>by
      by_cases he:a=id
      ·subst he;rw[List.getElem?_set_self IV] at hc;cases hc;exact⟨_,ha⟩
      ·rw[List.getElem?_set_ne he] at hc;exact hty id t cs hc)
     refine⟨by rw[h1];simp,λid bR=>?_,λid t cs bR hc=>?_⟩
     ·rw[h2 id (λh=>bR (I1 _ h))];exact List.getElem?_set_ne (λe=>bR (by subst e;exact I9 ..))
     ·rcases Ii.1 bR with rfl|bR
      ·rw[h2 _ CC8.1] at hc;rw[List.getElem?_set_self IV] at hc;cases hc;exact ha
      ·exact h3 id t cs bR hc
  ·cases hv
structure EN (S:St) (sp:Ym) (ds:List Nat):Prop where
 BI9:∀i∈sp.BI9,i∉ds/\i<4000
 chg:∀p∈sp.chg,p.1<4000
 nd:(sp.WL.map (·.1)).Nodup
 WL:∀id∈sp.WL.map (·.1),id∉S.lk
def zfi{S:St}{sp:Ym}{ds:List Nat}(h:zvn S sp ds):EN S sp ds:=by
 simp only[zvn,A',List.all_eq_true,ID] at h;obtain⟨⟨⟨⟨h1,h2⟩,_⟩,h4⟩,h5⟩:=h;refine⟨λi hi=>⟨KY (h1 i hi).1,Ik (h1 i hi).2⟩,λp hp=>Ik (h2 p hp).1,Aq h4,λid bR=>?_⟩;obtain⟨p,hp,rfl⟩:=List.mem_map.1 bR;have:=h5 p hp
 split at this
 ·simp only[A',ID] at this;exact KY this.2
 ·cases this
def PU{S:St}{sp:Ym}{id:Nat}:id∈DK S sp↔id<S.L.length/\id∉sp.WL.map (·.1):=by
 unfold DK;simp only[List.mem_filter,List.mem_range,ID];refine and_congr_right λ_=>?_
 constructor
 ·exact KY
 ·intro h;rw[Bool.eq_false_iff];intro hb;simp only[Ky,List.any_eq_true] at hb;obtain⟨y,hy,he⟩:=hb;exact h (Ib he▸hy)
def zc9{n:Nat}{S S':St}{sp:Ym}{ds:List Nat}(hs:EN S sp ds){a a':Act}(hf:TR n S a)(hf':TR n S' a')(hfa:DR ds a a'){xs ys:List Va}(hx:HC S' sp.chg=some xs):TR n (YI S sp (xs++ys)) a':=by
 obtain⟨hxl,hxg⟩:=UR hx;have htk:(xs++ys).take sp.chg.length=xs:=by rw[<-hxl];exact List.take_left
 have AY2:∀i sv,(YI S sp (xs++ys)).F.get i=some sv->(∃(j:Nat) (k:CK) (v:Va),sp.chg[j]? = some (i,k)/\xs[j]? = some v/\sv=.un (.v v))\/(i∈sp.BI9/\S.F.get i=some sv/\∃e,sv=.un e):=λi sv h=>by
  simp only[YI,htk] at h;rcases zjs (λp hp=>hs.chg p hp) h with h1|h1
  ·exact .inl h1
  ·exact .inr (Nz (λx hx=>(hs.BI9 x hx).2) h1)
 refine⟨hf'.size,λi x h=>?_,λi r pc x h=>?_⟩
 ·rcases AY2 i _ h with ⟨j,k,v,h1,h2,h3⟩|⟨h1,h2,_⟩
  ·obtain⟨e,he,hv⟩:=hxg j i k v h1 h2;have:=zaw hv (hf'.fits i e he);cases h3;exact this
  ·have h3:=hf.fits i x h2;rw[<-hfa.2.2 i (hs.BI9 i h1).1] at h3;exact EV.jA (S:=S) (λ_ _ h=>h) h3
 ·rcases AY2 i _ h with ⟨j,k,v,h1,h2,h3⟩|⟨h1,h2,e,h3⟩ <;> cases h3
def zj3{l m:List Nat}{k:Nat}(hk:k<=l.length)(h:∀(i b:Nat),l[i]? = some b->m[i]? = some b):m.take k=l.take k:=by
 apply List.ext_getElem?
 intro i;rw[List.getElem?_take,List.getElem?_take]
 by_cases hi:i<k
 ·rw[C' hi,C' hi];have hl:i<l.length:=Nat.lt_of_lt_of_le hi hk;rw[h i l[i] (Il hl),Il hl]
 ·rw[B' hi,B' hi]
def zda{S S':St}{sp:Ym}{w w' wr Wy:Wo}{ds:List Nat}(hs:EN S sp ds)(hw:Zm S w wr)(hw':Zm S' w' Wy)(hB:∀(id b:Nat),S.B[id]? = some b->S'.B[id]? = some b)(hty:∀(id:Nat) (t:TypeId) (cs:List Va),S.L[id]? = some (t,cs)->∃vD,S'.L[id]? = some (t,vD))(hlk:∀id,id<S.L.length->id∉sp.WL.map (·.1)->S'.L[id]? = S.L[id]?){xs ys:List Va}(hxl:xs.length=sp.chg.length)(hy:Lk S' sp.WL=some ys) :
  (YI S sp (xs++ys)).L.length=S.L.length/\∀(id:Nat) (t:TypeId) (cs:List Va),(YI S sp (xs++ys)).L[id]? = some (t,cs)->∃b,S.B[id]? = some b/\Wy.heap[b]? = some (Obj.cells cs.toArray t (0,0)):=by
 have hdr:(xs++ys).drop sp.chg.length=ys:=by rw[<-hxl];exact List.drop_left
 obtain⟨h1,h2,h3⟩:=Ld (L:=S.L) hs.nd hy hty;have hL:(YI S sp (xs++ys)).L=Vh S.L sp.WL ys:=by simp only[YI,hdr]
 rw[hL];refine⟨h1,λid t cs hc=>?_⟩;have bR:id<S.L.length:=by rw[<-h1];exact(I8.1 hc).1
 have hb:S.B[id]? = some (S.B[id]'(by rw[<-hw.len];exact bR)):=Il _
 have hS':S'.L[id]? = some (t,cs):=by
  by_cases hm:id∈sp.WL.map (·.1)
  ·exact h3 id t cs hm hc
  ·rw[h2 id hm] at hc;rw[hlk id bR hm];exact hc
 obtain⟨b',jR,hh⟩:=hw'.loc id t cs hS';rw[hB _ _ hb] at jR;cases jR;exact⟨_,hb,hh⟩
def KP{S:St}{sp:Ym}{K:List Va->Prop}(h:zdd S sp K):∃xs ys,HC S sp.chg=some xs/\Lk S sp.WL=some ys/\U8 sp.ks (xs++ys)/\K (xs++ys):=by
 unfold zdd at h
 split at h
 ·rename_i xs ys hx hy
  cases hk:U8 sp.ks (xs++ys) with
  |false=>rw[hk] at h;exact h.elim
  |true=>rw[hk] at h;exact⟨xs,ys,hx,hy,hk,h⟩
 ·exact h.elim
def znv{S S':St}{sp:Ym}{ds:List Nat}(hs:EN S sp ds)(WU:Gj S){vs:List Va}(hL:(YI S sp vs).L.length=S.L.length)(hLt:∀(id:Nat) (t:TypeId) (cs:List Va),S.L[id]? = some (t,cs)->∃vD,(YI S sp vs).L[id]? = some (t,vD))(hLk:∀id,id∉sp.WL.map (·.1)->(YI S sp vs).L[id]? = S.L[id]?)(hfr:Kf (YI S sp vs) S'):Kf S { S' with lk:=S.lk }/\(∀id,id<S.L.length->id∉sp.WL.map (·.1)->S'.L[id]? = S.L[id]?):=by
 have h2:∀id,id<S.L.length->id∉sp.WL.map (·.1)->S'.L[id]? = S.L[id]? := λid bR hm=>by
  have:=hfr.lk id (PU.2 ⟨bR,hm⟩);rw[this.2,hLk id hm]
 refine⟨⟨λid b hb=>hfr.B id b hb,λid t cs hc=>?_,λid bR=>⟨bR,h2 id (WU.lk id bR) (λhm=>hs.WL id hm bR)⟩⟩,h2⟩;obtain⟨cs1,h1⟩:=hLt id t cs hc;exact hfr.ty id t cs1 h1
def zje{S:St}:∀{l:List (TypeId×List CK)} {n:Nat} {zs:List Va},zjd S n l=some zs->(Hh l zs).length=l.length/\(∀j,j<l.length->n+j<S.L.length)/\∀j,(Hh l zs)[j]? = if j<l.length then S.L[n+j]? else none
 |[],n,zs,h=>⟨rfl,λj hj=>Ir hj (Nat.not_lt_zero j),λj=>by simp[Hh]⟩
 |(t,ks)::r,n,zs,h=>by
  simp only[zjd] at h
  split at h
  ·rename_i t' cs l hL hl
   cases hb:Nat.beq t' t&&Nat.beq cs.length ks.length with
   |false=>rw[hb] at h;cases h
   |true=>
    rw[hb] at h;simp only[cond_true,I0] at h;subst h;simp only[A'] at hb;have h1:=Ib hb.1;have h2:=Ib hb.2;subst h1;obtain⟨g1,g2,g3⟩:=zje hl;have ht:(cs++l).take ks.length=cs:=by rw[<-h2];exact List.take_left
    have hdr:(cs++l).drop ks.length=l:=by rw[<-h2];exact List.drop_left
    simp only[Hh,ht,hdr];refine⟨by simp[g1],λj hj=>?_,λj=>?_⟩
    ·cases j with
     |zero=>exact(I8.1 hL).1
     |succ j=>have:=g2 j (by simpa using hj);omega
    ·cases j with
     |zero=>simp[hL]
     |succ j=>
      have:=g3 j;simp only[List.getElem?_cons_succ,List.length_cons];rw[this];have e:n+1+j=n+(j+1):=Qo;rw[e]
      by_cases hj:j<r.length
      ·rw[C' hj,C' Qo]
      ·rw[B' hj,B' Qo]
  ·cases h
def zqz{S:St}{n k:Nat}{l:List (Nat×Nat)}(h:zjk S n k l):∀p∈l,p.1<4000/\p.2<k/\S.F.get p.1=some (.un (.loc (n+p.2) 0)):=λp hp=>by
 simp only[zjk,List.all_eq_true,A'] at h;obtain⟨⟨h1,h2⟩,h3⟩:=h p hp;refine⟨Ik h1,Ik h2,?_⟩
 split at h3
 ·rename_i id bR;rw[bR,Ib h3]
 ·cases h3
def NY{F:PT SV}{n:Nat}:∀{l:List (Nat×Nat)} {i:Nat} {sv:SV},(∀p∈l,p.1<4000)->(zte F n l).get i=some sv->(∃j,(i,j)∈l/\sv=.un (.loc (n+j) 0))\/F.get i=some sv
 |[],i,sv,_,h=>.inr h
 |(a,j)::r,i,sv,hl,h=>by
  have hr:∀p∈r,p.1<4000:=λx hx=>hl x (I1 _ hx)
  simp only[zte] at h;rw[PT.rS _ 12 _ _ _ (by have h1:=hl (a,j) (I9 ..);show @LT.lt Nat _ (a+1) (2 ^ 12);simp only at h1;omega)] at h
  by_cases hk:a=i
  ·subst hk;rw[C' rfl] at h;simp only[I0] at h;exact .inl ⟨j,I9 ..,h.symm⟩
  ·rw[B' hk] at h;rcases NY hr h with ⟨q,h1,h2⟩|h1
   ·exact .inl ⟨q,I1 _ h1,h2⟩
   ·exact .inr h1
def zi0{S S':St}{sp:Ym}{K:List Va->List Nat->Prop}(h:zsl S S' sp K):∃xs ys zs,HC S' sp.chg=some xs/\Lk S' sp.WL=some ys/\zjd S' S.L.length sp.bN=some zs/\U8 sp.ks (xs++ys)/\U8 sp.nks zs/\zjk S' S.L.length sp.bN.length sp.ptr/\
  K (xs++ys++zs) ((S'.B.drop S.B.length).take sp.bN.length):=by
 unfold zsl at h
 split at h
 ·rename_i zs hz
  cases hb:U8 sp.nks zs&&zjk S' S.L.length sp.bN.length sp.ptr with
  |false=>rw[hb] at h;exact h.elim
  |true=>
   rw[hb] at h;simp only[cond_true] at h;simp only[A'] at hb;obtain⟨xs,ys,h1,h2,h3,h4⟩:=KP h;exact⟨xs,ys,zs,h1,h2,hz,h3,hb.1,hb.2,h4⟩
 ·exact h.elim
def zvf{l m:List Nat}(h:∀(i b:Nat),l[i]? = some b->m[i]? = some b):m.take l.length=l:=by
 have:=zj3 (I7 l.length) h;rw[this,List.take_length]
def zsm{n:Nat}{S S':St}{sp:Ym}{w w' wr Wy:Wo}{ds:List Nat}{a a':Act}(hs:EN S sp ds)(hf:TR n S a)(hw:Zm S w wr)(WU:Gj S)(hf':TR n S' a')(hw':Zm S' w' Wy)(hfa:DR ds a a')(hfr:Kf { S with lk:=DK S sp } S'){xs ys zs:List Va}(hx:HC S' sp.chg=some xs)(hy:Lk S' sp.WL=some ys)(hz:zjd S' S.L.length sp.bN=some zs)(hp:zjk S' S.L.length sp.bN.length sp.ptr) :
  ((S'.B.drop S.B.length).take sp.bN.length).length=sp.bN.length/\(∀b∈S.B++(S'.B.drop S.B.length).take sp.bN.length,b∈S'.B)/\
  TR n (DC S sp (xs++ys) zs ((S'.B.drop S.B.length).take sp.bN.length)) a'/\Gj (DC S sp (xs++ys) zs ((S'.B.drop S.B.length).take sp.bN.length))/\Kf S (DC S sp (xs++ys) zs ((S'.B.drop S.B.length).take sp.bN.length))/\
  Zm (DC S sp (xs++ys) zs ((S'.B.drop S.B.length).take sp.bN.length)).dA Wy Wy/\(w'=w->S'.old=S.old->Zm (DC S sp (xs++ys) zs ((S'.B.drop S.B.length).take sp.bN.length)) w Wy):=by
 obtain⟨n1,n2,n3⟩:=zje hz;have hB:∀(id b:Nat),S.B[id]? = some b->S'.B[id]? = some b:=hfr.B;have Ck0:=zvf hB;have Ch6:=hw.len;have C93:=hw'.len
 have hk:S.B.length+sp.bN.length<=S'.B.length:=by
  rcases Nat.eq_zero_or_pos sp.bN.length with h0|h0
  ·have:S.B.length<=S'.B.length:=by
    have:=congrArg List.length Ck0;rw[List.length_take] at this;omega
   omega
  ·have:=n2 (sp.bN.length-1) Qo;omega
 have hbl:((S'.B.drop S.B.length).take sp.bN.length).length=sp.bN.length:=by rw[List.length_take,List.length_drop];omega
 have hGB:S.B++(S'.B.drop S.B.length).take sp.bN.length=S'.B.take (S.B.length+sp.bN.length):=by
  rw[List.take_add,Ck0]
 have BH0:∀(id b:Nat),id<S.B.length+sp.bN.length->S'.B[id]? = some b->(S.B++(S'.B.drop S.B.length).take sp.bN.length)[id]? = some b:=λid b bR hb=>by
  rw[hGB,List.getElem?_take,C' bR];exact hb
 have CN8:∀(id b:Nat),(S.B++(S'.B.drop S.B.length).take sp.bN.length)[id]? = some b->S'.B[id]? = some b:=λid b hb=>by
  rw[hGB,List.getElem?_take] at hb
  split at hb
  ·exact hb
  ·cases hb
 obtain⟨t1,t2⟩:=Ld (L:=S.L) hs.nd hy hfr.ty;have hlk:∀id,id<S.L.length->id∉sp.WL.map (·.1)->S'.L[id]? = S.L[id]? := λid bR hm=>(hfr.lk id (PU.2 ⟨bR,hm⟩)).2
 have hxl:=(UR hx).1;obtain⟨g1,g2⟩:=zda hs hw hw' hB hfr.ty hlk hxl hy;have hhf:=zc9 (ys:=ys) hs hf hf' hfa hx;have hdr:(xs++ys).drop sp.chg.length=ys:=by rw[<-hxl];exact List.drop_left
 have hL:(YI S sp (xs++ys)).L=Vh S.L sp.WL ys:=by simp only[YI,hdr]
 have hpp:=zqz hp
 have CP9:TR n (DC S sp (xs++ys) zs ((S'.B.drop S.B.length).take sp.bN.length)) a':=by
  have Ci5:∀(id b:Nat),(YI S sp (xs++ys)).B[id]? = some b->(DC S sp (xs++ys) zs ((S'.B.drop S.B.length).take sp.bN.length)).B[id]? = some b:=λid b hb=>by
   have jR:S.B[id]? = some b:=hb;exact BH0 id b (by have:=(I8.1 jR).1;omega) (hB id b jR)
  refine⟨hhf.size,λi x h=>?_,λi r pc x h=>?_⟩
  ·rcases NY (λp hp=>(hpp p hp).1) h with ⟨j,h1,h2⟩|h1
   ·obtain⟨_,hj,hF⟩:=hpp (i,j) h1;have hd:=hf'.fits i _ hF;cases h2;obtain⟨b,hb,hv⟩:=hd;exact⟨b,BH0 _ _ (by simp only at hj;omega) hb,hv⟩
   ·exact EV.jA (S:=YI S sp (xs++ys)) Ci5 (hhf.fits i x h1)
  ·rcases NY (λp hp=>(hpp p hp).1) h with ⟨j,h1,h2⟩|h1
   ·cases h2
   ·exact hhf.old i r pc x h1
 have zG:∀(id:Nat) (t:TypeId) (cs:List Va),((YI S sp (xs++ys)).L++Hh sp.bN zs)[id]? = some (t,cs)->∃b,(S.B++(S'.B.drop S.B.length).take sp.bN.length)[id]? = some b/\Wy.heap[b]? = some (Obj.cells cs.toArray t (0,0)):=λid t cs hc=>by
  by_cases bR:id<S.L.length
  ·rw[Ip (by rw[g1];exact bR)] at hc;obtain⟨b,h1,h2⟩:=g2 id t cs hc;exact⟨b,BH0 id b Qo (hB id b h1),h2⟩
  ·rw[List.getElem?_append_right (by rw[g1];omega),g1,n3] at hc
   split at hc
   ·rename_i IV;have e:S.L.length+(id-S.L.length)=id:=Qo;rw[e] at hc;obtain⟨b,h1,h2⟩:=hw'.loc id t cs hc;exact⟨b,BH0 id b Qo h1,h2⟩
   ·cases hc
 have hlen:((YI S sp (xs++ys)).L++Hh sp.bN zs).length=(S.B++(S'.B.drop S.B.length).take sp.bN.length).length:=by
  rw[Io,Io,g1,n1,hbl,Ch6]
 have hnd:(S.B++(S'.B.drop S.B.length).take sp.bN.length).Nodup:=by
  rw[hGB];exact hw'.wC.sublist (List.take_sublist _ _)
 refine⟨hbl,λb hb=>by rw[hGB] at hb;exact List.mem_of_mem_take hb,CP9,⟨?_,λid bR=>?_⟩,⟨λid b hb=>?_,λid t cs hc=>?_,λid bR=>⟨bR,?_⟩⟩,⟨?_,zG,hlen,hnd,λid b bR hb=>?_⟩,λe1 e2=>⟨?_,zG,hlen,hnd,λid b bR hb=>?_⟩⟩
 ·show S.old<=(S.B++(S'.B.drop S.B.length).take sp.bN.length).length;have:=WU.old;rw[Io];omega
 ·show id<((YI S sp (xs++ys)).L++Hh sp.bN zs).length;have:=WU.lk id bR;rw[Io,g1];omega
 ·exact BH0 id b (by have:=(I8.1 hb).1;omega) (hB id b hb)
 ·have bR:id<S.L.length:=(I8.1 hc).1;obtain⟨u1,u2⟩:(∀(id:Nat) (t:TypeId) (cs:List Va),id∈sp.WL.map (·.1)->(Vh S.L sp.WL ys)[id]? = some (t,cs)->S'.L[id]? = some (t,cs))/\True:=⟨t2.2,trivial⟩;have IV:id<(Vh S.L sp.WL ys).length:=by rw[t1];exact bR
  have hg:(Vh S.L sp.WL ys)[id]? = some (((Vh S.L sp.WL ys)[id]).1,((Vh S.L sp.WL ys)[id]).2):=Il IV;show ∃vD,((YI S sp (xs++ys)).L++Hh sp.bN zs)[id]? = some (t,vD);rw[Ip (by rw[g1];exact bR),hL]
  by_cases hm:id∈sp.WL.map (·.1)
  ·have h4:=u1 id _ _ hm hg;obtain⟨vD,h5⟩:=hfr.ty id t cs hc;rw[h5] at h4;simp only[I0,Prod.mk.injEq] at h4;exact⟨((Vh S.L sp.WL ys)[id]).2,by rw[hg,<-h4.1]⟩
  ·exact⟨cs,by rw[t2.1 id hm];exact hc⟩
 ·have IV:=WU.lk id bR;show ((YI S sp (xs++ys)).L++Hh sp.bN zs)[id]? = S.L[id]?;rw[Ip (by rw[g1];exact IV),hL,t2.1 id λhm=>hs.WL id hm bR]
 ·exact Q0.refl _ _
 ·have h1:id<(S.B++(S'.B.drop S.B.length).take sp.bN.length).length:=(I8.1 hb).1;have h2:(S.B++(S'.B.drop S.B.length).take sp.bN.length).length<=id:=bR;omega
 ·have hbs:(DC S sp (xs++ys) zs ((S'.B.drop S.B.length).take sp.bN.length)).bs=S'.bs:=by
   show (S.B++(S'.B.drop S.B.length).take sp.bN.length).take S.old=S'.B.take S'.old;rw[e2];have h1:=WU.old;rw[hGB,List.take_take,Nat.min_eq_left Qo]
  rw[hbs,<-e1];exact hw'.ext
 ·have h1:S'.B[id]? = some b:=CN8 id b hb;have:=hw'.fresh id b (by rw[e2];exact bR) h1;rw[e1] at this;exact this
structure z0i (C:UU) (S:St) (w:Wo) (ds:List Nat) (a:Act) (sp:Ym) (vs:List Va) (w1:Wo) (a':Act) (Wy:Wo):Prop where
 fit:TR C.n (YI S sp vs) a'
 rel:Zm (YI S sp vs) w1 Wy
 wf:Gj (YI S sp vs)
 fra:DR ds a a'
def zdb{S S':St}{sp:Ym}(hnd:(sp.WL.map (·.1)).Nodup)(hty:∀(id:Nat) (t:TypeId) (cs:List Va),S.L[id]? = some (t,cs)->∃vD,S'.L[id]? = some (t,vD)){xs ys:List Va}(hxl:xs.length=sp.chg.length)(hy:Lk S' sp.WL=some ys) :
  (∀(id:Nat) (t:TypeId) (cs:List Va),S.L[id]? = some (t,cs)->∃vD,(YI S sp (xs++ys)).L[id]? = some (t,vD))/\(∀id,id∉sp.WL.map (·.1)->(YI S sp (xs++ys)).L[id]? = S.L[id]?):=by
 have hdr:(xs++ys).drop sp.chg.length=ys:=by rw[<-hxl];exact List.drop_left
 obtain⟨h1,h2,h3⟩:=Ld (L:=S.L) hnd hy hty;have hL:(YI S sp (xs++ys)).L=Vh S.L sp.WL ys:=by simp only[YI,hdr]
 rw[hL];refine⟨λid t cs hc=>?_,h2⟩;have bR:id<(Vh S.L sp.WL ys).length:=by rw[h1];exact(I8.1 hc).1
 by_cases hm:id∈sp.WL.map (·.1)
 ·have hg:(Vh S.L sp.WL ys)[id]? = some (((Vh S.L sp.WL ys)[id]).1,((Vh S.L sp.WL ys)[id]).2):=Il bR;have h4:=h3 id _ _ hm hg;obtain⟨vD,h5⟩:=hty id t cs hc;rw[h5] at h4;simp only[I0,Prod.mk.injEq] at h4;exact⟨((Vh S.L sp.WL ys)[id]).2,by rw[hg,<-h4.1]⟩
 ·exact⟨cs,by rw[h2 id hm];exact hc⟩
def FU{n:Nat}{S:St}{a:Act}(hf:TR n S a){x:Operand}{e:EV}(hb:zfv S [] x=some e):EV.den S e (a.eval x):=by
 have:=Ye (ops:=#[]) (hf.enter #[] (λ_=>False)).fit (pc:=[]) (λp hp=>by cases hp) (S:={ S with r:=S.r+1 }) (x:=x) (e:=e) (by
  cases x with
  |tmp t=>
   simp only[zfv] at hb ⊢
   split at hb
   ·exact hb
   ·rename_i r pc' y hg
    cases cH:Nat.beq r S.r&&ze4 pc' [] with
    |false=>rw[cH] at hb;cases hb
    |true=>
     simp only[A'] at cH;have:=Ib cH.1;have h2:=hf.old t r pc' y hg;omega
   ·cases hb
  |const v=>exact hb
  |global g=>exact hb
  |func f=>exact hb)
 exact EV.jA (S:={ S with r:=S.r+1 }) (λ_ _ h=>h) this
def zmf(S:St)(c:Operand)(x:Bool):(AB4 S c x).L=S.L/\(AB4 S c x).B=S.B/\(AB4 S c x).old=S.old/\(AB4 S c x).lk=S.lk/\(AB4 S c x).r=S.r:=by
 unfold AB4;split
 ·cases Nat.blt _ 4000 <;> exact⟨rfl,rfl,rfl,rfl,rfl⟩
 ·exact⟨rfl,rfl,rfl,rfl,rfl⟩
def TR.AB4{n:Nat}{S:St}{a:Act}(hf:TR n S a){c:Operand}{x:Bool}(hc:a.eval c=.bool x):TR n (AB4 S c x) a:=by
 unfold YtjinkcmkgnofjaaGreatDoor.AB4;split
 ·rename_i t
  cases hl:Nat.blt t 4000 with
  |false=>exact hf
  |true=>
   have IV:t<4000:=Ik hl;have hg:∀i,(PT.set 12 S.F t (.un (.kb x))).get i=if t=i then some (.un (.kb x)) else S.F.get i:=λi=>PT.rS _ 12 S.F t i (by have h1 : @LT.lt Nat _ t 4000:=IV;show @LT.lt Nat _ (t+1) (2 ^ 12);omega)
   refine⟨hf.size,λi y hy=>?_,λi r pc y hy=>?_⟩
   ·have hy:(PT.set 12 S.F t (.un (.kb x))).get i=some (.un y):=hy;rw[hg i] at hy
    by_cases hti:t=i
    ·subst hti;rw[C' rfl] at hy;simp only[I0,SV.un.injEq] at hy;subst hy;exact hc
    ·rw[B' hti] at hy;exact EV.jA (S:=S) (λ_ _ h=>h) (hf.fits i y hy)
   ·have hy:(PT.set 12 S.F t (.un (.kb x))).get i=some (.gd r pc y):=hy;rw[hg i] at hy
    by_cases hti:t=i
    ·rw[C' hti] at hy;cases hy
    ·rw[B' hti] at hy;exact hf.old i r pc y hy
 ·exact hf
def zoz{S:St}{w wr:Wo}{c:Operand}{x:Bool}(h:Zm S w wr):Zm (AB4 S c x) w wr:=by
 obtain⟨h1,h2,h3,h4,h5⟩:=zmf S c x;refine⟨?_,?_,?_,?_,?_⟩
 ·unfold St.bs;rw[h2,h3];exact h.ext
 ·rw[h1,h2];exact h.loc
 ·rw[h1,h2];exact h.len
 ·rw[h2];exact h.wC
 ·rw[h2,h3];exact h.fresh
def ztd{S:St}{c:Operand}{x:Bool}(h:Gj S):Gj (AB4 S c x):=by
 obtain⟨h1,h2,h3,h4,h5⟩:=zmf S c x;exact⟨by rw[h2,h3];exact h.old,by rw[h1,h4];exact h.lk⟩
def zoy{C:UU}{S:St}{w:Wo}{ds:List Nat}{a:Act}{S':St}{w':Wo}{a':Act}{Wy:Wo}{c:Operand}{x:Bool}(h:M1 C (AB4 S c x) w ds a S' w' a' Wy):M1 C S w ds a S' w' a' Wy:=by
 obtain⟨h1,h2,h3,h4,h5⟩:=zmf S c x;refine⟨h.fit,h.rel,h.wf,⟨?_,?_,?_⟩,h.fra,?_⟩
 ·have:=h.fr.B;rw[h2] at this;exact this
 ·have:=h.fr.ty;rw[h1] at this;exact this
 ·have:=h.fr.lk;rw[h1,h4] at this;exact this
 ·have:=h.pm;rw[h3] at this;exact this
def Yn{C:UU}(E:zry C){sps:List (Nat×Ym)}:∀(c:Code) (S:St) (w wr:Wo) (a:Act) (K:Exit->St->Wo->Prop) (Q:Exit->Act->Wo->Prop),Ai C sps c S w K->TR C.n S a->Zm S w wr->Gj S->
  (∀e S' w' a' Wy,K e S' w'->M1 C S w (Xm c) a S' w' a' Wy->Q e a' Wy)->c.wpIn (PS C.rd) 0 C.P Q a wr
 |.skip,S,w,wr,a,K,Q,h,hf,hw,WU,hQ=>wpIn_skip (hQ _ _ _ _ _ h (M1.refl _ hf hw WU))
 |.label _,S,w,wr,a,K,Q,h,hf,hw,WU,hQ=>wpIn_label (hQ _ _ _ _ _ h (M1.refl _ hf hw WU))
 |.exit _,S,w,wr,a,K,Q,h,hf,hw,WU,hQ=>wpIn_exit (hQ _ _ _ _ _ h (M1.refl _ hf hw WU))
 |.ret,S,w,wr,a,K,Q,h,hf,hw,WU,hQ=>wpIn_ret (hQ _ _ _ _ _ h (M1.refl _ hf hw WU))
 |.region _ ops d,S,w,wr,a,K,Q,h,hf,hw,WU,hQ=>zni E h hf hw WU λS' w' a' Wy hK he=>hQ _ _ _ _ _ hK he
 |.seq x y,S,w,wr,a,K,Q,h,hf,hw,WU,hQ=>by
  have BB9:∀z∈Xm x,z∈Xm (.seq x y):=λz hz=>Ia _ hz
  have Bt1:∀z∈Xm y,z∈Xm (.seq x y):=λz hz=>Iy _ hz
  simp only[Ai] at h
  split at h
  ·refine wpIn_seq (Yn E x S w wr a _ _ h hf hw WU λe S' w' a' Wy hK he=>?_)
   cases e with
   |normal=>exact Yn E y S' w' Wy a' _ _ hK he.fit he.rel he.wf λe2 S2 w2 a2 R7 gP bS=>hQ _ _ _ _ _ gP (he.trans bS BB9 Bt1)
   |_=>exact hQ _ _ _ _ _ hK (he.mono BB9)
  ·rename_i sp _
   cases hok:zvn S sp (Xm x) with
   |false=>rw[hok] at h;exact h.elim
   |true=>
    rw[hok] at h;simp only[cond_true] at h;have hs:=zfi hok;have hf0:TR C.n { S with lk:=DK S sp } a:=⟨hf.size,hf.fits,hf.old⟩;have hw0:Zm { S with lk:=DK S sp } w wr:=⟨hw.ext,hw.loc,hw.len,hw.wC,hw.fresh⟩;have Cl9:Gj { S with lk:=DK S sp }:=⟨WU.old,λid bR=>(PU.1 bR).1⟩
    have out:∀{S':St} {w':Wo} {a':Act} {Wy:Wo},M1 C { S with lk:=DK S sp } w (Xm x) a S' w' a' Wy->M1 C S w (Xm (.seq x y)) a { S' with lk:=S.lk } w' a' Wy:=λ{S' w' a' Wy} he=>by
     have f1:Kf S { S' with lk:=S.lk }:=⟨he.fr.B,he.fr.ty,λid bR=>⟨bR,(he.fr.lk id (PU.2 ⟨WU.lk id bR,λhm=>hs.WL id hm bR⟩)).2⟩⟩
     exact⟨⟨he.fit.size,he.fit.fits,he.fit.old⟩,⟨he.rel.ext,he.rel.loc,he.rel.len,he.rel.wC,he.rel.fresh⟩,⟨he.wf.old,λid bR=>by
      obtain⟨vD,hc'⟩:=f1.ty id (S.L[id]'(WU.lk id bR)).1 (S.L[id]'(WU.lk id bR)).2 (Il _);exact(I8.1 hc').1⟩,f1,he.fra.mono BB9,he.pm⟩
    cases qS:C.pm with
    |true=>
     rw[qS] at h;simp only[cond_true] at h;obtain⟨rQ,h1,h2⟩:=h;refine wpIn_seq (Yn E x _ w wr a _ _ h1 hf0 hw0 Cl9 λe S' w' a' Wy hK he=>?_)
     cases e with
     |normal=>
      obtain⟨xs,ys,zs,g1,g2,g3,g4,g5,g6,g7⟩:=zi0 hK;obtain⟨j1,j2,j3,j4,j5,j6,j7⟩:=zsm hs hf hw WU he.fit he.rel he.fra he.fr g1 g2 g3 g6;obtain⟨p1,p2⟩:=he.pm qS;refine Yn E y _ w Wy a' _ _ (BO (Of (Of h2 g4) g5) j1 g7) j3 (j7 p1 p2) j4 λe2 S2 w2 a2 R7 gP bS=>hQ _ _ _ _ _ gP ⟨bS.fit,bS.rel,bS.wf,j5.trans bS.fr,(he.fra.mono BB9).trans (bS.fra.mono Bt1),λhp=>bS.pm hp⟩
     |_=>exact hQ _ _ _ _ _ hK (out he)
    |false=>
     rw[qS] at h;simp only[cond_false] at h;obtain⟨rQ,h1,h2⟩:=h;refine wpIn_seq (Yn E x _ w wr a _ _ h1 hf0 hw0 Cl9 λe S' w' a' Wy hK he=>?_)
     cases e with
     |normal=>
      obtain⟨xs,ys,zs,g1,g2,g3,g4,g5,g6,g7⟩:=zi0 (hK Wy he.rel.ext he.rel.lt);obtain⟨j1,j2,j3,j4,j5,j6,j7⟩:=zsm hs hf hw WU he.fit he.rel he.fra he.fr g1 g2 g3 g6;refine Yn E y _ Wy Wy a' _ _ (BO (Of (Of h2 g4) g5) j1 Wy (λb hb=>he.rel.lt b (j2 b hb)) g7) ⟨j3.size,j3.fits,j3.old⟩ j6 ⟨I7 _,j4.lk⟩ λe2 S2 w2 a2 R7 gP bS=>hQ _ _ _ _ _ gP ⟨bS.fit,bS.rel,bS.wf,j5.trans ⟨bS.fr.B,bS.fr.ty,bS.fr.lk⟩,(he.fra.mono BB9).trans (bS.fra.mono Bt1),λhp=>by rw[qS] at hp;cases hp⟩
     |_=>exact hQ _ _ _ _ _ hK (out he)
 |.cond c x y,S,w,wr,a,K,Q,h,hf,hw,WU,hQ=>by
  simp only[Ai] at h
  split at h
  ·rename_i hb;have hc:a.eval c=.bool true:=FU hf hb;refine wpIn_cond_split hc (λhb=>?_) (λhb=>by cases hb);exact Yn E x S w wr a _ _ h hf hw WU λe S' w' a' Wy hK he=>hQ _ _ _ _ _ hK (he.mono λz hz=>Ia _ hz)
  ·rename_i hb;have hc:a.eval c=.bool false:=FU hf hb;refine wpIn_cond_split hc (λhb=>by cases hb) (λhb=>?_);exact Yn E y S w wr a _ _ h hf hw WU λe S' w' a' Wy hK he=>hQ _ _ _ _ _ hK (he.mono λz hz=>Iy _ hz)
  ·rename_i b hb;have hc:a.eval c=.bool b:=FU hf hb;refine wpIn_cond_split hc (λhb=>?_) (λhb=>?_)
   ·subst hb;exact Yn E x (AB4 S c true) w wr a _ _ (h.1 rfl) (hf.AB4 hc) (zoz hw) (ztd WU) λe S' w' a' Wy hK he=>hQ _ _ _ _ _ hK ((zoy he).mono λz hz=>Ia _ hz)
   ·subst hb;exact Yn E y (AB4 S c false) w wr a _ _ (h.2 rfl) (hf.AB4 hc) (zoz hw) (ztd WU) λe S' w' a' Wy hK he=>hQ _ _ _ _ _ hK ((zoy he).mono λz hz=>Iy _ hz)
  ·exact h.elim
 |.scope b,S,w,wr,a,K,Q,h,hf,hw,WU,hQ=>by
  refine Dv (Yn E b S w wr a _ _ h hf hw WU λe S' w' a' Wy hK he=>?_)
  cases e with
  |goto l=>exact hK.elim
  |_=>exact hQ _ _ _ _ _ hK he
 |.block id b,S,w,wr,a,K,Q,h,hf,hw,WU,hQ=>by
  refine wpIn_block (Yn E b S w wr a _ _ h hf hw WU λe S' w' a' Wy hK he=>?_)
  cases e with
  |exit id'=>
   simp only[Exit.inBlock]
   dsimp only at hK
   cases hb:Nat.beq id' id with
   |true=>
    rw[hb] at hK;rw[C' (Ib hb)];exact hQ _ _ _ _ _ hK he
   |false=>
    rw[hb] at hK;rw[B' (λe=>by rw[e,Nat.beq_refl] at hb;cases hb)];exact hQ _ _ _ _ _ hK he
  |_=>exact hQ _ _ _ _ _ hK he
 |.loop b,S,w,wr,a,K,Q,h,hf,hw,WU,hQ=>by
  simp only[Ai] at h
  split at h
  ·exact h.elim
  ·rename_i key Dh2
   split at h
   ·exact h.elim
   ·rename_i sp hsp
    cases hok:zvn S sp (Xm b) with
    |false=>rw[hok] at h;exact h.elim
    |true=>
     rw[hok] at h;simp only[cond_true] at h;have hs:=zfi hok
     cases qS:C.pm with
     |true=>
      rw[qS] at h;simp only[cond_true] at h;obtain⟨Xk,μ,B07,zC⟩:=h
      have mk:∀(S':St) (a':Act) (Wy:Wo) (xs ys:List Va),TR C.n S' a'->Zm S' w Wy->S'.old=S.old->DR (Xm b) a a'->(∀(id b:Nat),S.B[id]? = some b->S'.B[id]? = some b)->
        (∀(id:Nat) (t:TypeId) (cs:List Va),S.L[id]? = some (t,cs)->∃vD,S'.L[id]? = some (t,vD))->(∀id,id<S.L.length->id∉sp.WL.map (·.1)->S'.L[id]? = S.L[id]?)->
        HC S' sp.chg=some xs->Lk S' sp.WL=some ys->z0i C S w (Xm b) a sp (xs++ys) w a' Wy:=by
       intro S' a' Wy xs ys h1 h2 h3 h4 h5 h6 h7 h8 h9;obtain⟨g1,g2⟩:=zda hs hw h2 h5 h6 h7 (UR h8).1 h9;refine⟨zc9 hs hf h1 h4 h8,⟨?_,g2,by rw[g1];exact hw.len,hw.wC,hw.fresh⟩,⟨WU.old,λid bR=>by rw[g1];exact(PU.1 bR).1⟩,h4⟩;have hbs:S'.bs=S.bs:=by unfold St.bs;rw[h3];exact zj3 WU.old h5
       have:=h2.ext;rw[hbs] at this;exact this
      obtain⟨xs,ys,hx,hy,hk,hI⟩:=KP B07
      refine G5 (λn a' Wy=>∃xs ys S',μ (xs++ys)=n/\Xk (xs++ys)/\U8 sp.ks (xs++ys)/\xs.length=sp.chg.length/\Lk S' sp.WL=some ys/\(∀(id:Nat) (t:TypeId) (cs:List Va),S.L[id]? = some (t,cs)->∃vD,S'.L[id]? = some (t,vD))/\z0i C S w (Xm b) a sp (xs++ys) w a' Wy)
       (m:=μ (xs++ys)) ⟨xs,ys,S,rfl,hI,hk,(UR hx).1,hy,λ_ _ cs h=>⟨cs,h⟩,mk S a wr xs ys hf hw rfl (DR.refl _ _) (λ_ _ h=>h) (λ_ _ cs h=>⟨cs,h⟩) (λ_ _ _=>rfl) hx hy⟩ ?_
      rintro n a' Wy ⟨xs,ys,S',rfl,hI,hk,hxl,hyl,hty,hH⟩;obtain⟨t1,t2⟩:=zdb hs.nd hty hxl hyl
      have hlen:(YI S sp (xs++ys)).L.length=S.L.length:=by
       have:=hH.rel.len;rw[this];exact hw.len.symm
      refine Yn E b _ w Wy a' _ _ (Of zC hk hI) hH.fit hH.rel hH.wf λe S2 w2 a2 R7 hK he=>?_
      obtain⟨f1,f2⟩:=znv hs WU hlen t1 t2 he.fr;obtain⟨p1,p2⟩:=he.pm qS;subst p1
      cases e with
      |normal=>
       obtain⟨xs',ys',fT,hy',hk',hI',IV⟩:=KP hK;refine⟨μ (xs'++ys'),IV,xs',ys',S2,rfl,hI',hk',(UR fT).1,hy',f1.ty,?_⟩;exact mk S2 a2 R7 xs' ys' he.fit he.rel p2 (hH.fra.trans he.fra) f1.B f1.ty f2 fT hy'
      |_=>
       exact hQ _ _ _ _ _ hK ⟨⟨he.fit.size,he.fit.fits,he.fit.old⟩,⟨he.rel.ext,he.rel.loc,he.rel.len,he.rel.wC,he.rel.fresh⟩,
        ⟨he.wf.old,λid bR=>by
         obtain⟨vD,hc'⟩:=f1.ty id (S.L[id]'(WU.lk id bR)).1 (S.L[id]'(WU.lk id bR)).2 (Il _);exact(I8.1 hc').1⟩,f1,hH.fra.trans he.fra,λ_=>⟨rfl,p2⟩⟩
     |false=>
      rw[qS] at h;simp only[cond_false] at h;obtain⟨Xk,μ,B07,zC⟩:=h
      have mk:∀(S':St) (w':Wo) (a':Act) (Wy:Wo) (xs ys:List Va),TR C.n S' a'->Zm S' w' Wy->DR (Xm b) a a'->(∀(id b:Nat),S.B[id]? = some b->S'.B[id]? = some b)->
        (∀(id:Nat) (t:TypeId) (cs:List Va),S.L[id]? = some (t,cs)->∃vD,S'.L[id]? = some (t,vD))->(∀id,id<S.L.length->id∉sp.WL.map (·.1)->S'.L[id]? = S.L[id]?)->
        HC S' sp.chg=some xs->Lk S' sp.WL=some ys->z0i C S.dA Wy (Xm b) a sp (xs++ys) Wy a' Wy:=by
       intro S' w' a' Wy xs ys h1 h2 h4 h5 h6 h7 h8 h9;obtain⟨g1,g2⟩:=zda hs hw h2 h5 h6 h7 (UR h8).1 h9;have hf1:=zc9 (ys:=ys) hs hf h1 h4 h8;refine⟨⟨hf1.size,hf1.fits,hf1.old⟩,⟨Q0.refl _ _,g2,by show (YI S sp (xs++ys)).L.length=_;rw[g1];exact hw.len,hw.wC,λid b bR hb=>?_⟩,⟨I7 _,λid bR=>by show id<(YI S sp (xs++ys)).L.length;rw[g1];exact(PU.1 bR).1⟩,h4⟩;have:id<S.B.length:=(I8.1 hb).1;have Dg7:S.B.length<=id:=bR;omega
      obtain⟨xs,ys,hx,hy,hk,hI⟩:=KP (B07 wr hw.ext hw.lt)
      refine G5 (λn a' Wy=>∃xs ys S',μ (xs++ys) Wy=n/\Xk (xs++ys) Wy/\U8 sp.ks (xs++ys)/\xs.length=sp.chg.length/\Lk S' sp.WL=some ys/\(∀(id:Nat) (t:TypeId) (cs:List Va),S.L[id]? = some (t,cs)->∃vD,S'.L[id]? = some (t,vD))/\z0i C S.dA Wy (Xm b) a sp (xs++ys) Wy a' Wy)
       (m:=μ (xs++ys) wr) ⟨xs,ys,S,rfl,hI,hk,(UR hx).1,hy,λ_ _ cs h=>⟨cs,h⟩,mk S w a wr xs ys hf hw (DR.refl _ _) (λ_ _ h=>h) (λ_ _ cs h=>⟨cs,h⟩) (λ_ _ _=>rfl) hx hy⟩ ?_
      rintro n a' Wy ⟨xs,ys,S',rfl,hI,hk,hxl,hyl,hty,hH⟩;obtain⟨t1,t2⟩:=zdb hs.nd hty hxl hyl
      have hlen:(YI S sp (xs++ys)).L.length=S.L.length:=by
       have:(YI S.dA sp (xs++ys)).L.length=S.B.length:=hH.rel.len;rw[<-hw.len] at this;exact this
      refine Yn E b _ Wy Wy a' _ _ (Of zC hk Wy hH.rel.lt hI) hH.fit hH.rel hH.wf λe S2 w2 a2 R7 hK he=>?_
      have zF:Kf (YI S sp (xs++ys)) S2:=⟨he.fr.B,he.fr.ty,he.fr.lk⟩;obtain⟨f1,f2⟩:=znv hs WU hlen t1 t2 zF
      cases e with
      |normal=>
       obtain⟨xs',ys',fT,hy',hk',hI',IV⟩:=KP (hK R7 he.rel.ext he.rel.lt);refine⟨μ (xs'++ys') R7,IV,xs',ys',S2,rfl,hI',hk',(UR fT).1,hy',f1.ty,?_⟩;exact mk S2 w2 a2 R7 xs' ys' he.fit he.rel (hH.fra.trans he.fra) f1.B f1.ty f2 fT hy'
      |_=>
       exact hQ _ _ _ _ _ hK ⟨⟨he.fit.size,he.fit.fits,he.fit.old⟩,⟨he.rel.ext,he.rel.loc,he.rel.len,he.rel.wC,he.rel.fresh⟩,
        ⟨he.wf.old,λid bR=>by
         obtain⟨vD,hc'⟩:=f1.ty id (S.L[id]'(WU.lk id bR)).1 (S.L[id]'(WU.lk id bR)).2 (Il _);exact(I8.1 hc').1⟩,f1,hH.fra.trans he.fra,λhp=>by rw[qS] at hp;cases hp⟩
 |.rangeFunc _ _ _ _,_,_,_,_,_,_,h,_,_,_,_=>h.elim
 |.goto _,_,_,_,_,_,_,h,_,_,_,_=>h.elim
 |.refuse _,_,_,_,_,_,_,h,_,_,_,_=>h.elim
def znx:List Va->Nat->PT SV
 |[],_=>.leaf
 |v::r,i=>PT.set 12 (znx r (i+1)) i (.un (.v v))
def ziy:∀{l:List Va} {k i:Nat} {sv:SV},k+l.length<=4000->(znx l k).get i=some sv->∃v,l[i-k]? = some v/\k<=i/\sv=.un (.v v)
 |[],k,i,sv,_,h=>by simp[znx,PT.get] at h
 |v::r,k,i,sv,hl,h=>by
  simp only[znx] at h;simp only[List.length_cons] at hl;rw[PT.rS _ 12 _ _ _ (by show @LT.lt Nat _ (k+1) (2 ^ 12);have e:(2:Nat) ^ 12=4096:=rfl;omega)] at h
  by_cases hk:k=i
  ·subst hk;rw[C' rfl] at h;simp only[I0] at h;exact⟨v,Qs,I7 _,h.symm⟩
  ·rw[B' hk] at h;obtain⟨u,h1,h2,h3⟩:=ziy Qo h;refine⟨u,?_,Qo,h3⟩;have:i-k=(i-(k+1))+1:=Qo;rw[this];simpa using h1
def Ek(args:List Va):St:={ F:=znx args 0,L:=[],B:=[],old:=0,lk:=[],r:=1 }
def zor(C:UU)(S:St)(w:Wo):List ResultVar->(List Va->Prop)->Prop
 |[],K=>K []
 |.tmp t::r,K=>match Hl S [] (.tmp t) with
  |some v=>zor C S w r λl=>K (v::l)
  |none=>False
 |.cell p t::r,K=>match C.T t,zfv S [] (.tmp p) with
  |some ty,some (.loc id 0)=>match S.L[id]? with
   |some (_,cs)=>bif Nat.beq cs.length ty.ks.length then
     (match ty.val cs with
      |some v=>zor C S w r λl=>K (v::l)
      |none=>False)
    else False
   |none=>False
  |some ty,some (.el o n)=>znk ty.ks λvs=>match ty.val vs with
   |some v=>Q1 S.bs w o n vs/\zor C S w r λl=>K (v::l)
   |none=>False
  |_,_=>False
def zro:List Va->Va
 |[v]=>v
 |l=>.tuple l.toArray
def zxi(C:UU)(sps:List (Nat×Ym))(args:List Va)(body:Code)(res:List ResultVar)(w:Wo)(R:Va->Wo->Prop):Prop:=
 Ai C sps body (Ek args) w λe S w'=>match e with
  |.normal|.ret=>zor C S w' res λl=>bif C.pm then R (zro l) w' else ∀wr,Q0 S.bs w' wr->R (zro l) wr
  |_=>False
def zy6{C:UU}(E:zry C){S:St}{w wr:Wo}{a:Act}(hf:TR C.n S a)(hw:Zm S w wr):∀{res:List ResultVar} {K:List Va->Prop},zor C S w res K->
  ∃l,K l/\l.length=res.length/\(res.mapM (m:=Sem) fun
   |.tmp t=>pure (a.tmps.getD t undef)
   |.cell p t=>do loadVar t (<-asAddr (a.tmps.getD p undef))).run C.P wr=.ok l wr:=by
 have hd:∀{x:Operand} {e:EV},zfv S [] x=some e->EV.den S e (a.eval x):=λ{x e} hb=>by
  have:=Ye (ops:=#[]) (hf.enter #[] (λ_=>False)).fit (pc:=[]) (λp hp=>by cases hp) (S:={ S with r:=S.r+1 }) (x:=x) (e:=e) (by
   cases x with
   |tmp t=>
    simp only[zfv] at hb ⊢
    split at hb
    ·exact hb
    ·rename_i r pc' y hg
     cases cH:Nat.beq r S.r&&ze4 pc' [] with
     |false=>rw[cH] at hb;cases hb
     |true=>
      simp only[A'] at cH;have:=Ib cH.1;have h2:=hf.old t r pc' y hg;omega
    ·cases hb
   |const v=>exact hb
   |global g=>exact hb
   |func f=>exact hb)
  exact EV.jA (S:={ S with r:=S.r+1 }) (λ_ _ h=>h) this
 intro res
 induction res with
 |nil=>intro K h;exact⟨[],h,rfl,Qs⟩
 |cons x r ih=>
  intro K h
  cases x with
  |tmp t=>
   simp only[zor] at h
   split at h
   ·rename_i v hv;obtain⟨l,h1,h2,h3⟩:=ih h
    have hv':a.tmps.getD t undef=v:=by
     unfold Hl at hv
     split at hv
     ·rename_i e he;exact zaw hv (hd he)
     ·cases hv
    refine⟨v::l,h1,by simp[h2],?_⟩;simp only[List.mapM_cons,Sem.run_bind,Sem.run_pure,Result.andThen_ok,h3,hv']
   ·exact h.elim
  |cell p t=>
   simp only[zor] at h
   split at h
   ·rename_i ty id ht he;obtain⟨b,hb,hx⟩:=hd he;simp only[Act.eval] at hx
    split at h
    ·rename_i t' cs hl
     cases hc:Nat.beq cs.length ty.ks.length with
     |false=>rw[hc] at h;exact h.elim
     |true=>
      rw[hc] at h;simp only[cond_true] at h
      split at h
      ·rename_i v hv;obtain⟨l,h1,h2,h3⟩:=ih h
       have hl2:=VS E.T ht hv (Ib hc) (a:=⟨b,0,none⟩) (w:=wr) (λj y hy=>by
        rw[Addr.add_lit,Hb hw hl hb,Nat.zero_add];exact hy)
       refine⟨v::l,h1,by simp[h2],?_⟩;have ha:(asAddr (a.tmps.getD p undef)).run C.P wr=.ok ⟨b,0,none⟩ wr:=by rw[hx];rfl
       simp only[List.mapM_cons,Sem.run_bind,ha,Sem.run_pure,Result.andThen_ok,hl2,h3]
      ·exact h.elim
    ·exact h.elim
   ·rename_i ty o n ht he;obtain⟨ad,ho,hx⟩:=hd he;simp only[Act.eval] at hx;obtain⟨vs,hlen,h⟩:=P5 h
    split at h
    ·rename_i v hv;obtain⟨hcx,h⟩:=h;obtain⟨l,h1,h2,h3⟩:=ih h;have hl2:=VS E.T ht hv hlen (a:=ad.add n) (w:=wr) (hcx.cells hw.ext ho);refine⟨v::l,h1,by simp[h2],?_⟩;have ha:(asAddr (a.tmps.getD p undef)).run C.P wr=.ok (ad.add n) wr:=by rw[hx];rfl
     simp only[List.mapM_cons,Sem.run_bind,ha,Sem.run_pure,Result.andThen_ok,hl2,h3]
    ·exact h.elim
   ·exact h.elim
def Af{C:UU}(E:zry C){sps:List (Nat×Ym)}{f:FuncId}{fn:Func}{body:Code}{args:List Va}{w:Wo}{R:Va->Wo->Prop}(hf:C.P.funcs[f]? = some fn)(hb:fn.body=some body)(hn:fn.ntmps=C.n)(hargs:args.length<=C.n)(hn4:C.n<=4000)(hrd:C.rd=none)(h:zxi C sps args body fn.results.toList w R):Calls C.P f args.toArray w λe w'=>∃v wv,e=.returned v/\(C.pm->wv=w/\Q0 [] w w')/\(C.pm->R v wv)/\(C.pm=false->R v w'):=by
 refine(callsIn_wide (n:=0)).1 (callsIn_of_wp hf hb trivial ?_);have hF:PS C.rd=Fence.wide:=by rw[hrd];rfl
 rw[<-hF]
 have CP9:TR C.n (Ek args) { tmps:=args.toArray++Array.replicate (fn.ntmps-args.toArray.size) undef,defers:=[] }:=by
  have AY2:∀i sv,(Ek args).F.get i=some sv->∃v,args[i]? = some v/\sv=.un (.v v):=λi sv hs=>by
   obtain⟨v,h1,_,h3⟩:=ziy Qo hs;exact⟨v,by simpa using h1,h3⟩
  refine⟨by simp[hn];omega,λi x hx=>?_,λi r pc x hx=>?_⟩
  ·obtain⟨v,h1,h2⟩:=AY2 i _ hx;cases h2;show _=v;rw[Array.getD_eq_getD_getElem?,Array.getElem?_append_left (by simpa using (I8.1 h1).1)];simp[h1]
  ·obtain⟨v,h1,h2⟩:=AY2 i _ hx;cases h2
 have AH5:Zm (Ek args) w w:=⟨Q0.refl _ _,λid t cs hl=>by simp[Ek] at hl,rfl,List.nodup_nil,λid b _ hb=>by simp[Ek] at hb⟩;refine Yn E body (Ek args) w w _ _ _ h CP9 AH5 ⟨Ic _,λid bR=>by cases bR⟩ λe S w' a' Wy hK he=>?_
 have fin:zor C S w' fn.results.toList (λl=>bif C.pm then R (zro l) w' else ∀wr,Q0 S.bs w' wr->R (zro l) wr)->a'.defers=[]/\∃v,(results fn a'.tmps).run C.P Wy=.ok v Wy/\∃v' wv,Ending.returned v=.returned v'/\(C.pm->wv=w/\Q0 [] w Wy)/\(C.pm->R v' wv)/\(C.pm=false->R v' Wy):=λhr=>by
  obtain⟨l,h1,h2,h3⟩:=zy6 E he.fit he.rel hr;refine⟨he.fra.1,zro l,?_,zro l,w',rfl,λhp=>?_,λhp=>?_,λhp=>?_⟩
  ·simp only[results,Sem.run_bind,Array.mapM_eq_mapM_toList,Sem.run_map];refine(congrArg (λr:Result (List Va)=>(r.andThen λa w'=>Result.ok a.toArray w').andThen λvs w'=>(Pure.pure (if h:vs.size=1 then vs[0] else .tuple vs):Sem Va).run C.P w') h3).trans ?_;simp only[Result.andThen_ok,Sem.run_pure]
   congr 1
   cases l with
   |nil=>rfl
   |cons x r=>
    cases r with
    |nil=>rfl
    |cons y q=>simp[zro]
  ·obtain⟨p1,p2⟩:=he.pm hp;refine⟨p1,?_⟩;have hx:=he.rel.ext;rw[<-p1];have hbs:S.bs=[]:=by unfold St.bs;rw[p2];rfl
   rw[hbs] at hx;exact hx
  ·rw[hp] at h1;exact h1
  ·rw[hp] at h1;exact h1 Wy he.rel.ext
 cases e with
 |normal=>exact fin hK
 |ret=>exact fin hK
 |_=>exact hK.elim
def zq1{C:UU}(E:zry C){sps:List (Nat×Ym)}{f:FuncId}{fn:Func}{body:Code}{args:List Va}{w:Wo}{bs:List Nat}{r:Va}(hf:C.P.funcs[f]? = some fn)(hb:fn.body=some body)(hn:fn.ntmps=C.n)(hargs:args.length<=C.n)(hn4:C.n<=4000)(qS:C.pm)(hrd:C.rd=none)(h:∀wr,Q0 bs w wr->zxi C sps args body fn.results.toList wr λv _=>v=r):Q4 bs C.P f args.toArray w r:=λwr hx=>
 (Af E hf hb hn hargs hn4 hrd (h wr hx)).mono λe w' ⟨v,_,he,h1,h2,_⟩=>by
  have:=h2 qS;subst this;exact⟨he,(h1 qS).2⟩
def zub{C:UU}(E:zry C){sps:List (Nat×Ym)}{f:FuncId}{fn:Func}{body:Code}{args:List Va}{w:Wo}{R:Va->Wo->Prop}(hf:C.P.funcs[f]? = some fn)(hb:fn.body=some body)(hn:fn.ntmps=C.n)(hargs:args.length<=C.n)(hn4:C.n<=4000)(qS:C.pm=false)(hrd:C.rd=none)(h:zxi C sps args body fn.results.toList w R):Calls C.P f args.toArray w λe w'=>∃v,e=.returned v/\R v w':=
 (Af E hf hb hn hargs hn4 hrd h).mono λe w' ⟨v,_,he,_,_,h3⟩=>⟨v,he,h3 qS⟩
def Tb{w:Wo}{b:Nat}{cs:Array Va}{t:TypeId}{fz:Nat×Nat}(h:w.heap[b]? = some (.cells cs t fz))(k:Nat):w.cell? ⟨b,k,none⟩=cs[k]? := by
 simp[World.cell?,h]
def UX{w:Wo}{b:Nat}{o:Obj}(h:w.heap[b]? = some o):b<w.heap.size:=by
 rcases Nat.lt_or_ge b w.heap.size with hl|hl
 ·exact hl
 ·rw[Array.getElem?_eq_none_iff.2 hl] at h;cases h
def VX{bs:List Nat}{w:Wo}{b k0:Nat}{cs:List Va}{t:TypeId}{fz:Nat×Nat}(h:w.heap[b]? = some (.cells cs.toArray t fz))(hb:b∉bs){k:Nat}{v:Va}(hk:cs[k0+k]? = some v):JE bs w (some ⟨b,k0,none⟩) k v:=
 ⟨⟨b,k0,none⟩,rfl,hb,by rw[Addr.add_lit,Tb h];simpa using hk⟩
def Ug{bs:List Nat}{w:Wo}{o:OA}{n:Nat}{v:Va}(h:JE bs w o n v):Q1 bs w o n [v]:=h
def Og{bs:List Nat}{w:Wo}{o:OA}:∀{n:Nat} {vs:List Va},(∀j v,vs[j]? = some v->JE bs w o (n+j) v)->Q1 bs w o n vs
 |_,[],_=>trivial
 |n,[v],h=>h 0 v rfl
 |n,v::u::r,h=>⟨h 0 v rfl,Og (vs:=u::r) λj x hj=>by
   have:=h (j+1) x (by simpa using hj);rw[show n+1+j=n+(j+1) by omega];exact this⟩
def VC{bs:List Nat}{w:Wo}{b k0:Nat}{cs:List Va}{t:TypeId}{fz:Nat×Nat}(h:w.heap[b]? = some (.cells cs.toArray t fz))(hb:b∉bs){n:Nat}{vs:List Va}(hk:∀j v,vs[j]? = some v->cs[k0+(n+j)]? = some v):Q1 bs w (some ⟨b,k0,none⟩) n vs:=
 Og λj v hj=>VX h hb (hk j v hj)
def Q1.ext{bs:List Nat}{w w':Wo}{o:OA}{n:Nat}{vs:List Va}(h:Q1 bs w o n vs)(hx:Q0 bs w w'):Q1 bs w' o n vs:=
 Og λj v hj=>(h.get j v hj).ext hx
def Q1.less{bs cs:List Nat}{w:Wo}{o:OA}{n:Nat}{vs:List Va}(h:Q1 bs w o n vs)(hs:∀x∈cs,x∈bs):Q1 cs w o n vs:=
 Og λj v hj=>(h.get j v hj).less hs
def QR{bs:List Nat}{w w':Wo}{b:Nat}{o:Obj}(h:w.heap[b]? = some o)(hx:Q0 bs w w')(hb:b∉bs):w'.heap[b]? = some o:=by
 rw[hx.block b (UX h) hb];exact h
def Ka{w:Wo}{b k n:Nat}{cs vs:List Va}{t:TypeId}{fz:Nat×Nat}(h:w.heap[b]? = some (.cells cs.toArray t fz)):(Rx w (some ⟨b,k,none⟩) n vs).heap[b]? = some (.cells (zmg cs (k+n) vs).toArray t fz):=EE vs w b k n cs t fz h
def zo7(bs:List Nat)(a:Addr):∀(vs:List Va) (w:Wo) (n:Nat),a.block∈bs->Q0 bs w (fY w a n vs)
 |[],w,n,_=>Q0.refl _ _
 |v::r,w,n,h=>((Q0.refl bs w).setCell (p:=a.add n) (.inr (by rw[Zz];exact h)) v).trans (zo7 bs a r _ _ h)
def TK{bs:List Nat}{w:Wo}{o:OA}{n:Nat}{vs:List Va}(h:∀a,o=some a->a.block∈bs):Q0 bs w (Rx w o n vs):=by
 cases o with
 |none=>exact Q0.refl _ _
 |some a=>exact zo7 bs a vs w n (h a rfl)
def Bn{bs:List Nat}{w:Wo}{b k0 n k:Nat}{cs:List Va}{t:TypeId}(h:w.heap[b]? = some (.cells cs.toArray t (0,0)))(hb:b∉bs)(hk:k0+(n+k)<=cs.length):Xd bs w (some ⟨b,k0,none⟩) n k:=
 ⟨⟨b,k0,none⟩,rfl,hb,λj h1 h2=>by
  rw[Addr.add_lit,Tb h];refine⟨⟨cs[k0+j]' Qo,Qs⟩,?_⟩;simp[World.frozen?,h]⟩
def Q0.fresh{bs cs:List Nat}{w0 w w':Wo}(h:Q0 bs w0 w)(k:Q0 cs w w')(hc:∀x∈cs,w0.heap.size<=x\/x∈bs):Q0 bs w0 w':=
 ⟨k.os.trans h.os,k.tape.trans h.tape,k.output.trans h.output,IB h.size k.size,λi hi hb=>(k.block i (Nat.lt_of_lt_of_le hi h.size) (λhx=>by
  rcases hc i hx with h1|h1
  ·omega
  ·exact hb h1)).trans (h.block i hi hb)⟩
def L7{bs:List Nat}{P:Program}{f:FuncId}{args:Array Va}{w:Wo}{v:Va}(h:∀wr,Q0 bs w wr->Calls P f args wr λe w'=>∃v0,e=.returned v0/\(v0=v/\Q0 [] wr w')):Q4 bs P f args w v:=
 λwr hx=>(h wr hx).mono λe w' ⟨v0,he,hv,fT⟩=>⟨by rw[he,hv],fT⟩
def TJ{w:Wo}{o:OA}{n k:Nat}{vs:List Va}:Rx w (o.map (·.add n)) k vs=Rx w o (n+k) vs:=by
 cases o with
 |none=>rfl
 |some a=>
  simp only[Option.map_some,Rx]
  induction vs generalizing w k with
  |nil=>rfl
  |cons v r ih=>
   simp only[fY];rw[JF,ih];rfl
def PP{bs:List Nat}{w:Wo}{o:OA}{n k m:Nat}:Xd bs w (o.map (·.add n)) k m↔Xd bs w o (n+k) m:=by
 cases o with
 |none=>
  constructor <;> (rintro⟨a,ha,_⟩;cases ha)
 |some p=>
  constructor
  ·rintro⟨a,ha,hb,hc⟩;simp only[Option.map_some,I0] at ha;subst ha;refine⟨p,rfl,by rwa[Zz] at hb,λj h1 h2=>?_⟩;have:=hc (j-n) Qo Qo
   rwa[JF,show n+(j-n)=j by omega] at this
  ·rintro⟨a,ha,hb,hc⟩;cases ha;refine⟨p.add n,rfl,by rwa[Zz],λj h1 h2=>?_⟩;rw[JF];exact hc (n+j) Qo Qo
structure KD where
 IL:Int
 on:Bool
 v:Int
 w:Int
 sum:Int
 deriving DecidableEq,Inhabited
structure Ue where
 I':Int
 RU:Int
 SB:Int
 locals:List Int
 RE:List Bool
 deriving DecidableEq,Inhabited
structure Zb where
 IW:Bool
 IG:Int
 name:ByteArray
 R3:Int
 IF:Int
 period:Int
 next:Int
 sum:Int
 IM:Ue
 IH:List KD
 deriving DecidableEq,Inhabited
structure MQ where
 state:Int
 II:Int
 R2:Int
 nice:Int
 mask:Int
 v:Int
 sum:Int
 IW:Int
 load:Int
 deriving DecidableEq,Inhabited
structure PZ where
 up:Bool
 cur:Int
 Wh:Int
 busy:Int
 idle:Int
 deriving DecidableEq,Inhabited
structure Q7 where
 now:Int
 IF:List PZ
 IJ:List MQ
 IE:List Zb
 deriving DecidableEq,Inhabited
structure z5m where
 kind:Int
 wL:Int
 n:Int
 deriving DecidableEq,Inhabited
def gi{α:Type}[Inhabited α](l:List α)(i:Int):α:=l.getD i.toNat default
def zxq{α:Type}[Inhabited α](l:List α)(k:Nat):gi l (k:Int)=l.getD k default:=rfl
def Jq{α:Type}[Inhabited α]{l:List α}{k:Nat}(h:k<l.length):gi l (k:Int)=l[k]:=by
 simp[zxq,List.getD_eq_getElem?_getD,h]
def z09{α:Type}[Inhabited α]{l:List α}{k:Nat}(h:k<l.length):l[k]? = some (gi l (k:Int)):=by
 rw[Jq h];simp[h]
def zqb{α:Type}[Inhabited α]{l:List α}{i:Int}(h0:0<=i)(h1:i<l.length):gi l i∈l:=by
 obtain⟨k,rfl⟩:=Int.eq_ofNat_of_zero_le h0;have:k<l.length:=Qo;rw[Jq this];exact List.getElem_mem this
def zqa{α:Type}[Inhabited α]{l m:List α}(hl:l.length=m.length)(h:∀k:Nat,k<l.length->gi l (k:Int)=gi m (k:Int)):l=m:=by
 refine List.ext_getElem hl λk h1 h2=>?_
 have:=h k h1
 rwa[Jq h1,Jq h2] at this
def z35{α β:Type}[Inhabited α][Inhabited β](f:α->β)(l:List α){i:Int}(h0:0<=i)(hi:i<(l.length:Int)):gi (l.map f) i=f (gi l i):=by
 obtain⟨k,rfl⟩:=Int.eq_ofNat_of_zero_le h0;rw[Jq (by simp;omega),Jq Qo];simp
def QE{α:Type}[Inhabited α](l:List α)(x:α){i j:Int}(h0:0<=i)(hi:i<(l.length:Int))(hj:0<=j):gi (l.set i.toNat x) j=if i=j then x else gi l j:=by
 obtain⟨k,rfl⟩:=Int.eq_ofNat_of_zero_le h0;obtain⟨q,rfl⟩:=Int.eq_ofNat_of_zero_le hj;simp only[zxq,Ig,List.getD_eq_getElem?_getD,List.getElem?_set]
 by_cases hkq:k=q
 ·subst hkq;have:k<l.length:=Qo;simp[this]
 ·have:¬((k:Int)=q):=Qo;simp[hkq,this]
def T4(s:KD):List Va:=[I s.IL,.bool s.on,I s.v,I s.w,I s.sum]
def X4(t:MQ):List Va:=[I t.state,I t.II,I t.R2,I t.nice,I t.mask,I t.v,I t.sum,I t.IW,I t.load]
def Gm(c:PZ):List Va:=[.bool c.up,I c.cur,I c.Wh,I c.busy,I c.idle]
def z5x(o:z5m):List Va:=[I o.kind,I o.wL,I o.n]
def JW(n:Int):List Va:=[I n]
def MT(b:Bool):List Va:=[.bool b]
structure MG where
 lO:OA
 lC:Nat
 dO:OA
 dC:Nat
 sO:OA
 sC:Nat
 deriving Inhabited
def Yq(g:Zb)(m:MG):List Va:=[.bool g.IW,I g.IG,.string g.name,I g.R3,I g.IF,I g.period,I g.next,I g.sum,
 I g.IM.I',I g.IM.RU,I g.IM.SB,.slice m.lO g.IM.locals.length m.lC,.slice m.dO g.IM.RE.length m.dC,.slice m.sO g.IH.length m.sC]
def Rd{α:Type}[Inhabited α](enc:α->List Va)(z:Nat)(bs:List Nat)(w:Wo)(o:OA)(l:List α):Prop:=
 ∀i:Int,0<=i->i<(l.length:Int)->Q1 bs w o (Int.toNat i*z) (enc (gi l i))
def Rd.ext{α:Type}[Inhabited α]{enc:α->List Va}{z:Nat}{bs:List Nat}{w w':Wo}{o:OA}{l:List α}(h:Rd enc z bs w o l)(hx:Q0 bs w w'):Rd enc z bs w' o l:=
 λi h0 h1=>(h i h0 h1).ext hx
def Rd.less{α:Type}[Inhabited α]{enc:α->List Va}{z:Nat}{bs cs:List Nat}{w:Wo}{o:OA}{l:List α}(h:Rd enc z bs w o l)(hs:∀x∈cs,x∈bs):Rd enc z cs w o l:=
 λi h0 h1=>(h i h0 h1).less hs
def JE.wide{bs cs:List Nat}{w:Wo}{o:OA}{n:Nat}{v:Va}(h:JE bs w o n v)(hs:∀x∈cs,x∈bs\/w.heap.size<=x):JE cs w o n v:=by
 obtain⟨a,ho,hb,hc⟩:=h;refine⟨a,ho,λhx=>?_,hc⟩;have IV:=World.block_lt_of_cell? w _ hc;rw[Zz] at IV;rcases hs _ hx with h1|h1
 ·exact hb h1
 ·omega
def Q1.wide{bs cs:List Nat}{w:Wo}{o:OA}{n:Nat}{vs:List Va}(h:Q1 bs w o n vs)(hs:∀x∈cs,x∈bs\/w.heap.size<=x):Q1 cs w o n vs:=
 Og λj v hj=>(h.get j v hj).wide hs
def Rd.wide{α:Type}[Inhabited α]{enc:α->List Va}{z:Nat}{bs cs:List Nat}{w:Wo}{o:OA}{l:List α}(h:Rd enc z bs w o l)(hs:∀x∈cs,x∈bs\/w.heap.size<=x):Rd enc z cs w o l:=
 λi h0 h1=>(h i h0 h1).wide hs
def Q1.some{bs:List Nat}{w:Wo}{o:OA}{n:Nat}{v:Va}{r:List Va}(h:Q1 bs w o n (v::r)):o.isSome:=by
 obtain⟨a,rfl,_,_⟩:=h.get 0 v rfl;rfl
def Rd.ix{α:Type}[Inhabited α]{enc:α->List Va}{z:Nat}{bs:List Nat}{w:Wo}{o:OA}{l:List α}(h:Rd enc z bs w o l)(he:∀x,∃v r,enc x=v::r){i:Int}(h0:0<=i)(h1:i<(l.length:Int)):Ix o l.length i:=by
 obtain⟨v,r,e⟩:=he (gi l i);have:=h i h0 h1;rw[e] at this;exact⟨h0,h1,this.some⟩
def YM(x:KD):∃v r,T4 x=v::r:=⟨_,_,rfl⟩
def QT(x:MQ):∃v r,X4 x=v::r:=⟨_,_,rfl⟩
def Y9(x:PZ):∃v r,Gm x=v::r:=⟨_,_,rfl⟩
def XP(x:Int):∃v r,JW x=v::r:=⟨_,_,rfl⟩
def Lw(x:Bool):∃v r,MT x=v::r:=⟨_,_,rfl⟩
abbrev zm0:=Rd T4 5
abbrev zz8:=Rd X4 9
abbrev z5p:=Rd Gm 5
abbrev zm2:=Rd JW 1
abbrev zwa:=Rd MT 1
structure G6 (bs:List Nat) (w:Wo) (o:OA) (gs:List Zb) (ms:Nat->MG):Prop where
 cells:∀i:Int,0<=i->i<(gs.length:Int)->Q1 bs w o (Int.toNat i*14) (Yq (gi gs i) (ms i.toNat))
 locals:∀i:Int,0<=i->i<(gs.length:Int)->zm2 bs w (ms i.toNat).lO (gi gs i).IM.locals
 RE:∀i:Int,0<=i->i<(gs.length:Int)->zwa bs w (ms i.toNat).dO (gi gs i).IM.RE
 IH:∀i:Int,0<=i->i<(gs.length:Int)->zm0 bs w (ms i.toNat).sO (gi gs i).IH
def G6.ext{bs:List Nat}{w w':Wo}{o:OA}{gs:List Zb}{ms:Nat->MG}(h:G6 bs w o gs ms)(hx:Q0 bs w w'):G6 bs w' o gs ms:=
 ⟨λi a b=>(h.cells i a b).ext hx,λi a b=>(h.locals i a b).ext hx,λi a b=>(h.RE i a b).ext hx,λi a b=>(h.IH i a b).ext hx⟩
def G6.less{bs cs:List Nat}{w:Wo}{o:OA}{gs:List Zb}{ms:Nat->MG}(h:G6 bs w o gs ms)(hs:∀x∈cs,x∈bs):G6 cs w o gs ms:=
 ⟨λi a b=>(h.cells i a b).less hs,λi a b=>(h.locals i a b).less hs,λi a b=>(h.RE i a b).less hs,λi a b=>(h.IH i a b).less hs⟩
def G6.wide{bs cs:List Nat}{w:Wo}{o:OA}{gs:List Zb}{ms:Nat->MG}(h:G6 bs w o gs ms)(hs:∀x∈cs,x∈bs\/w.heap.size<=x):G6 cs w o gs ms:=
 ⟨λi a b=>(h.cells i a b).wide hs,λi a b=>(h.locals i a b).wide hs,λi a b=>(h.RE i a b).wide hs,λi a b=>(h.IH i a b).wide hs⟩
def G6.ix{bs:List Nat}{w:Wo}{o:OA}{gs:List Zb}{ms:Nat->MG}(h:G6 bs w o gs ms){i:Int}(h0:0<=i)(h1:i<(gs.length:Int)):Ix o gs.length i:=
 ⟨h0,h1,(h.cells i h0 h1).some⟩
def Y4(p:Nat)(vs:List Va):Int:=match vs[p]? with
 |some (.int _ i)=>i
 |_=>0
def zt7(I:Nat->Prop)(vs:List Va):Prop:=∃k:Nat,I k/\vs=[.int .i64 (k:Int)]
def Xp(n:Nat)(p:Nat)(vs:List Va):Nat:=((n:Int)+1-Y4 p vs).toNat
def YU{B:(List Va->Prop)->(List Va->Nat)->Int->Prop}(n:Nat){si:Int}(s:Nat)(hs:si=s)(I:Nat->Prop)(h0:I s)(hB:∀k:Nat,I k->B (zt7 I) (Xp n 0) (k:Int)) :
  ∃(IU:List Va->Prop) (mu:List Va->Nat),IU [.int .i64 si]/\∀i:Int,IU [.int .i64 i]->B IU mu i:=by
 refine⟨zt7 I,Xp n 0,⟨s,h0,by rw[hs]⟩,?_⟩;rintro i ⟨k,hI,he⟩;simp only[I4,I5,true_and,and_true] at he;subst he;exact hB k hI
def Qy{n k:Nat}{I:Nat->Prop}(hk:k<n)(hI:I (k+1)):zt7 I [.int .i64 ((k:Int)+1)]/\Xp n 0 [.int .i64 ((k:Int)+1)]<Xp n 0 [.int .i64 (k:Int)]:=by
 refine⟨⟨k+1,hI,Qs⟩,?_⟩;simp only[Xp,Y4,Ie];omega
def zw7(I:Nat->Wo->Prop)(vs:List Va)(w:Wo):Prop:=∃k:Nat,I k w/\vs=[.int .i64 (k:Int)]
def Zp(n:Nat)(p:Nat)(vs:List Va)(_:Wo):Nat:=Xp n p vs
def Jh{B:(List Va->Wo->Prop)->(List Va->Wo->Nat)->Int->Wo->Prop}{bs L:List Nat}{wv:Wo}(n:Nat){si:Int}(s:Nat)(hs:si=s)(I:Nat->Wo->Prop)(h0:∀wr,Q0 bs wv wr->(∀bq∈L,bq<wr.heap.size)->I s wr)(hB:∀(k:Nat) (w1:Wo),(∀bq∈L,bq<w1.heap.size)->I k w1->B (zw7 I) (Zp n 0) (k:Int) w1) :
  ∃(IU:List Va->Wo->Prop) (mu:List Va->Wo->Nat),(∀wr,Q0 bs wv wr->(∀bq∈L,bq<wr.heap.size)->IU [.int .i64 si] wr)/\∀(i:Int) (w1:Wo),(∀bq∈L,bq<w1.heap.size)->IU [.int .i64 i] w1->B IU mu i w1:=by
 refine⟨zw7 I,Zp n 0,λwr hx hq=>⟨s,h0 wr hx hq,by rw[hs]⟩,?_⟩;rintro i w1 hq ⟨k,hI,he⟩;simp only[I4,I5,true_and,and_true] at he;subst he;exact hB k w1 hq hI
def Qx{n k:Nat}{I:Nat->Wo->Prop}{wr w1:Wo}(hk:k<n)(hI:I (k+1) wr):zw7 I [.int .i64 ((k:Int)+1)] wr/\Zp n 0 [.int .i64 ((k:Int)+1)] wr<Zp n 0 [.int .i64 (k:Int)] w1:=by
 refine⟨⟨k+1,hI,Qs⟩,?_⟩;simp only[Zp,Xp,Y4,Ie];omega
def zw6(I:Int->Nat->Prop)(vs:List Va):Prop:=∃(x:Int) (k:Nat),I x k/\vs=[.int .i64 x,.int .i64 (k:Int)]
def P9{B:(List Va->Prop)->(List Va->Nat)->Int->Int->Prop}(n:Nat){xi si:Int}(s:Nat)(hs:si=s)(I:Int->Nat->Prop)(h0:I xi s)(hB:∀(x:Int) (k:Nat),I x k->B (zw6 I) (Xp n 1) x (k:Int)) :
  ∃(IU:List Va->Prop) (mu:List Va->Nat),IU [.int .i64 xi,.int .i64 si]/\∀(x i:Int),IU [.int .i64 x,.int .i64 i]->B IU mu x i:=by
 refine⟨zw6 I,Xp n 1,⟨xi,s,h0,by rw[hs]⟩,?_⟩;rintro x i ⟨x',k,hI,he⟩;simp only[I4,I5,true_and,and_true] at he;obtain⟨rfl,rfl⟩:=he;exact hB x k hI
def QP{n k:Nat}{I:Int->Nat->Prop}{x x':Int}(hk:k<n)(hI:I x' (k+1)):zw6 I [.int .i64 x',.int .i64 ((k:Int)+1)]/\Xp n 1 [.int .i64 x',.int .i64 ((k:Int)+1)]<Xp n 1 [.int .i64 x,.int .i64 (k:Int)]:=by
 refine⟨⟨x',k+1,hI,Qs⟩,?_⟩;simp only[Xp,Y4,Ie,List.getElem?_cons_succ];omega
def Xu:maxLen<=9223372036854775807:=by simp[maxLen]
def zlh{k n:Nat}(h:(k:Int)<(n:Int))(hn:n<=maxLen):Qq .i64 ((k:Int)+1):=by
 have:=Xu;exact⟨Qo,Qo⟩
end Go.Proofs.YtjinkcmkgnofjaaGreatDoor
