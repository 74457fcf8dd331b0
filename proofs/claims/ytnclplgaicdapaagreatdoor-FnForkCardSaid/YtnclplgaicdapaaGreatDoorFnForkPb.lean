/- Part 2 of what the law FnFork needs. -/
import Derived.Test.YtnclplgaicdapaaGreatDoorFnForkPa
import Derived.RangeFuncRecord
import Derived.OrdersIn
import Derived.TacticsIn
import Derived.Scope
set_option linter.unusedVariables false
set_option linter.unusedSimpArgs false
set_option maxRecDepth 100000
set_option maxHeartbeats 8000000
namespace Go.Proofs.YtnclplgaicdapaaGreatDoor
open Go.RowKit
def T7(r:Option Nat):Fence:={ Fence.wide with round:=r }
theorem zbz(r:Option Nat)(n:Nat):(T7 r).room n:=λd h=>by simp[T7,Fence.wide] at h
theorem PP{r:Option Nat}{n:Nat}{P:Program}{f:FuncId}{args:Array Va}{w:Wo}{R:Ending->Wo->Prop}(h:Calls P f args w R):CallsIn (T7 r) n P f args w R:=(callsIn_wide (n:=n)).2 h
theorem zqa{r:Option Nat}{n:Nat}{P:Program}{f:FuncId}{args:Array Va}{w:Wo}{R:Ending->Wo->Prop}(h:CallsIn (T7 r) n P f args w R):Calls P f args w R:=(callsIn_wide (n:=n)).1 h
theorem zhe{r:Option Nat}{n m:Nat}{P:Program}{l:Nat}{f:FuncId}{tmps:Array Va}{asg body:Code}{w:Wo}{R:Ending->Wo->Prop}(h:RoundIn Fence.wide n P l f tmps asg body w R):RoundIn (T7 r) m P l f tmps asg body w R:=
 ⟨trivial,λc cs _=>h.2 c cs (room_wide _)⟩
theorem zuu{r:Option Nat}{n:Nat}{P:Program}{row:String}{args:Array Va}{w:Wo}{R:Va->Wo->Prop}(h:Rows P row args w R):RowsIn (T7 r) n P row args w R:=λc cs _=>by
 obtain⟨v,w',hr,hs⟩:=h c cs;exact⟨v,w',hr,(stepsIn_wide (P:=P)).2 hs⟩
theorem zpo{r:Option Nat}{P:Program}{o:Oper}{a:Act}{w:Wo}{next:Act->Wo->Prop}{Q:Exit->Act->Wo->Prop}(hd:∀c,o.op≠.defer c)(h:o.uponIn (T7 r) 0 P a next Q ((execOp a.eval o).run P w)):o.wpIn (T7 r) 0 P a w next Q:=
 ⟨λ_ _=>trivial,by rw[Oper.semAt_eq _ _ _ hd]; exact h⟩
theorem z10{r:Option Nat}{P:Program}{o:Oper}{a:Act}{w:Wo}{next:Act->Wo->Prop}{Q:Exit->Act->Wo->Prop}(hd:∀c,o.op≠.defer c)(h:o.wpIn (T7 r) 0 P a w next Q):o.uponIn (T7 r) 0 P a next Q ((execOp a.eval o).run P w):=by
 have:=h.2;rw[Oper.semAt_eq _ _ _ hd] at this;exact this
theorem zh3{P:Program}{o:Oper}{ρ:Operand->Va}{c:Call}(hc:o.op=.defer c)(w:Wo):(∃d w',(execOp ρ o).run P w=.ok (.defer d) w')\/∃x w',(execOp ρ o).run P w=.halt x w':=by
 simp only[execOp,hc,Sem.run_bind]
 cases hr:(resolve ρ c o.type).run P w with
 | ok d w'=>exact .inl ⟨d,w',by simp[Result.andThen]⟩
 | halt x w'=>exact .inr ⟨x,w',by simp[Result.andThen]⟩
theorem zmk{P:Program}{C:Wo->Prop}{o:Oper}{ρ:Operand->Va}{w:Wo}{v:Va}(h:Oper.quietUpon P C w v ((execOp ρ o).run P w)):∀c,o.op≠.defer c:=λc hc=>by
 rcases zh3 (P:=P) (ρ:=ρ) hc w with ⟨d,w',hr⟩ | ⟨x,w',hr⟩ <;> (rw[hr] at h; exact h)
theorem Ba{r:Option Nat}{P:Program}{C:Wo->Prop}{o:Oper}{a:Act}{K:Act->Prop}{K':Act->Wo->Prop}{Q':Exit->Act->Wo->Prop}{w:Wo}(hw:C w)(h:∀a w',C w'->K a->K' a w')(hh:o.quiet P a C K):o.wpIn (T7 r) 0 P a w K' Q':=by
 obtain⟨v,h1,h2⟩:=hh;have h3:=h1 w hw;refine zpo (zmk h3) ?_;unfold Oper.quietAt at h3;generalize (execOp a.eval o).run P w=res at *
 cases res with
 | ok n w'=>
  cases n <;> simp only[Oper.quietUpon] at h3 <;> simp only[Oper.uponIn]
  case value u=>
   obtain⟨e1,e2⟩:=h3;rw[e1,e2];exact h _ _ hw h2
  case skip=>
   obtain⟨e1,e2⟩:=h3;rw[e1,<-e2];exact h _ _ hw h2
  case enter f args=>
   obtain⟨e1,e2⟩:=h3;rw[e1];exact⟨λhx=>(by simp[T7,Fence.wide] at hx),PP (e2.mono λe mD ⟨he,hc⟩=>by subst he; exact h _ _ hc h2)⟩
 | halt x w'=>exact h3.elim
section
variable {P:Program}{b:Frame}{a:Act}{k:List Item}{cs:List Frame}{w:Wo}
theorem T4{c:Code}:step P (lone (b.atR a (.code (.scope c)::k)) cs w)=.next (lone (b.atR a (.code c :: .inScope c::k)) cs w):=
 step_lone_go (by simp[stepG,stepG.exec,Frame.atR])
theorem zgy{c:Code}:step P (lone (b.atR a (.inScope c::k)) cs w)=.next (lone (b.atR a k) cs w):=
 step_lone_go (by simp[stepG,stepG.exec,Frame.atR])
end
section
variable {F:Fence}{n:Nat}{P:Program}{Q:Exit->Act->Wo->Prop}{a:Act}{w:Wo}
theorem D1{c:Code}(h:c.wpIn F n P (Exit.noGoto Q) a w):(Code.scope c).wpIn F n P Q a w:=by
 intro b k cs hro hb hr;have h0:(lone (b.atR a (.code (.scope c)::k)) cs w).fenced P F:=fenced_calm hb hr rfl;obtain⟨e,a₁,w₁,hq,xH⟩:=h b (.inScope c::k) cs hro hb hr
 cases e with
 | normal=>exact⟨.normal,a₁,w₁,hq,.head h0 T4 (StepsIn.trans xH (.one (fenced_calm hb hr rfl) zgy))⟩
 | exit id=>exact⟨.exit id,a₁,w₁,hq,λk' hk=>.head h0 T4 (xH.1 k' (by simp[exitTo,hk])),λhr' hk=>(let ⟨k₁,h1,h2⟩:=xH.2 hr' (by simp[exitTo,hk]); ⟨k₁,h1,.head h0 T4 h2⟩)⟩
 | goto l=>exact hq.elim
 | ret=>exact⟨_,a₁,w₁,hq,.of_steps (.one h0 T4) xH⟩
 | panic ch=>exact⟨_,a₁,w₁,hq,.of_steps (.one h0 T4) xH⟩
 | outgrown=>exact⟨_,a₁,w₁,hq,.of_steps (.one h0 T4) xH⟩
theorem B9{c:Code}(I:Nat->Act->Wo->Prop){m:Nat}(h₀:I m a w)(round:∀m a w,I m a w->c.wpIn F n P (Exit.then (λa' w'=>∃j,j<m/\I j a' w') Q) a w):(Code.loop c).wpIn F n P Q a w:=by
 intro b k cs hro hb hr
 have key:∀m a w,I m a w->∃e a' w',Q e a' w'/\ArrivesIn (Machine.fenced P F) P (lone (b.atR a (.code c :: .inLoop c::k)) cs w) b k cs e a' w':=by
  intro m
  induction m using Nat.strongRecOn with
  | _ m ih=>
   intro a w hI;obtain⟨e,a₁,w₁,hq,xH⟩:=round m a w hI b (.inLoop c::k) cs hro hb hr
   cases e with
   | normal=>
    obtain⟨j,IU,hI₁⟩:=hq;obtain⟨e₂,a₂,w₂,hq₂,harr₂⟩:=ih j IU a₁ w₁ hI₁;exact⟨e₂,a₂,w₂,hq₂,.of_steps (StepsIn.trans xH (.one (fenced_calm hb hr rfl) stepR_inLoop)) harr₂⟩
   | exit id=>exact⟨_,a₁,w₁,hq,.pass (x:=.inLoop c) rfl (λ_ _=>.inl Qs) xH⟩
   | goto l=>exact⟨_,a₁,w₁,hq,.pass (x:=.inLoop c) rfl (λ_ _=>.inl Qs) xH⟩
   | ret=>exact⟨_,a₁,w₁,hq,.pass (x:=.inLoop c) rfl (λ_ _=>.inl Qs) xH⟩
   | panic ch=>exact⟨_,a₁,w₁,hq,.pass (x:=.inLoop c) rfl (λ_ _=>.inl Qs) xH⟩
   | outgrown=>exact⟨_,a₁,w₁,hq,.pass (x:=.inLoop c) rfl (λ_ _=>.inl Qs) xH⟩
 obtain⟨e,a',w',hq,xH⟩:=key m a w h₀;exact⟨e,a',w',hq,.of_steps (.one (fenced_calm hb hr rfl) stepR_loop) xH⟩
end
def zbe(v:Va)(vs:List Va):Sem Next:=do let d <-Deferred.ofValue v vs.toArray; invoke d.target d.args
def zz0(m:String)(v:Va)(vs:List Va):Sem Next:=invoke (.fn (.method m) #[]) (#[v]++vs.toArray)
def MA(P:Program)(v:Va)(vs:List Va)(w:Wo)(R:Ending->Wo->Prop):Prop:=
 (∃(f:FuncId) (as0:Array Va),(zbe v vs).run P w=.ok (.enter f as0) w/\Calls P f as0 w R) \/
 ∃(l:Nat) (f:FuncId) (tmps:Array Va) (asg body:Code),(zbe v vs).run P w=.ok (.round l f tmps asg body) w/\RoundIn Fence.wide 0 P l f tmps asg body w R
theorem MA.mono{P:Program}{v:Va}{vs:List Va}{w:Wo}{R R':Ending->Wo->Prop}(h:MA P v vs w R)(hr:∀e w',R e w'->R' e w'):MA P v vs w R':=by
 rcases h with ⟨f,as0,h1,h2⟩ | ⟨l,f,tmps,asg,body,h1,h2⟩
 ·exact .inl ⟨f,as0,h1,h2.mono hr⟩
 ·exact .inr ⟨l,f,tmps,asg,body,h1,h2.mono hr⟩
def zu8(C:UJ)(t:TypeId):Bool:=match C.T t with
 | some { agg:=_,ks:=_,d:=.int _ }=>true
 | _=>false
def Ff(C:UJ):Op->Bool
 | .alloc _ | .box _ _ | .store _ _ _ | .buildSlice _ _ _=>true
 | .call { callee:=.value (.func f),args:=_,argTypes:=_ } => !(znz C.pf f).isSome
 | .call { callee:=.builtin b,args:=_,argTypes:=_ }=>match b with
  | .append | .copy=>true
  | _=>false
 | .call { callee:=.value (.tmp _),args:=_,argTypes:=_ } | .call { callee:=.invoke _ _,args:=_,argTypes:=_ }=>true
 | .makeSlice _ _ _ | .makeMap _ _ | .lookup _ _ _ _ | .mapUpdate _ _ _ _ | .insert _ _ _ _ | .range _ _ | .next _ _=>true
 | .convert s d _ => !(zu8 C s&&zu8 C d)
 | _=>false
def St.cQ(S:St):St:={ S with old:=S.B.length }
def Q8(B:List Nat)(w w':Wo):Prop:=∀b∈B,w'.heap[b]? = w.heap[b]?
def z3r:Builtin->List RK
 | .append=>[.cell .slice]
 | _=>[.cell (.int .i64)]
def zuj(args:Array Operand):Array Bool:=args.map λ| .const _=>true | _=>false
def PU(z:Nat):List (Nat×Operand)->Nat->List Va->Option (List Va)
 | [],_,[]=>some []
 | (i,_)::r,k,v::vs=>bif Nat.beq i k&&Nat.beq v.cells.toList.length z then
   match PU z r (k+1) vs with
   | some l=>some (v.cells.toList++l)
   | none=>none
  else none
 | _,_,_=>none
def zc5(C:UJ)(S:St)(w:Wo)(d:Option Tmp)(t:TypeId)(cells:List Va)(e:Nat->EV)(K:St->Wo->Prop):Prop:=
 ∀b,w.heap.size<=b->Ee C { S with L:=S.L++[(t,cells)],B:=S.B++[b] } d (.un (e S.L.length)) λS'=>K S' w
def Nf(C:UJ)(S:St)(w:Wo)(d:Option Tmp)(t:TypeId)(cells:List Va)(e:Nat->EV)(K:St->Wo->Prop):Prop:=
 bif C.pm then False else ∀b w',Q0 S.bs w w'->w.heap.size<=b->w'.heap[b]? = some (Obj.cells cells.toArray t (0,0))->b∉S.B->Ee C S.cQ d (.un (e b)) λS'=>K S' w'
def Ka(l:List Nat)(x:Nat):Bool:=l.any λy=>Nat.beq y x
def zkl(C:UJ)(o:Oper):Option (List Operand×List RK×Bool×(List Va->Sem Va)):=
 match o.op with
 | .makeSlice t l c=>some ([l,c],[.cell .slice],false,λ| [x,y]=>Instr.makeSlice t x y | _=>pure undef)
 | .makeMap t none=>some ([],[.cell .map],false,λ_=>Instr.makeMap t none)
 | .makeMap t (some r)=>some ([r],[.cell .map],false,λ| [x]=>Instr.makeMap t (some x) | _=>pure undef)
 | .lookup t x i ok=>match z2z C o.type with
  | some rk=>some ([x,i],rk,false,λ| [a,b]=>Instr.lookup t a b ok | _=>pure undef)
  | none=>none
 | .mapUpdate t m k x=>some ([m,k,x],[],true,λ| [a,b,c]=>do Instr.mapUpdate t a b c; pure undef | _=>pure undef)
 | .insert t m k x=>some ([m,k,x],[],true,λ| [a,b,c]=>do Instr.mapUpdate t a b c; pure undef | _=>pure undef)
 | .range t x=>some ([x],[.cell .ptr],false,λ| [a]=>Instr.range t a | _=>pure undef)
 | .convert s d x=>match z2z C o.type with
  | some rk=>some ([x],rk,false,λ| [a]=>convert s d a | _=>pure undef)
  | none=>none
 | _=>none
theorem zdr{C:UJ}{o:Oper}{xs:List Operand}{rk:List RK}{u:Bool}{f:List Va->Sem Va}(h:zkl C o=some (xs,rk,u,f))(ρ:Operand->Va){P:Program}{w w':Wo}{v:Va}(hr:(f (xs.map ρ)).run P w=.ok v w') :
  (execOp ρ o).run P w=.ok (if u then .skip else .value v) w':=by
 unfold zkl at h
 split at h
 case h_5 t m k x ho=>
  simp only[I1,Prod.mk.injEq] at h;obtain⟨rfl,rfl,rfl,rfl⟩:=h;simp only[List.map_cons,List.map_nil,Sem.run_bind,Sem.run_pure] at hr;simp only[execOp,ho,Sem.run_bind,Sem.run_pure,if_true];generalize (Instr.mapUpdate t (ρ m) (ρ k) (ρ x)).run P w=q at hr ⊢
  cases q <;> simp_all [Result.andThen]
 case h_6 t m k x ho=>
  simp only[I1,Prod.mk.injEq] at h;obtain⟨rfl,rfl,rfl,rfl⟩:=h;simp only[List.map_cons,List.map_nil,Sem.run_bind,Sem.run_pure] at hr;simp only[execOp,ho,Sem.run_bind,Sem.run_pure,if_true];generalize (Instr.mapUpdate t (ρ m) (ρ k) (ρ x)).run P w=q at hr ⊢
  cases q <;> simp_all [Result.andThen]
 all_goals
  (try split at h)
  all_goals first
   | cases h; done
   | (rename_i ho _ _ _
      simp only[I1,Prod.mk.injEq] at h;obtain⟨rfl,rfl,rfl,rfl⟩:=h;simp only[List.map_cons,List.map_nil] at hr;simp[execOp,ho,hr]
      done)
   | (rename_i ho
      simp only[I1,Prod.mk.injEq] at h;obtain⟨rfl,rfl,rfl,rfl⟩:=h;simp only[List.map_cons,List.map_nil] at hr;simp[execOp,ho,hr])
def Mg(w:Wo)(b:Nat)(s:ByteArray)(p:Nat):Wo:={ w with heap:=w.heap.setIfInBounds b (.stringIter s p) }
def z15(C:UJ)(S:St)(w:Wo)(o:Oper)(pc:List (Nat×Bool))(K:St->Wo->Prop):Prop:=
 match o.op with
 | .alloc t=>match C.T t with
  | some ty=>bif ty.ks.contains .other then False
   else match o.dst with
    | some d=>bif Ka C.vis d then Nf C S w o.dst t (ty.ks.map zv) (λb=>.el (some ⟨b,0,none⟩) 0) K else zc5 C S w o.dst t (ty.ks.map zv) (λi=>.loc i 0) K
    | none=>False
  | none=>False
 | .box t x=>match GH S pc x with
  | some v=>match o.dst with
    | some d=>bif Ka C.vis d then Nf C S w o.dst t v.cells.toList (λb=>.el (some ⟨b,0,none⟩) 0) K else zc5 C S w o.dst t v.cells.toList (λi=>.loc i 0) K
    | none=>False
  | none=>False
 | .buildSlice t n parts=>match C.T t,KA S pc (parts.toList.map (·.2)) with
  | some { agg:=_,ks:=_,d:=.slice e z },some vs=>match C.T e,PU z parts.toList 0 vs with
   | some _,some cells=>bif Nat.beq n vs.length&&Nat.blt 0 z&&Nat.blt 0 n&&Nat.blt (n*z) 16777216 then
     (match o.dst with
      | some d=>bif Ka C.vis d then Nf C S w o.dst e cells (λb=>.v (.slice (some ⟨b,0,none⟩) n n)) K else zc5 C S w o.dst e cells (λi=>.ls i n) K
      | none=>False)
    else False
   | _,_=>False
  | _,_=>False
 | .store t x y=>match C.T t,zee S pc x,GH S pc y with
  | some ty,some (.loc id off),some v=>match S.L[id]? with
   | some (t',cs)=>bif Nat.beq v.cells.toList.length ty.ks.length&&Nat.ble (off+v.cells.toList.length) cs.length&&Zm v.cells.toList && !Ka S.lk id then
     K { S with L:=S.L.set id (t',cs.take off++v.cells.toList++cs.drop (off+v.cells.toList.length)) } w
    else False
   | none=>False
  | some ty,some (.le id i m),some v=>match S.L[id]? with
   | some (t',cs)=>bif Nat.beq v.cells.toList.length ty.ks.length&&Nat.beq v.cells.toList.length 1&&Zm [v] && !Ka S.lk id then
     (i.toNat+m<cs.length)/\zln (cs.map z3g) λvs=>cs.set (i.toNat+m) v=vs/\K { S with L:=S.L.set id (t',vs) } w
    else False
   | none=>False
  | some ty,some (.el ob n),some v=>bif Nat.beq v.cells.toList.length ty.ks.length&&Zm v.cells.toList && !C.pm&&Nat.blt 0 ty.ks.length then
    Yo S.bs w ob n v.cells.toList.length/\K S (R9 w ob n v.cells.toList)
   else False
  | some ty,some (.v (.pointer ob)),some v=>bif Nat.beq v.cells.toList.length ty.ks.length&&Zm v.cells.toList && !C.pm&&Nat.blt 0 ty.ks.length then
    Yo S.bs w ob 0 v.cells.toList.length/\K S (R9 w ob 0 v.cells.toList)
   else False
  | _,_,_=>False
 | .call { callee:=.value (.func f),args:=args,argTypes:=_ }=>match znz C.ef f,KA S pc args.toList with
  | some rks,some vs=>bif C.pm then False else ∀wr,Q0 S.bs w wr->(∀b∈S.B,b<wr.heap.size)->JF S wr (zml S pc args.toList)
    (Calls C.P f vs.toArray wr λe w'=>D4 rks λr=>e=.returned r/\Q8 S.B wr w'/\Ee C S.cQ o.dst (.un (.v r)) λS'=>K S' w')
  | _,_=>False
 | .call { callee:=.builtin bi,args:=args,argTypes:=ts }=>match KA S pc args.toList with
  | some vs=>bif C.pm then False else ∀wr,Q0 S.bs w wr->(∀b∈S.B,b<wr.heap.size)->JF S wr (zml S pc args.toList)
    (D4 (z3r bi) λr=>∃w',(builtin bi ts o.type (zuj args) vs.toArray).run C.P wr=.ok (.value r) w'/\Q8 S.B wr w'/\Ee C S.cQ o.dst (.un (.v r)) λS'=>K S' w')
  | none=>False
 | .call { callee:=.value (.tmp t),args:=args,argTypes:=_ }=>match GH S pc (.tmp t),KA S pc args.toList,z2z C o.type with
  | some v,some vs,some rks=>bif C.pm then False else ∀wr,Q0 S.bs w wr->(∀b∈S.B,b<wr.heap.size)->JF S wr (zml S pc args.toList)
    (MA C.P v vs wr λe w'=>D4 rks λr=>e=.returned r/\Q8 S.B wr w'/\Ee C S.cQ o.dst (.un (.v r)) λS'=>K S' w')
  | _,_,_=>False
 | .call { callee:=.invoke rc m,args:=args,argTypes:=_ }=>match GH S pc rc,KA S pc args.toList,z2z C o.type with
  | some v,some vs,some rks=>bif C.pm then False else ∀wr,Q0 S.bs w wr->(∀b∈S.B,b<wr.heap.size)->JF S wr (zml S pc args.toList)
    (∃(f:FuncId) (as0:Array Va),(zz0 m v vs).run C.P wr=.ok (.enter f as0) wr/\Calls C.P f as0 wr λe w'=>D4 rks λr=>e=.returned r/\Q8 S.B wr w'/\Ee C S.cQ o.dst (.un (.v r)) λS'=>K S' w')
  | _,_,_=>False
 | .next it true=>match GH S pc it with
  | some (.pointer ob)=>bif C.pm then False else ∀wr,Q0 S.bs w wr->(∀b∈S.B,b<wr.heap.size)->
    ∃(b:Nat) (s:ByteArray) (pos:Nat),ob=some ⟨b,0,none⟩/\b∉S.B/\wr.heap[b]? = some (.stringIter s pos)/\
     (s.size<=pos->Ee C S.cQ o.dst (.un (.v (.tuple #[.bool false]))) λS'=>K S' wr)/\
     (pos<s.size->Ee C S.cQ o.dst (.un (.v (.tuple #[.bool true,.int .i64 pos,.int .i32 (Utf8.decode s pos).1]))) λS'=>K S' (Mg wr b s (pos+(Utf8.decode s pos).2)))
  | _=>False
 | _=>match zkl C o with
  | some (xs,rk,u,f)=>match KA S pc xs with
   | some vs=>bif C.pm then False else ∀wr,Q0 S.bs w wr->(∀b∈S.B,b<wr.heap.size)->
     (bif u then (match o.dst with
      | none=>∃w',(f vs).run C.P wr=.ok undef w'/\Q8 S.B wr w'/\K S.cQ w'
      | some _=>False)
     else D4 rk λr=>∃w',(f vs).run C.P wr=.ok r w'/\Q8 S.B wr w'/\Ee C S.cQ o.dst (.un (.v r)) λS'=>K S' w')
   | none=>False
  | none=>False
structure MQ (S S':St):Prop where
 B:∀(id b:Nat),S.B[id]? = some b->S'.B[id]? = some b
 ty:∀(id:Nat) (t:TypeId) (cs:List Va),S.L[id]? = some (t,cs)->∃nX:List Va,S'.L[id]? = some (t,nX)
 lk:∀id∈S.lk,id∈S'.lk/\S'.L[id]? = S.L[id]?
theorem MQ.refl(S:St):MQ S S:=⟨λ_ _ h=>h,λ_ _ cs h=>⟨cs,h⟩,λ_ h=>⟨h,rfl⟩⟩
theorem MQ.trans{S S' vX:St}(h:MQ S S')(k:MQ S' vX):MQ S vX:=
 ⟨λid b hb=>k.B id b (h.B id b hb),λid t cs hc=>(let ⟨cs1,h1⟩:=h.ty id t cs hc; k.ty id t cs1 h1),λid hi=>⟨(k.lk id (h.lk id hi).1).1,((k.lk id (h.lk id hi).1).2).trans (h.lk id hi).2⟩⟩
theorem MQ.cK{S S':St}(h:MQ S S')(d:Option Tmp)(sv:SV):MQ S (S'.cK d sv):=by
 cases d <;> exact⟨h.B,h.ty,h.lk⟩
theorem Zo.cK{S:St}{w wr:Wo}(h:Zo S w wr)(d:Option Tmp)(sv:SV):Zo (S.cK d sv) w wr:=by
 cases d <;> exact⟨h.ext,h.loc,h.len,h.oX,h.fresh⟩
theorem Kw{l:List Nat}{x:Nat}(h:Ka l x=false):x∉l:=by
 intro hx;have:Ka l x=true:=by simp only[Ka,List.any_eq_true]; exact⟨x,hx,Nat.beq_refl x⟩
 rw[h] at this; cases this
structure LA (S:St):Prop where
 old:S.old<=S.B.length
 lk:∀id∈S.lk,id<S.L.length
theorem LA.cK{S:St}(h:LA S)(d:Option Tmp)(sv:SV):LA (S.cK d sv):=by
 cases d <;> exact⟨h.old,h.lk⟩
theorem LA.cQ{S:St}(h:LA S):LA S.cQ:=⟨I8 _,h.lk⟩
theorem Zo.push{S:St}{w wr:Wo}(h:Zo S w wr)(ho:S.old<=S.B.length)(t:TypeId)(cells:List Va) :
  Zo { S with L:=S.L++[(t,cells)],B:=S.B++[wr.heap.size] } w (wr.alloc (.cells cells.toArray t)):=by
 have IU:∀b∈S.B,b<wr.heap.size:=λb hb=>by
  obtain⟨id,bJ⟩:=List.getElem?_of_mem hb;have hl:id<S.L.length:=by rw[h.len]; exact(I9.1 bJ).1
  obtain⟨b',jF,hh⟩:=h.loc id (S.L[id]).1 (S.L[id]).2 (by rw[Im hl]);rw[bJ] at jF; cases jF;exact y8 hh
 have hbs:(S.B++[wr.heap.size]).take S.old=S.B.take S.old:=List.take_append_of_le_length ho;refine⟨?_,λid t' cs hl=>?_,by simp[h.len],?_,λid b bJ hb=>?_⟩
 ·show Q0 ((S.B++[wr.heap.size]).take S.old) w _;rw[hbs]; exact h.ext.alloc _
 ·by_cases hi:id<S.L.length
  ·have hl':S.L[id]? = some (t',cs):=by rw[<-hl]; exact(Iq hi).symm
   obtain⟨b,hb,hh⟩:=h.loc id t' cs hl';refine⟨b,?_,(Below.heap_alloc wr _ b (y8 hh)).trans hh⟩;show (S.B++[wr.heap.size])[id]? = some b;rw[Iq (by rw[<-h.len]; exact hi)]; exact hb
  ·have hi':id=S.L.length:=by
    have:id<(S.L++[(t,cells)]).length:=(I9.1 hl).1;simp at this; omega
   subst hi';simp only[List.getElem?_concat_length,I1,Prod.mk.injEq] at hl;obtain⟨rfl,rfl⟩:=hl;refine⟨wr.heap.size,?_,heap_alloc_new wr _⟩;show (S.B++[wr.heap.size])[S.L.length]? = _;rw[h.len]; simp
 ·refine List.nodup_append.2 ⟨h.oX,Qs,λx hx y hy=>?_⟩;simp only[IA] at hy;subst hy;have:=IU x hx;omega
 ·have jF:(S.B++[wr.heap.size])[id]? = some b:=hb
  by_cases hi:id<S.B.length
  ·rw[Iq hi] at jF;exact h.fresh id b bJ jF
  ·have:id=S.B.length:=by
    have:id<(S.B++[wr.heap.size]).length:=(I9.1 jF).1;simp at this; omega
   subst this;simp at jF;subst jF;exact h.ext.size
theorem Zo.age{S:St}{w wr Wy:Wo}(h:Zo S w wr)(hk:Q8 S.B wr Wy):Zo S.cQ Wy Wy:=
 ⟨Q0.refl _ _,λid t cs hl=>by
  obtain⟨b,hb,hh⟩:=h.loc id t cs hl;exact⟨b,hb,(hk b (List.mem_of_getElem? hb)).trans hh⟩,h.len,h.oX,λid b bJ hb=>by
  have:id<S.B.length:=(I9.1 hb).1;simp only[St.cQ] at bJ;omega⟩
theorem Zo.lt{S:St}{w wr:Wo}(h:Zo S w wr):∀b∈S.B,b<wr.heap.size:=λb hb=>by
 obtain⟨id,bJ⟩:=List.getElem?_of_mem hb;have hl:id<S.L.length:=by rw[h.len]; exact(I9.1 bJ).1
 obtain⟨b',jF,hh⟩:=h.loc id (S.L[id]).1 (S.L[id]).2 (by rw[Im hl]);rw[bJ] at jF; cases jF;exact y8 hh
theorem Zo.C99{S:St}{w wr:Wo}(h:Zo S w wr){i j b:Nat}(hi:S.B[i]? = some b)(hj:S.B[j]? = some b):i=j:=by
 obtain⟨h1l,h1e⟩:=I9.1 hi;obtain⟨h2l,h2e⟩:=I9.1 hj;have hp:=List.pairwise_iff_getElem.1 h.oX;rcases Nat.lt_trichotomy i j with IU | heq | hgt
 ·exact Is (h1e.trans h2e.symm) (hp i j h1l h2l IU)
 ·exact heq
 ·exact Is (h2e.trans h1e.symm) (hp j i h2l h1l hgt)
theorem zk4{P:Program}{T:TypeId->Option Ty}(hT:ztn P T){t:TypeId}{ty:Ty}(ht:T t=some ty)(jH:ty.ks.contains .other=false) :
  ∃i z,P.info? t=some i/\i.zero=some z/\z.cells=(ty.ks.map zv).toArray:=by
 obtain⟨i,z,hi,hz,_,hks⟩:=(hT.facts ht).info;refine⟨i,z,hi,hz,?_⟩
 have h0:∀(l:List Va),(l.map Mz).contains .other=false->(l.map Mz).map zv=l:=by
  intro l
  induction l with
  | nil=>intro _; rfl
  | cons x r ih=>
   intro hc;simp only[List.map_cons,List.contains_cons,I0] at hc;have hx:Mz x≠.other:=by intro e; rw[e] at hc; simp at hc
   simp only[List.map_cons,ih hc.2,<-zjb hx]
 have h1:=h0 z.cells.toList (by rw[hks]; exact jH);rw[hks] at h1;rw[h1,Array.toArray_toList]
theorem EV.iO{S S':St}(h:CX S S'):∀{e:EV} {u:Va},EV.den S e u->EV.den S' e u
 | .v _,_,h'=>h'
 | .el _ _,_,h'=>h'
 | .loc _ _,_,⟨b,hb,h'⟩=>⟨b,h _ _ hb,h'⟩
 | .ls _ _,_,⟨b,hb,h'⟩=>⟨b,h _ _ hb,h'⟩
 | .le _ _ _,_,⟨b,hb,h'⟩=>⟨b,h _ _ hb,h'⟩
 | .no,_,h'=>h'
 | .kb _,_,h'=>h'
theorem MP.mono{n:Nat}{S S':St}{ops:Array Oper}{D:Nat->Prop}{a:Act}(h:MP n S ops D a)(hl:CX S S')(hF:S'.F=S.F)(hr:S'.r=S.r):MP n S' ops D a:=
 ⟨⟨h.fit.size,λi s hs=>by
  rw[hF] at hs;have:=h.fit.fits i s hs
  cases s with
  | un x=>exact EV.iO hl this
  | gd r pc x=>
   intro hrr;rw[hr] at hrr;have h1:=this hrr;exact⟨λhp=>EV.iO hl (h1.1 hp),h1.2⟩⟩,λi pc x hx=>by rw[hF,hr] at hx; exact h.dn i pc x hx,λi r pc x hx=>by rw[hF] at hx; rw[hr]; exact h.st i r pc x hx⟩
def zks(cs:List Va):Nat->List Va->List Va
 | _,[]=>cs
 | k,v::r=>zks (cs.set k v) (k+1) r
theorem Hk:∀(vs cs:List Va) (k:Nat),k+vs.length<=cs.length->zks cs k vs=cs.take k++vs++cs.drop (k+vs.length)
 | [],cs,k,_=>by simp[zks]
 | v::r,cs,k,h=>by
  simp only[zks,List.length_cons] at *;rw[Hk r (cs.set k v) (k+1) (by simp; omega)];have hk:k<cs.length:=Qo;rw[List.take_succ_eq_append_getElem (by simpa using hk),List.getElem_set_self,List.take_set_of_le (I8 _),List.drop_set_of_lt Qo];simp[Nat.add_assoc,Nat.add_comm 1]
theorem Ei:∀(vs:List Va) (w:Wo) (b k n:Nat) (cs:List Va) (t:TypeId) (fz:Nat×Nat),w.heap[b]? = some (.cells cs.toArray t fz)->
  (eR w ⟨b,k,none⟩ n vs).heap[b]? = some (.cells (zks cs (k+n) vs).toArray t fz)
 | [],_,_,_,_,_,_,_,h=>h
 | v::r,w,b,k,n,cs,t,fz,h=>by
  simp only[eR,zks];refine Ei r _ b k (n+1) (cs.set (k+n) v) t fz ?_;rw[Addr.add_lit];simp only[World.setCell,Array.getElem?_modify,if_true,h,Option.map_some,Option.isSome_none,Bool.false_eq_true,if_false];simp
structure ztq (C:UJ) (S:St) (w:Wo) (o:Oper) (a:Act) (K:St->Wo->Prop) (N:Act->Wo->Prop):Prop where
 go:∀(S1:St) (w' Wy:Wo) (e:EV) (v:Va),MQ S S1->S1.F=S.F->S1.r=S.r->LA S1->Zo S1 w' Wy->(C.pm=true->w'=w/\S1.old=S.old)->EV.den S1 e v->(∀x,o.dst=some x->x<C.n/\x<4000)->K (S1.cK o.dst (.un e)) w'->N (a.put o.dst v) Wy
theorem zkc{C:UJ}{S:St}{w:Wo}{o:Oper}{a:Act}{K:St->Wo->Prop}{N:Act->Wo->Prop}(hN:ztq C S w o a K N){wr:Wo}(hw:Zo S w wr)(WT:LA S){t:TypeId}{cells:List Va}{e:Nat->EV}(h:zc5 C S w o.dst t cells e K){v:Va}(hv:EV.den { S with L:=S.L++[(t,cells)],B:=S.B++[wr.heap.size] } (e S.L.length) v):N (a.put o.dst v) (wr.alloc (.cells cells.toArray t)):=by
 obtain⟨h1,h2⟩:=YI (h wr.heap.size hw.ext.size);refine hN.go { S with L:=S.L++[(t,cells)],B:=S.B++[wr.heap.size] } w _ (e S.L.length) v ⟨λid b hb=>?_,λid t' cs hc=>⟨cs,?_⟩,λid hi=>⟨hi,?_⟩⟩ rfl rfl ⟨by simp; have:=WT.old; omega,λid hi=>by have:=WT.lk id hi; simp; omega⟩ (hw.push WT.old t cells) (λ_=>⟨rfl,rfl⟩) hv h2 h1
 ·show (S.B++[wr.heap.size])[id]? = some b;rw[Iq (I9.1 hb).1]; exact hb
 ·show (S.L++[(t,cells)])[id]? = some (t',cs);rw[Iq (I9.1 hc).1]; exact hc
 ·exact Iq (WT.lk id hi)
theorem zkd{C:UJ}{S:St}{w:Wo}{o:Oper}{a:Act}{K:St->Wo->Prop}{N:Act->Wo->Prop}(hN:ztq C S w o a K N){wr:Wo}(hw:Zo S w wr)(WT:LA S){t:TypeId}{cells:List Va}{e:Nat->EV}(h:Nf C S w o.dst t cells e K){v:Va}(hv:EV.den S.cQ (e wr.heap.size) v):N (a.put o.dst v) (wr.alloc (.cells cells.toArray t)):=by
 have IU:=hw.lt;unfold Nf at h
 have lK:C.pm=false:=by
  cases hp:C.pm with
  | false=>rfl
  | true=>rw[hp] at h; exact h.elim
 rw[lK] at h;simp only[cond_false] at h;obtain⟨h1,h2⟩:=YI (h wr.heap.size (wr.alloc (.cells cells.toArray t)) (hw.ext.alloc _) hw.ext.size (heap_alloc_new wr _) (λhb=>by have:=IU _ hb; omega));exact hN.go S.cQ _ _ _ v ⟨λ_ _ h=>h,λ_ _ cs h=>⟨cs,h⟩,λid hi=>⟨hi,rfl⟩⟩ rfl rfl WT.cQ (hw.age λb hb=>Below.heap_alloc wr _ b (IU b hb)) (λhp=>by rw[lK] at hp; cases hp) hv h2 h1
theorem D2{z:Nat}(hz:0<z):∀{ps:List (Nat×Operand)} {k:Nat} {vs cells:List Va},PU z ps k vs=some cells->ps.length=vs.length/\cells.length=vs.length*z/\
  ∀(pre:List Va),pre.length=k*z->∀(init:List Va),init.length=vs.length*z->
   Instr.fill (λi=>some (i*z,z)) (pre++init).toArray ((ps.map (·.1)).zip vs)=some (pre++cells).toArray
 | [],k,[],cells,h=>by
  simp only[PU,I1] at h; subst h;refine⟨rfl,Qs,λpre _ init hi=>?_⟩;have:init=[]:=List.eq_nil_of_length_eq_zero (by simpa using hi);subst this;simp[Instr.fill]
 | (i,x)::ps,k,v::vs,cells,h=>by
  simp only[PU] at h
  cases hb:(Nat.beq i k&&Nat.beq v.cells.toList.length z) with
  | false=>rw[hb] at h; cases h
  | true=>
   rw[hb] at h;simp only[cond_true] at h;simp only[A'] at hb;have e1:i=k:=Ic hb.1;have e2:v.cells.toList.length=z:=Ic hb.2;subst e1
   split at h
   ·rename_i l hl;simp only[I1] at h; subst h;obtain⟨h1,h2,h3⟩:=D2 hz hl;refine⟨by simp[h1],by simp[h2,e2,Nat.add_mul]; omega,λpre hp init hi=>?_⟩;have nT:v.cells.size=z:=by simpa using e2
    have hvl:(v::vs).length*z=z+vs.length*z:=by simp[Nat.add_mul,Nat.add_comm]
    rw[hvl] at hi
    have hc:(decide (v.cells.size≠z)||decide (i*z+v.cells.size>(pre++init).toArray.size))=false:=by
     simp only[nT,List.size_toArray,Ip,hp,hi];simp
    simp only[List.map_cons,List.zip_cons_cons,Instr.fill];rw[hc];simp only[Bool.false_eq_true,if_false]
    have Cd7:∀(l:List Va) (j:Nat) (arr:List Va),(l.zipIdx j).foldl (λcs (c,j)=>cs.setIfInBounds (i*z+j) c) arr.toArray=(zks arr (i*z+j) l).toArray:=by
     intro l
     induction l with
     | nil=>intro j arr; rfl
     | cons c l ih=>
      intro j arr;simp only[List.zipIdx_cons,List.foldl_cons,zks];rw[show (arr.toArray.setIfInBounds (i*z+j) c)=(arr.set (i*z+j) c).toArray by simp];exact ih (j+1) _
    have hz2:(v.cells.zipIdx.foldl (λcs (c,j)=>cs.setIfInBounds (i*z+j) c) (pre++init).toArray)=(pre++v.cells.toList++init.drop z).toArray:=by
     rw[<-Array.foldl_toList,Array.toList_zipIdx];rw[Cd7 v.cells.toList 0 (pre++init),Hk _ _ _ (by simp[hp,hi,nT])];have t1:(pre++init).take (i*z)=pre:=by rw[<-hp]; exact List.take_left
     have t2:(pre++init).drop (i*z+z)=init.drop z:=by rw[<-hp,List.drop_append]; simp
     simp only[Nat.add_zero,e2,t1,t2]
    rw[hz2];have:=h3 (pre++v.cells.toList) (by simp[hp,nT,Nat.add_mul]) (init.drop z) (by simp[hi])
    simpa using this
   ·cases h
 | [],_,_::_,_,h=>by simp[PU] at h
 | (_,_)::_,_,[],_,h=>by simp[PU] at h
theorem zdx{P:Program}(t:TypeId)(v:Va)(w:Wo):(newVar t v).run P w=.ok ⟨w.heap.size,0,none⟩ (w.alloc (.cells v.cells t)):=by
 simp[newVar,newRow]
theorem Zo.BK9{S:St}{w wr:Wo}(h:Zo S w wr){id b off:Nat}{t:TypeId}{cs vs:List Va}(hl:S.L[id]? = some (t,cs))(hb:S.B[id]? = some b)(hlen:off+vs.length<=cs.length)(hold:S.old<=S.B.length) :
  Zo { S with L:=S.L.set id (t,cs.take off++vs++cs.drop (off+vs.length)) } w (eR wr ⟨b,off,none⟩ 0 vs):=by
 obtain⟨b',jF,hh⟩:=h.loc id t cs hl;rw[hb] at jF; cases jF;have bJ:id<S.L.length:=(I9.1 hl).1
 have Al9:b∈S.bs\/w.heap.size<=b:=by
  by_cases ho:S.old<=id
  ·exact .inr (h.fresh id b ho hb)
  ·refine .inl ?_;have:(S.B.take S.old)[id]? = some b:=by rw[List.getElem?_take,E' Qo]; exact hb
   exact List.mem_of_getElem? this
 obtain⟨r1,r2,r3⟩:=Hm vs wr ⟨b,off,none⟩ 0;refine⟨⟨r1.trans h.ext.os,r2.trans h.ext.tape,r3.trans h.ext.output,by rw[OC]; exact h.ext.size,λk hk hnb=>?_⟩,λid' t' nX hl'=>?_,by simp[h.len],h.oX,h.fresh⟩
 ·refine(OB vs wr ⟨b,off,none⟩ 0 k ?_).trans (h.ext.block k hk hnb);rintro rfl;rcases Al9 with hm | hm
  ·exact hnb hm
  ·exact Nat.lt_irrefl _ (Nat.lt_of_lt_of_le hk hm)
 ·by_cases he:id=id'
  ·subst he;simp only[List.getElem?_set_self bJ,I1,Prod.mk.injEq] at hl';obtain⟨rfl,rfl⟩:=hl';refine⟨b,hb,?_⟩;rw[Ei vs wr b off 0 cs _ _ hh,Nat.add_zero,Hk _ _ _ hlen]
  ·have hl2:S.L[id']? = some (t',nX):=by rw[<-hl']; exact(List.getElem?_set_ne he).symm
   obtain⟨b2,cN,hh2⟩:=h.loc id' t' nX hl2;refine⟨b2,cN,?_⟩
   rw[OB vs wr ⟨b,off,none⟩ 0 b2 (by
    show b2≠b;rintro rfl;exact he (h.C99 hb cN))]
   exact hh2
theorem Zo.BL0{S:St}{w wr:Wo}(h:Zo S w wr){a:Addr}{n:Nat}{vs:List Va}(hb:a.block∉S.bs)(IU:a.block<w.heap.size):Zo S (eR w a n vs) (eR wr a n vs):=by
 obtain⟨r1,r2,r3⟩:=Hm vs wr a n;obtain⟨q1,q2,q3⟩:=Hm vs w a n;refine⟨⟨by rw[r1,q1]; exact h.ext.os,by rw[r2,q2]; exact h.ext.tape,by rw[r3,q3]; exact h.ext.output,by rw[OC,OC]; exact h.ext.size,λk hk hnb=>?_⟩,λid t cs hl=>?_,h.len,h.oX,λid b ho bJ=>by rw[OC]; exact h.fresh id b ho bJ⟩
 ·rw[OC] at hk;have he:=h.ext.block k hk hnb
  by_cases hka:k=a.block
  ·subst hka; exact zib vs wr w a n he
  ·rw[OB vs wr a n k hka,OB vs w a n k hka]; exact he
 ·obtain⟨b,bJ,hh⟩:=h.loc id t cs hl;refine⟨b,bJ,?_⟩;rw[OB vs wr a n b]
  ·exact hh
  ·rintro rfl
   by_cases ho:S.old<=id
   ·have:=h.fresh id _ ho bJ; omega
   ·refine hb (List.mem_of_getElem? (i:=id) ?_);show (S.B.take S.old)[id]? = _;rw[List.getElem?_take,E' Qo]; exact bJ
theorem Yo.run{P:Program}{S:St}{w wr:Wo}(h:Zo S w wr){ob:OA}{n:Nat}{vs:List Va}(hx:Yo S.bs w ob n vs.length)(B05:0<vs.length)(h1:Zm vs=true){a:Addr}(ho:ob=some a) :
  (storeCells (a.add n) vs 0).run P wr=.ok () (eR wr (a.add n) 0 vs)/\a.block∉S.bs/\a.block<w.heap.size:=by
 obtain⟨a',ha,hb,hc⟩:=hx;rw[ho] at ha; cases ha;obtain⟨⟨u,hu⟩,_⟩:=hc n (I8 _) Qo;have IU:a.block<w.heap.size:=by have:=World.block_lt_of_cell? w _ hu; rwa[Zv] at this
 refine⟨VG vs wr (a.add n) 0 (U3 h1) λj _ hj=>?_,hb,IU⟩;obtain⟨⟨u',hu'⟩,hf'⟩:=hc (n+j) Qo Qo;have he:=h.ext.block a.block IU hb;rw[Jl];refine⟨⟨u',?_⟩,?_⟩
 ·rw[<-hu']; exact World.cell?_of_block (w:=w) (by rw[Zv]; exact he)
 ·rw[<-hf']; exact frozen?_of_block (by rw[Zv]; exact he)
theorem zd4:∀(vs:List Va) (w:Wo) (a:Addr) (n k:Nat),eR w (a.add n) k vs=eR w a (n+k) vs
 | [],_,_,_,_=>rfl
 | v::r,w,a,n,k=>by
  simp only[eR,Jl];exact zd4 r _ a n (k+1)
theorem zku{P:Program}{T:TypeId->Option Ty}(hT:ztn P T){t:TypeId}{ty:Ty}(ht:T t=some ty){a:Addr}{v:Va}(hl:v.cells.toList.length=ty.ks.length){w w':Wo}(h:(storeCells a v.cells.toList).run P w=.ok () w'):(storeVar t a v).run P w=.ok () w':=by
 obtain⟨i,z,hi,_,nT,_⟩:=(hT.facts ht).info;have hn:¬v.cells.size≠ty.ks.length:=by simpa using hl
 simp only[storeVar,Sem.run_bind,Yr hi,Result.andThen_ok,nT,Sem.run_ite,C' hn,Sem.run_pure,h]
theorem zsw(parts:Array (Nat×Operand))(f:Operand->Va):(parts.map λ(i,x)=>(i,f x)).toList=(parts.toList.map (·.1)).zip ((parts.toList.map (·.2)).map f):=by
 have:(parts.map λ(i,x)=>(i,f x)).toList=parts.toList.map λ(i,x)=>(i,f x):=Qs
 rw[this];generalize parts.toList=q
 induction q with
 | nil=>rfl
 | cons y q ih=>simp[ih]
theorem zc1{C:UJ}{S:St}{w:Wo}{o:Oper}{a:Act}{K:St->Wo->Prop}{N:Act->Wo->Prop}(hN:ztq C S w o a K N){wr:Wo}(hw:Zo S w wr)(WT:LA S){t:TypeId}{cells:List Va}{e1 e2:Nat->EV}{v:Va}(h:match o.dst with
   | some d=>bif Ka C.vis d then Nf C S w o.dst t cells e1 K else zc5 C S w o.dst t cells e2 K
   | none=>False)(h1:EV.den S.cQ (e1 wr.heap.size) v)(h2:EV.den { S with L:=S.L++[(t,cells)],B:=S.B++[wr.heap.size] } (e2 S.L.length) v):N (a.put o.dst v) (wr.alloc (.cells cells.toArray t)):=by
 split at h
 ·rename_i d hd
  cases hm:Ka C.vis d with
  | true=>
   rw[hm] at h;simp only[cond_true] at h;exact zkd hN hw WT h h1
  | false=>
   rw[hm] at h;simp only[cond_false] at h;exact zkc hN hw WT h h2
 ·exact h.elim
theorem z1l{S:St}{w wr:Wo}(hw:Zo S w wr)(b:Nat):(S.B++[b])[S.L.length]? = some b:=by rw[hw.len]; simp
theorem MK{Q:Exit->Act->Wo->Prop}{C:UJ}{S:St}{w wr:Wo}{a:Act}{K:St->Wo->Prop}{N:Act->Wo->Prop}{o:Oper}(hdn:o.dst=none)(hN:ztq C S w o a K N)(hw:Zo S w wr)(WT:LA S)(hT:ztn C.P C.T){t:TypeId}{x y:Operand}(ho:o.op=.store t x y){ty:Ty}(ht:C.T t=some ty){e:EV}(hx:EV.den S e (a.eval x)){v:Va}(hy:a.eval y=v)(h:match e with
   | .loc id off=>match S.L[id]? with
    | some (t',cs)=>bif Nat.beq v.cells.toList.length ty.ks.length&&Nat.ble (off+v.cells.toList.length) cs.length&&Zm v.cells.toList && !Ka S.lk id then
      K { S with L:=S.L.set id (t',cs.take off++v.cells.toList++cs.drop (off+v.cells.toList.length)) } w
     else False
    | none=>False
   | .le id i m=>match S.L[id]? with
    | some (t',cs)=>bif Nat.beq v.cells.toList.length ty.ks.length&&Nat.beq v.cells.toList.length 1&&Zm [v] && !Ka S.lk id then
      (i.toNat+m<cs.length)/\zln (cs.map z3g) λvs=>cs.set (i.toNat+m) v=vs/\K { S with L:=S.L.set id (t',vs) } w
     else False
    | none=>False
   | .el ob n=>bif Nat.beq v.cells.toList.length ty.ks.length&&Zm v.cells.toList && !C.pm&&Nat.blt 0 ty.ks.length then
     Yo S.bs w ob n v.cells.toList.length/\K S (R9 w ob n v.cells.toList)
    else False
   | .v (.pointer ob)=>bif Nat.beq v.cells.toList.length ty.ks.length&&Zm v.cells.toList && !C.pm&&Nat.blt 0 ty.ks.length then
     Yo S.bs w ob 0 v.cells.toList.length/\K S (R9 w ob 0 v.cells.toList)
    else False
   | _=>False):o.uponIn (T7 C.rd) 0 C.P a N Q ((execOp a.eval o).run C.P wr):=by
 have hgo:∀(S1:St) (w' Wy:Wo),MQ S S1->S1.F=S.F->S1.r=S.r->LA S1->Zo S1 w' Wy->(C.pm=true->w'=w/\S1.old=S.old)->K S1 w'->N (a.put o.dst undef) Wy:=λS1 w' Wy h1 h2 h3 h4 h5 h7 h6=>
  hN.go S1 w' Wy (.v undef) undef h1 h2 h3 h4 h5 h7 rfl (λx hx=>by rw[hdn] at hx; cases hx) (by rw[hdn]; exact h6)
 have WK:∀{ad:Addr} {w':Wo},a.eval x=.pointer (some ad)->v.cells.toList.length=ty.ks.length->(storeCells ad v.cells.toList).run C.P wr=.ok () w'->(execOp a.eval o).run C.P wr=.ok .skip w':=λ{ad w'} h1 h2 h3=>by
  have:=zku hT ht h2 h3;simp[execOp,ho,h1,hy,Instr.storeAt,Instr.sureAddr,this]
 have SI:∀{id:Nat} {t':TypeId} {cs r:List Va},S.L[id]? = some (t',cs)->Ka S.lk id=false->MQ S { S with L:=S.L.set id (t',r) }:=λ{id t' cs r} hl hm=>
  ⟨λ_ _ h=>h,λid' t2 cs2 h2=>by
   show ∃nX,(S.L.set id (t',r))[id']? = some (t2,nX)
   by_cases he:id=id'
   ·subst he;rw[hl] at h2;cases h2;exact⟨r,List.getElem?_set_self (I9.1 hl).1⟩
   ·exact⟨cs2,by rw[List.getElem?_set_ne he]; exact h2⟩,λid' hi=>⟨hi,by
   show (S.L.set id (t',r))[id']? = _;exact List.getElem?_set_ne (by rintro rfl; exact Kw hm hi)⟩⟩
 cases e with
 | loc id off=>
  obtain⟨b,hb,hxp⟩:=hx
  dsimp only at h
  split at h
  ·rename_i t' cs hl
   cases hc:(Nat.beq v.cells.toList.length ty.ks.length&&Nat.ble (off+v.cells.toList.length) cs.length&&Zm v.cells.toList && !Ka S.lk id) with
   | false=>rw[hc] at h; exact h.elim
   | true=>
    rw[hc] at h;simp only[cond_true] at h;simp only[A',ID] at hc;obtain⟨⟨⟨c1,c2⟩,c3⟩,c4⟩:=hc;have c1:=Ic c1;have c2:=Il c2
    have hrc:=VG (P:=C.P) v.cells.toList wr ⟨b,off,none⟩ 0 (U3 c3) (λj _ hj=>by
     rw[Addr.add_lit,Gx hw hl hb];obtain⟨b',jF,hh⟩:=hw.loc id t' cs hl;rw[hb] at jF; cases jF;have IU:off+j<cs.length:=Qo;refine⟨⟨cs[off+j],Im IU⟩,?_⟩;simp[World.frozen?,hh])
    rw[WK hxp c1 hrc];exact hgo _ _ _ (SI hl c4) rfl rfl ⟨WT.old,λid hi=>by simpa using WT.lk id hi⟩ (hw.BK9 hl hb c2 WT.old) (λ_=>⟨rfl,rfl⟩) h
  ·exact h.elim
 | le id i m=>
  obtain⟨b,hb,h0,hxp⟩:=hx
  dsimp only at h
  split at h
  ·rename_i t' cs hl
   cases hc:(Nat.beq v.cells.toList.length ty.ks.length&&Nat.beq v.cells.toList.length 1&&Zm [v] && !Ka S.lk id) with
   | false=>rw[hc] at h; exact h.elim
   | true=>
    rw[hc] at h;simp only[cond_true] at h;simp only[A',ID] at hc;obtain⟨⟨⟨c1,c2⟩,c3⟩,c4⟩:=hc;have c1:=Ic c1;have c2:=Ic c2;obtain⟨IU,h⟩:=h;obtain⟨_,_,rfl,h⟩:=P0 h
    have hvc:v.cells.toList=[v]:=by
     cases v with
     | agg cs=>cases c3
     | _=>rfl
    rw[<-hvc] at c3
    have hrc:=VG (P:=C.P) v.cells.toList wr ⟨b,i.toNat+m,none⟩ 0 (U3 c3) (λj _ hj=>by
     rw[Addr.add_lit,Gx hw hl hb];obtain⟨b',jF,hh⟩:=hw.loc id t' cs hl;rw[hb] at jF; cases jF;have IU:i.toNat+m+j<cs.length:=Qo;refine⟨⟨cs[i.toNat+m+j],Im IU⟩,?_⟩;simp[World.frozen?,hh])
    rw[WK hxp c1 hrc];have mS:=hw.BK9 (vs:=v.cells.toList) hl hb (off:=i.toNat+m) Qo WT.old
    have he:cs.take (i.toNat+m)++v.cells.toList++cs.drop (i.toNat+m+v.cells.toList.length)=cs.set (i.toNat+m) v:=by
     rw[<-Hk _ _ _ Qo,hvc]; rfl
    rw[he] at mS;exact hgo _ _ _ (SI hl c4) rfl rfl ⟨WT.old,λid hi=>by simpa using WT.lk id hi⟩ mS (λ_=>⟨rfl,rfl⟩) h
  ·exact h.elim
 | el ob n=>
  obtain⟨ad,hob,hxp⟩:=hx
  dsimp only at h
  cases hc:(Nat.beq v.cells.toList.length ty.ks.length&&Zm v.cells.toList && !C.pm&&Nat.blt 0 ty.ks.length) with
  | false=>rw[hc] at h; exact h.elim
  | true=>
   rw[hc] at h;simp only[cond_true] at h;simp only[A',ID] at hc;obtain⟨⟨⟨c1,c2⟩,c3⟩,c4⟩:=hc;have c1:=Ic c1;have c4:0<ty.ks.length:=Il c4;obtain⟨h1,h2⟩:=h;obtain⟨hr,hbs,IU⟩:=h1.run (P:=C.P) hw Qo c2 hob;rw[WK hxp c1 hr,zd4,Nat.add_zero];subst hob;exact hgo S _ _ (MQ.refl S) rfl rfl WT (hw.BL0 hbs IU) (λhp=>by rw[hp] at c3; cases c3) h2
 | v x0=>
  cases x0 with
  | pointer ob=>
    simp only[EV.den] at hx
    dsimp only at h
    cases hc:(Nat.beq v.cells.toList.length ty.ks.length&&Zm v.cells.toList && !C.pm&&Nat.blt 0 ty.ks.length) with
    | false=>rw[hc] at h; exact h.elim
    | true=>
     rw[hc] at h;simp only[cond_true] at h;simp only[A',ID] at hc;obtain⟨⟨⟨c1,c2⟩,c3⟩,c4⟩:=hc;have c1:=Ic c1;have c4:0<ty.ks.length:=Il c4;obtain⟨h1,h2⟩:=h;obtain⟨ad,hob,_⟩:=id h1;obtain⟨hr,hbs,IU⟩:=h1.run (P:=C.P) hw Qo c2 hob;rw[Addr.add_zero'] at hr;rw[WK (by rw[hx,hob]) c1 hr];subst hob;exact hgo S _ _ (MQ.refl S) rfl rfl WT (hw.BL0 hbs IU) (λhp=>by rw[hp] at c3; cases c3) h2
  | _=>exact h.elim
 | ls id len=>exact h.elim
 | no=>exact h.elim
 | kb x=>exact h.elim
theorem zr3{C:UJ}(hT:ztn C.P C.T)(RD:∀f ks,znz C.ef f=some ks->OL C.P f){S:St}{w wr:Wo}{ops:Array Oper}{D:Nat->Prop}{o:Oper}{a:Act}{pc:List (Nat×Bool)}{K:St->Wo->Prop}{N:Act->Wo->Prop}{Q:Exit->Act->Wo->Prop}(hf:MP C.n S ops D a)(hw:Zo S w wr)(WT:LA S)(hp:Eb ops a pc)(hN:ztq C S w o a K N)(h:z15 C S w o pc K)(hnd:∀t x y,o.op=.store t x y->o.dst=none):o.wpIn (T7 C.rd) 0 C.P a wr N Q:=by
 refine zpo (λc hc=>by unfold z15 at h; simp[hc,zkl] at h) ?_;unfold z15 at h
 split at h
 case h_1 t ho=>
  split at h
  ·rename_i ty ht
   cases hc:ty.ks.contains .other with
   | true=>rw[hc] at h; exact h.elim
   | false=>
    rw[hc] at h;simp only[cond_false] at h;obtain⟨i,z,hi,hz,hzc⟩:=zk4 hT ht hc
    have WK:(execOp a.eval o).run C.P wr=.ok (.value (.pointer (some ⟨wr.heap.size,0,none⟩))) (wr.alloc (.cells (ty.ks.map zv).toArray t)):=by
     simp[execOp,ho,Instr.alloc,zeroValue,U4 hi,hz,zdx,hzc]
    rw[WK];simp only[Oper.uponIn];exact zc1 hN hw WT h ⟨_,rfl,by rw[Addr.add_zero']⟩ ⟨wr.heap.size,z1l hw _,rfl⟩
  ·exact h.elim
 case h_2 t x ho=>
  split at h
  ·rename_i v hv;have hv':=QT hf.fit hp hv
   have WK:(execOp a.eval o).run C.P wr=.ok (.value (.pointer (some ⟨wr.heap.size,0,none⟩))) (wr.alloc (.cells v.cells.toList.toArray t)):=by
    simp[execOp,ho,Instr.box,zdx,hv']
   rw[WK];simp only[Oper.uponIn];exact zc1 hN hw WT h ⟨_,rfl,by rw[Addr.add_zero']⟩ ⟨wr.heap.size,z1l hw _,rfl⟩
  ·exact h.elim
 case h_3 t n parts ho=>
  split at h
  ·rename_i ag ks e z vs ht hvs;have hv':=XR hf.fit hp hvs
   split at h
   ·rename_i ety cells hte C22
    cases hb:(Nat.beq n vs.length&&Nat.blt 0 z&&Nat.blt 0 n&&Nat.blt (n*z) 16777216) with
    | false=>rw[hb] at h; exact h.elim
    | true=>
     rw[hb] at h;simp only[cond_true] at h;simp only[A'] at hb;obtain⟨⟨⟨b1,b2⟩,b3⟩,b4⟩:=hb;have b1:=Ic b1;have b2:0<z:=Il b2;have b3:0<n:=Il b3;have b4:n*z<16777216:=Il b4;obtain⟨d,hu,_,qE⟩:=(hT.facts ht).desc;obtain⟨inf,rfl,qC,C38⟩:=Mu qE.symm;obtain⟨i2,z2,hi2,hz2,Db0,_⟩:=(hT.facts hte).info;rw[qC] at hi2; cases hi2;obtain⟨_,tP,AV4⟩:=D2 b2 C22;have hf0:=AV4 [] Qs (((Array.range (n*z)).map (z2.cells[· % z2.cells.size]!)).toList) (by simp[b1]);simp only[List.nil_append,Array.toArray_toList] at hf0;have AK8:=zsw parts a.eval;rw[hv'] at AK8
     have hn0:¬n*z=0:=by
      have:=Nat.mul_pos b3 b2;omega
     have C15:¬n*z>2 ^ 24:=by
      have:(2:Nat) ^ 24=16777216:=rfl;omega
     have WK:(execOp a.eval o).run C.P wr=.ok (.value (.slice (some ⟨wr.heap.size,0,none⟩) n n)) (wr.alloc (.cells cells.toArray e)):=by
      simp only[execOp,ho,Instr.buildSlice,Sem.run_bind,run_underlying hu,Result.andThen_ok,Yr qC,C38,Sem.run_ite,C' C15,C' hn0,zeroValue,U4 qC,hz2,Sem.run_pure,AK8,hf0,newRow,run_newObj];rfl
     rw[WK];simp only[Oper.uponIn];exact zc1 hN hw WT h rfl ⟨wr.heap.size,z1l hw _,rfl⟩
   ·exact h.elim
  ·exact h.elim
 case h_4 t x y ho=>
  have hdn:=hnd t x y ho
  split at h
  ·rename_i ty id off v ht hx hy;exact MK hdn hN hw WT hT ho ht (Yc hf.fit hp hx) (QT hf.fit hp hy) h
  ·rename_i ty id i m v ht hx hy;exact MK hdn hN hw WT hT ho ht (Yc hf.fit hp hx) (QT hf.fit hp hy) h
  ·rename_i ty ob n v ht hx hy;exact MK hdn hN hw WT hT ho ht (Yc hf.fit hp hx) (QT hf.fit hp hy) h
  ·rename_i ty ob v ht hx hy;exact MK hdn hN hw WT hT ho ht (Yc hf.fit hp hx) (QT hf.fit hp hy) h
  ·exact h.elim
 case h_5 f args ts ho=>
  split at h
  ·rename_i rks vs hef hvs;have hv:=XR hf.fit hp hvs;have ea:args.map a.eval=vs.toArray:=by rw[<-hv,<-Array.toList_map,Array.toArray_toList]
   have lK:C.pm=false:=by
    cases hp:C.pm with
    | false=>rfl
    | true=>rw[hp] at h; exact h.elim
   rw[lK] at h;simp only[cond_false] at h;rw[zm1 (RD f rks hef) args ts a ho,ea];simp only[Oper.uponIn];refine⟨λhx=>(by simp[T7,Fence.wide] at hx),PP ((JF.out hw (h wr hw.ext hw.lt)).mono λe w' he=>?_)⟩;obtain⟨r,rfl,hk,hp⟩:=UM he;obtain⟨h1,h2⟩:=YI hp;exact hN.go S.cQ _ _ (.v r) r ⟨λ_ _ h=>h,λ_ _ cs h=>⟨cs,h⟩,λid hi=>⟨hi,rfl⟩⟩ rfl rfl WT.cQ (hw.age hk) (λhp=>by rw[lK] at hp; cases hp) rfl h2 h1
  ·exact h.elim
 case h_6 bi args ts ho=>
  split at h
  ·rename_i vs hvs;have hv:=XR hf.fit hp hvs;have ea:args.map a.eval=vs.toArray:=by rw[<-hv,<-Array.toList_map,Array.toArray_toList]
   have lK:C.pm=false:=by
    cases hp:C.pm with
    | false=>rfl
    | true=>rw[hp] at h; exact h.elim
   rw[lK] at h;simp only[cond_false] at h;obtain⟨r,w',WK,hk,hp⟩:=UM (JF.out hw (h wr hw.ext hw.lt))
   have vD:(execOp a.eval o).run C.P wr=.ok (.value r) w':=by
    rw[<-WK];simp only[execOp,ho,resolve,Sem.run_bind,Sem.run_pure,Result.andThen_ok,invoke,ea];rfl
   rw[vD];obtain⟨h1,h2⟩:=YI hp;exact hN.go S.cQ _ _ (.v r) r ⟨λ_ _ h=>h,λ_ _ cs h=>⟨cs,h⟩,λid hi=>⟨hi,rfl⟩⟩ rfl rfl WT.cQ (hw.age hk) (λhp=>by rw[lK] at hp; cases hp) rfl h2 h1
  ·exact h.elim
 case h_7 t args ts ho=>
  split at h
  ·rename_i v vs rks hv0 hvs hrk;have hv1:=QT hf.fit hp hv0;have hv:=XR hf.fit hp hvs;have ea:args.map a.eval=vs.toArray:=by rw[<-hv,<-Array.toList_map,Array.toArray_toList]
   have lK:C.pm=false:=by
    cases hp:C.pm with
    | false=>rfl
    | true=>rw[hp] at h; exact h.elim
   rw[lK] at h;simp only[cond_false] at h
   have hgo:∀(e:Ending) (w':Wo),(D4 rks λr=>e=.returned r/\Q8 S.B wr w'/\Ee C S.cQ o.dst (.un (.v r)) λS'=>K S' w')->(match e with
     | .returned v=>N (a.put o.dst v) w'
     | .panicked chain=>Q (.panic chain) a w'
     | .outgrown=>LetsOut Q):=λe w' he=>by
    obtain⟨r,rfl,hk,hp⟩:=UM he;obtain⟨h1,h2⟩:=YI hp;exact hN.go S.cQ _ _ (.v r) r ⟨λ_ _ h=>h,λ_ _ cs h=>⟨cs,h⟩,λid hi=>⟨hi,rfl⟩⟩ rfl rfl WT.cQ (hw.age hk) (λhp=>by rw[lK] at hp; cases hp) rfl h2 h1
   rcases JF.out hw (h wr hw.ext hw.lt) with ⟨f,as0,WK,hc⟩ | ⟨l,f,tmps,asg,body,WK,hc⟩
   ·have vD:(execOp a.eval o).run C.P wr=.ok (.enter f as0) wr:=by
     rw[<-WK];simp only[execOp,ho,resolve,zbe,ea,hv1]
    rw[vD];simp only[Oper.uponIn];exact⟨λhx=>(by simp[T7,Fence.wide] at hx),PP (hc.mono λe w' he=>by have:=hgo e w' he; cases e <;> exact this)⟩
   ·have vD:(execOp a.eval o).run C.P wr=.ok (.round l f tmps asg body) wr:=by
     rw[<-WK];simp only[execOp,ho,resolve,zbe,ea,hv1]
    rw[vD];simp only[Oper.uponIn];exact⟨λhx=>(by simp[T7,Fence.wide] at hx),zhe (hc.mono λe w' he=>by have:=hgo e w' he; cases e <;> exact this)⟩
  ·exact h.elim
 case h_8 rc m args ts ho=>
  split at h
  ·rename_i v vs rks hv0 hvs hrk;have hv1:=QT hf.fit hp hv0;have hv:=XR hf.fit hp hvs;have ea:args.map a.eval=vs.toArray:=by rw[<-hv,<-Array.toList_map,Array.toArray_toList]
   have lK:C.pm=false:=by
    cases hp:C.pm with
    | false=>rfl
    | true=>rw[hp] at h; exact h.elim
   rw[lK] at h;simp only[cond_false] at h;obtain⟨f,as0,WK,hc⟩:=JF.out hw (h wr hw.ext hw.lt)
   have vD:(execOp a.eval o).run C.P wr=.ok (.enter f as0) wr:=by
    rw[<-WK];simp only[execOp,ho,resolve,Sem.run_bind,Sem.run_pure,Result.andThen_ok,zz0,ea,hv1]
   rw[vD];simp only[Oper.uponIn];refine⟨λhx=>(by simp[T7,Fence.wide] at hx),PP (hc.mono λe w' he=>?_)⟩;obtain⟨r,rfl,hk,hp⟩:=UM he;obtain⟨h1,h2⟩:=YI hp;exact hN.go S.cQ _ _ (.v r) r ⟨λ_ _ h=>h,λ_ _ cs h=>⟨cs,h⟩,λid hi=>⟨hi,rfl⟩⟩ rfl rfl WT.cQ (hw.age hk) (λhp=>by rw[lK] at hp; cases hp) rfl h2 h1
  ·exact h.elim
 case h_9 it ho=>
  split at h
  ·rename_i ob hx;have gM:=QT hf.fit hp hx
   have lK:C.pm=false:=by
    cases hp:C.pm with
    | false=>rfl
    | true=>rw[hp] at h; exact h.elim
   rw[lK] at h;simp only[cond_false] at h;obtain⟨b,s,pos,rfl,hb,hh,h1,h2⟩:=h wr hw.ext hw.lt;have hg:(getObj b).run C.P wr=.ok (.stringIter s pos) wr:=by simp[getObj,Sem.run,hh]
   by_cases IU:pos<s.size
   ·have SI:(setObj b (.stringIter s (pos+(Utf8.decode s pos).2))).run C.P wr=.ok () (Mg wr b s (pos+(Utf8.decode s pos).2)):=by
     simp[setObj,Sem.run,hh,Mg]
    have WK:(execOp a.eval o).run C.P wr=.ok (.value (.tuple #[.bool true,.int .i64 pos,.int .i32 (Utf8.decode s pos).1])) (Mg wr b s (pos+(Utf8.decode s pos).2)):=by
     simp[execOp,ho,gM,Instr.next,hg,IU,SI,goInt]
    rw[WK];simp only[Oper.uponIn];obtain⟨g1,g2⟩:=YI (h2 IU)
    have hk:Q8 S.B wr (Mg wr b s (pos+(Utf8.decode s pos).2)):=λx hx=>by
     have gE:b≠x:=λe=>hb (e▸hx)
     simp only[Mg];rw[Array.getElem?_setIfInBounds_ne gE]
    exact hN.go S.cQ _ _ (.v _) _ ⟨λ_ _ h=>h,λ_ _ cs h=>⟨cs,h⟩,λid hi=>⟨hi,rfl⟩⟩ rfl rfl WT.cQ (hw.age hk) (λhp=>by rw[lK] at hp; cases hp) rfl g2 g1
   ·have WK:(execOp a.eval o).run C.P wr=.ok (.value (.tuple #[.bool false])) wr:=by
     simp[execOp,ho,gM,Instr.next,hg,IU]
    rw[WK];simp only[Oper.uponIn];obtain⟨g1,g2⟩:=YI (h1 (Nat.le_of_not_lt IU));exact hN.go S.cQ _ _ (.v _) _ ⟨λ_ _ h=>h,λ_ _ cs h=>⟨cs,h⟩,λid hi=>⟨hi,rfl⟩⟩ rfl rfl WT.cQ (hw.age λ_ _=>rfl) (λhp=>by rw[lK] at hp; cases hp) rfl g2 g1
  ·exact h.elim
 case h_10=>
  split at h
  ·rename_i xs rk u f hpr
   split at h
   ·rename_i vs hvs;have hv:=XR hf.fit hp hvs
    have lK:C.pm=false:=by
     cases hp:C.pm with
     | false=>rfl
     | true=>rw[hp] at h; exact h.elim
    rw[lK] at h;simp only[cond_false] at h;have h:=h wr hw.ext hw.lt
    cases u with
    | true=>
     simp only[cond_true] at h
     split at h
     ·rename_i hd;obtain⟨w',hr,hk,hK⟩:=h;rw[<-hv] at hr;rw[zdr hpr a.eval hr];simp only[if_true,Oper.uponIn];exact hN.go S.cQ _ _ (.v undef) undef ⟨λ_ _ h=>h,λ_ _ cs h=>⟨cs,h⟩,λid hi=>⟨hi,rfl⟩⟩ rfl rfl WT.cQ (hw.age hk) (λhp=>by rw[lK] at hp; cases hp) rfl (λx hx=>by rw[hd] at hx; cases hx) (by rw[hd]; exact hK)
     ·exact h.elim
    | false=>
     simp only[cond_false] at h;obtain⟨r,w',hr,hk,hp⟩:=UM h;rw[<-hv] at hr;rw[zdr hpr a.eval hr];simp only[Bool.false_eq_true,if_false,Oper.uponIn];obtain⟨h1,h2⟩:=YI hp;exact hN.go S.cQ _ _ (.v r) r ⟨λ_ _ h=>h,λ_ _ cs h=>⟨cs,h⟩,λid hi=>⟨hi,rfl⟩⟩ rfl rfl WT.cQ (hw.age hk) (λhp=>by rw[lK] at hp; cases hp) rfl h2 h1
   ·exact h.elim
  ·exact h.elim
theorem zn9{G:Prop->Prop}{d:TD}{op:BinOp}{a b:Va}{K:Va->Prop}(h:zlk G d op a b K):∃v,K v:=by
 have kk:∀{p:Prop} [Decidable p] {A:Prop},(bif decide p then A else False)->A:=λ{p _ A} h=>by
  by_cases hk:p
  ·simpa[hk] using h
  ·simp[hk] at h
 unfold zlk at h
 split at h <;> first
  | exact h.elim
  | exact⟨_,h⟩
  | exact⟨_,h.2⟩
  | exact⟨_,(kk h).2⟩
  | exact⟨_,kk h⟩
theorem zkk{a b:Operand}{cb:Bool}{x y:Va}{K:Va->Prop}(h:FP a b cb x y K):∃v,K v:=by
 unfold FP at h
 split at h <;> first | exact h.elim | exact⟨_,h⟩
theorem zlm{C:UJ}{S:St}{w:Wo}{ops:Array Oper}{o:Oper}{pc:List (Nat×Bool)}{K:EV->MD->Prop}(h:z2m C S w ops o pc K):∃e fact,K e fact:=by
 unfold z2m at h
 split at h
 case h_3=>
  split at h
  ·split at h
   ·split at h
    ·exact⟨_,_,h⟩
    ·exact h.elim
   ·split at h
    ·exact⟨_,_,h⟩
    ·exact h.elim
   ·split at h
    ·obtain⟨v,h⟩:=zkk h; exact⟨_,_,h⟩
    ·exact h.elim
  ·exact h.elim
 case h_5=>
  split at h
  ·rename_i ty u v ht hu hv
   cases hb:z3d ty.d _ C.wr with
   | true=>
    rw[hb] at h;simp only[cond_true] at h;obtain⟨v,h⟩:=ME h;exact⟨_,_,h.2⟩
   | false=>
    rw[hb] at h;simp only[cond_false] at h;obtain⟨v,h⟩:=zn9 h;exact⟨_,_,h⟩
  ·exact h.elim
 case h_14=>
  (repeat' split at h) <;> first
   | exact h.elim
   | (obtain⟨l,_,h⟩:=N9 h; obtain⟨u,_,h⟩:=DS h; exact⟨_,_,h.2⟩)
 case h_19=>
  split at h
  ·obtain⟨l,_,h⟩:=P0 h
   split at h
   ·exact⟨_,_,h.2⟩
   ·exact h.elim
  ·rename_i ty ob ht hx
   cases hk:ty.ks.isEmpty with
   | true=>rw[hk] at h; exact h.elim
   | false=>
    rw[hk] at h;obtain⟨l,_,h⟩:=P0 h
    split at h
    ·exact⟨_,_,h.2⟩
    ·exact h.elim
  ·(repeat' split at h) <;> first
    | exact h.elim
    | exact⟨_,_,h⟩
  ·(repeat' split at h) <;> first
    | exact h.elim
    | (obtain⟨v,h⟩:=ME h; exact⟨_,_,h.2⟩)
  ·exact h.elim
 case h_21=>
  (repeat' split at h) <;> first
   | exact h.elim
   | (obtain⟨v,h⟩:=UM h; exact⟨_,_,h.2⟩)
 case h_16=>
  split at h
  ·rename_i ty v ht hx
   cases ho':ty.d.AT5 with
   | true=>rw[ho'] at h; exact h.elim
   | false=>rw[ho'] at h; exact⟨_,_,h⟩
  ·exact h.elim
 case h_17=>
  (repeat' split at h) <;> first
   | exact h.elim
   | (obtain⟨v,h⟩:=UM h; exact⟨_,_,h.2⟩)
 all_goals
  (repeat' split at h) <;> first
   | exact h.elim
   | exact⟨_,_,h⟩
   | exact⟨_,_,h.2⟩
   | (obtain⟨v,h⟩:=ME h; exact⟨_,_,h.2⟩)
def DC(o:Oper):Bool:=
 match o.op,o.dst with
 | .store _ _ _,some _=>true
 | .defer _,_=>true
 | _,_=>false
def z01(dn:Nat->Bool)(o:Oper):Bool:=
 match o.guard with
 | some (j,_)=>dn j
 | none=>true
def zqc(S:St)(ops:Array Oper)(o:Oper):Bool:=match o.guard with
 | none=>false
 | some (j,_)=>match (ops[j]?).bind (·.dst) with
  | some d=>match S.F.get d with
   | some (.gd _ _ .no)=>true
   | _=>false
  | none=>false
def BI(S:St)(ops:Array Oper)(pc:List (Nat×Bool))(o:Oper):Bool:=zqc S ops o||o.op.operands.toList.any λx=>match zee S pc x with
 | some .no=>true
 | _=>false
theorem DE{n:Nat}{S:St}{ops:Array Oper}{a:Act}(hf:A5 n S ops a){pc:List (Nat×Bool)}{o:Oper}(qA:zov S ops o=some pc)(h:BI S ops pc o=true):¬Eb ops a pc:=λhp=>by
 unfold BI at h;rcases Bool.or_eq_true_iff.1 h with h | h
 ·unfold zqc at h
  split at h
  ·cases h
  ·rename_i j want hg
   split at h
   ·rename_i d hd
    split at h
    ·rename_i r wS hv;unfold zov at qA;rw[hg] at qA;simp only[hd,hv] at qA
     cases hr:Nat.beq r S.r with
     | false=>rw[hr] at qA; cases qA
     | true=>
      rw[hr] at qA;simp only[cond_true,I1] at qA;subst qA;exact((hf.fits d _ hv (Ic hr)).1 λp hm=>hp p (I2 _ hm)).elim
    ·cases h
   ·cases h
 ·obtain⟨x,_,hx⟩:=List.any_eq_true.1 h
  split at hx
  ·rename_i hv;exact(Yc hf hp hv).elim
  ·cases hx
def zbu(C:UJ)(ops:Array Oper)(dn:Nat->Bool)(o:Oper)(S:St)(w:Wo)(K:MD->St->Wo->Prop):Prop:=
 bif z01 dn o && !DC o then
  match zov S ops o with
  | none=>False
  | some pc=>bif BI S ops pc o then Ee C S o.dst (zgz S pc .no) λS'=>K none S' w else bif Ff C o.op then (match pc with
   | []=>z15 C S w o [] (K none)
   | pc=>bif zsy S ops pc then HN S ops pc (z15 C S w o pc (K none))/\(HN S ops pc False->Ee C S o.dst (zgz S pc .no) λS'=>K none S' w) else False)
   else z2m C S w ops o pc λe f=>Ee C S o.dst (zgz S pc e) λS'=>K f S' w
 else False
structure zzx (C:UJ) (S:St) (w:Wo) (ops:Array Oper) (D:Nat->Prop) (o:Oper) (a:Act) (S':St) (w':Wo) (a':Act) (Wy:Wo):Prop where
 fit:MP C.n S' ops D a'
 rel:Zo S' w' Wy
 wf:LA S'
 fr:MQ S S'
 r:S'.r=S.r
 put:∃v,a'=a.put o.dst v
 pm:C.pm=true->w'=w/\S'.old=S.old
theorem zow{S:St}{ops:Array Oper}{D:Nat->Prop}{n:Nat}{a:Act}(hf:MP n S ops D a){o:Oper}{pc:List (Nat×Bool)}(h:zov S ops o=some pc)(hg:∀j b,o.guard=some (j,b)->D j):∀p∈pc,D p.1:=by
 unfold zov at h
 split at h
 ·simp only[I1] at h; subst h; intro p hp; cases hp
 ·rename_i j want hgd
  split at h
  ·rename_i d hd
   split at h
   ·simp only[I1] at h; subst h;intro p hp;simp only[IA] at hp;subst hp;exact hg j want hgd
   ·rename_i r wS b hv
    cases hr:Nat.beq r S.r with
    | false=>rw[hr] at h; cases h
    | true=>
     rw[hr] at h;simp only[cond_true,I1] at h; subst h;intro p hp;rcases Ij.1 hp with rfl | hp
     ·exact hg j want hgd
     ·have:=Ic hr;subst this;exact hf.dn d wS _ hv p hp
   ·rename_i r wS hv
    cases hr:Nat.beq r S.r with
    | false=>rw[hr] at h; cases h
    | true=>
     rw[hr] at h;simp only[cond_true,I1] at h; subst h;intro p hp;rcases Ij.1 hp with rfl | hp
     ·exact hg j want hgd
     ·have:=Ic hr;subst this;exact hf.dn d wS _ hv p hp
   ·cases h
  ·cases h
structure zps (C:UJ):Prop where
 T:ztn C.P C.T
 pf:∀f ks,znz C.pf f=some ks->OL C.P f
 ef:∀f ks,znz C.ef f=some ks->OL C.P f
 mixed:C.P.follows .mixedOrders=true
theorem zbv{C:UJ}(E:zps C){ops:Array Oper}{D D':Nat->Prop}{dn:Nat->Bool}{i:Nat}{o:Oper}{S:St}{w wr:Wo}{a:Act}{K:MD->St->Wo->Prop}{N:Act->Wo->Prop}{Q:Exit->Act->Wo->Prop}(hu:B8 ops=true)(ho:ops[i]? = some o)(hi:¬D i)(hD:∀j,D j->zto ops j)(hDD:∀j,D j->D' j)(hdn:∀j,dn j=true->zto ops j->D j)(hf:MP C.n S ops D a)(hw:Zo S w wr)(WT:LA S)(hN:∀f S' w' a' Wy,K f S' w'->zzx C S w ops D' o a S' w' a' Wy->N a' Wy)(h:zbu C ops dn o S w K) :
  if Region.wanted o (yielded ops a.tmps) then o.wpIn (T7 C.rd) 0 C.P a wr N Q else N (a.put o.dst undef) wr:=by
 unfold zbu at h
 cases hb:(z01 dn o && !DC o) with
 | false=>rw[hb] at h; exact h.elim
 | true=>
  rw[hb] at h;simp only[cond_true] at h;simp only[A',ID] at hb
  have hg:∀j b,o.guard=some (j,b)->D j:=λj b hgd=>by
   refine hdn j ?_ ⟨o,by rw[Array.mem_toList_iff]; exact Array.mem_of_getElem? ho,b,hgd⟩;have:=hb.1;unfold z01 at this;rw[hgd] at this;exact this
  split at h
  ·exact h.elim
  ·rename_i pc qA;have AV9:=zow hf qA hg;have qF:=GG hf.fit qA
   cases hdd:BI S ops pc o with
   | true=>
    rw[hdd] at h;simp only[cond_true] at h;have hp:=DE hf.fit qA hdd;rw[C' (λxM=>hp (qF.1 xM))];obtain⟨h1,h2⟩:=YI h;exact hN _ _ _ _ _ h1 ⟨hf.put hu ho hi hD hDD AV9 h2 ⟨λhp'=>Is hp' hp,λ_=>rfl⟩,hw.cK _ _,WT.cK _ _,(MQ.refl S).cK _ _,by cases o.dst <;> rfl,⟨undef,rfl⟩,λ_=>⟨rfl,by cases o.dst <;> rfl⟩⟩
   | false=>
   rw[hdd] at h;simp only[cond_false] at h
   cases he:Ff C o.op with
   | true=>
    rw[he] at h;simp only[cond_true] at h
    have run:Eb ops a pc->z15 C S w o pc (K none)->o.wpIn (T7 C.rd) 0 C.P a wr N Q:=λC57 h=>by
     refine zr3 E.T E.ef hf hw WT C57 ⟨λS1 w' Wy e v h1 h2 h3 h4 h5 h9 h6 h7 h8=>?_⟩ h (λt x y hs=>?_)
     ·refine hN none _ _ _ _ h8 ⟨?_,h5.cK _ _,h4.cK _ _,h1.cK _ _,by cases o.dst <;> exact h3,⟨v,rfl⟩,λhp=>by cases o.dst <;> exact h9 hp⟩;have hf1:MP C.n S1 ops D a:=hf.mono h1.B h2 h3;exact hf1.put (pc:=[]) hu ho hi hD hDD (λp hp=>by cases hp) h7 ⟨λ_=>h6,λhn=>Is (λp hp=>by cases hp) hn⟩
     ·have:=hb.2;unfold DC at this;rw[hs] at this
      cases hd:o.dst with
      | none=>rfl
      | some d=>rw[hd] at this; cases this
    split at h
    ·have xM:Region.wanted o (yielded ops a.tmps)=true:=qF.2 (λp hp=>by cases hp);rw[E' xM];exact run (λp hp=>by cases hp) h
    ·cases hpo:zsy S ops pc with
     | false=>rw[hpo] at h; exact h.elim
     | true=>
      rw[hpo] at h;simp only[cond_true] at h
      by_cases hp:Eb ops a pc
      ·rw[E' (qF.2 hp)];exact run hp (y7 hf.fit hp h.1)
      ·rw[C' (λxM=>hp (qF.1 xM))];obtain⟨h1,h2⟩:=YI (h.2 (zjq hf.fit hpo hp));exact hN _ _ _ _ _ h1 ⟨hf.put hu ho hi hD hDD AV9 h2 ⟨λhp'=>Is hp' hp,λ_=>rfl⟩,hw.cK _ _,WT.cK _ _,(MQ.refl S).cK _ _,by cases o.dst <;> rfl,⟨undef,rfl⟩,λ_=>⟨rfl,by cases o.dst <;> rfl⟩⟩
   | false=>
    rw[he] at h;simp only[cond_false] at h
    by_cases hp:Eb ops a pc
    ·rw[E' (qF.2 hp)];obtain⟨e,fact,v,hK,CO7,lZ,hq⟩:=zhd E.T E.pf hf.fit hp h;obtain⟨h1,h2⟩:=YI hK;refine Ba (C:=Zo S w) (K:=λa'=>a'=a.put o.dst v) hw (λa' w' hw' ha'=>?_) ⟨v,λWy hw'=>hq S w a rfl (λ_ _ h=>h) lZ Wy hw',rfl⟩;subst ha';exact hN _ _ _ _ _ h1 ⟨hf.put hu ho hi hD hDD AV9 h2 ⟨λ_=>CO7,λhn=>Is hp hn⟩,hw'.cK _ _,WT.cK _ _,(MQ.refl S).cK _ _,by cases o.dst <;> rfl,⟨v,rfl⟩,λ_=>⟨rfl,by cases o.dst <;> rfl⟩⟩
    ·rw[C' (λxM=>hp (qF.1 xM))];obtain⟨e,fact,hK⟩:=zlm h;obtain⟨h1,h2⟩:=YI hK;exact hN _ _ _ _ _ h1 ⟨hf.put hu ho hi hD hDD AV9 h2 ⟨λhp'=>Is hp' hp,λ_=>rfl⟩,hw.cK _ _,WT.cK _ _,(MQ.refl S).cK _ _,by cases o.dst <;> rfl,⟨undef,rfl⟩,λ_=>⟨rfl,by cases o.dst <;> rfl⟩⟩
def zus(C:UJ)(ops:Array Oper):List Oper->Nat->St->Wo->(St->Wo->Prop)->Prop
 | [],_,S,w,K=>K S w
 | o::rest,k,S,w,K=>zbu C ops (λj=>Nat.blt j k) o S w λ_ S' w'=>zus C ops rest (k+1) S' w' K
def Ga:List Oper->List Nat
 | []=>[]
 | o::r=>match o.dst with
  | some d=>d::Ga r
  | none=>Ga r
def Dj(ds:List Nat)(a a':Act):Prop:=a'.defers=a.defers/\a'.tmps.size=a.tmps.size/\∀i,i∉ds->a'.tmps.getD i undef=a.tmps.getD i undef
theorem Dj.refl(ds:List Nat)(a:Act):Dj ds a a:=⟨rfl,rfl,λ_ _=>rfl⟩
theorem Dj.trans{ds:List Nat}{a b c:Act}(h:Dj ds a b)(k:Dj ds b c):Dj ds a c:=⟨k.1.trans h.1,k.2.1.trans h.2.1,λi hi=>(k.2.2 i hi).trans (h.2.2 i hi)⟩
theorem Dj.mono{ds es:List Nat}{a b:Act}(h:Dj ds a b)(hs:∀x∈ds,x∈es):Dj es a b:=⟨h.1,h.2.1,λi hi=>h.2.2 i (λhx=>hi (hs i hx))⟩
theorem Dj.put(a:Act)(d:Option Tmp)(v:Va)(ds:List Nat)(h:∀x,d=some x->x∈ds):Dj ds a (a.put d v):=by
 cases d with
 | none=>exact Dj.refl _ _
 | some d=>
  refine⟨rfl,by simp[Act.put],λi hi=>?_⟩;have:d≠i:=λe=>hi (e▸h d rfl)
  simp only[Act.put,Array.getD_eq_getD_getElem?];rw[Array.getElem?_setIfInBounds_ne this]
theorem NU{C:UJ}(E:zps C){ops:Array Oper}(hu:B8 ops=true){K:St->Wo->Prop}{Q:Exit->Act->Wo->Prop}{ds:List Nat}{S0:St}{w0:Wo}{a0:Act}(hds:∀x∈Ga ops.toList,x∈ds)(hQ:∀S' w' a' Wy,K S' w'->MP C.n S' ops (λj=>j<ops.size/\zto ops j) a'->Zo S' w' Wy->LA S'->MQ S0 S'->S'.r=S0.r->Dj ds a0 a'->(C.pm=true->w'=w0/\S'.old=S0.old)->Q .normal a' Wy) :
  ∀(l:List Oper) (k:Nat) (S:St) (w wr:Wo) (a:Act),(∀j,l[j]? = ops[k+j]?)->k+l.length=ops.size->zus C ops l k S w K->MP C.n S ops (λj=>j<k/\zto ops j) a->Zo S w wr->LA S->MQ S0 S->S.r=S0.r->Dj ds a0 a->(C.pm=true->w=w0/\S.old=S0.old)->
   wpListIn (T7 C.rd) 0 C.P ops Q l a wr
 | [],k,S,w,wr,a,_,hk,h,hf,hw,WT,vA,hr,hfa,lK=>by
  have:k=ops.size:=by simpa using hk
  subst this;exact hQ S w a wr h hf hw WT vA hr hfa lK
 | o::rest,k,S,w,wr,a,hl,hk,h,hf,hw,WT,vA,hr,hfa,lK=>by
  have ho:ops[k]? = some o:=by simpa using (hl 0).symm
  have hod:∀x,o.dst=some x->x∈ds:=λx hx=>by
   refine hds x ?_;have hm:o∈ops.toList:=by rw[Array.mem_toList_iff]; exact Array.mem_of_getElem? ho
   clear hk hl h;generalize ops.toList=q at hm
   induction q with
   | nil=>cases hm
   | cons y q ih=>
    simp only[Ga];rcases Ij.1 hm with rfl | hm
    ·rw[hx]; exact Ia ..
    ·split
     ·exact I2 _ (ih hm)
     ·exact ih hm
  have dF:=zbv E (i:=k) (D':=λj=>j<k+1/\zto ops j) (N:=λa' w'=>wpListIn (T7 C.rd) 0 C.P ops Q rest a' w') (Q:=Q) hu ho (λhd=>Nat.lt_irrefl _ hd.1) (λj hj=>hj.2) (λj hj=>⟨Nat.lt_succ_of_lt hj.1,hj.2⟩)
   (λj h1 h2=>⟨Il h1,h2⟩) hf hw WT (λf S' w' a' Wy hK hL=>by
    obtain⟨v,rfl⟩:=hL.put;exact NU E hu hds hQ rest (k+1) S' w' Wy _ (λj=>by have:=hl (j+1); simpa[Nat.add_assoc,Nat.add_comm 1 j] using this) (by simp at hk; omega) hK hL.fit hL.rel hL.wf (vA.trans hL.fr) (hL.r.trans hr) (hfa.trans (Dj.put a o.dst v ds hod)) (λhp=>⟨(hL.pm hp).1.trans (lK hp).1,(hL.pm hp).2.trans (lK hp).2⟩)) h
  unfold wpListIn
  by_cases hwt:Region.wanted o (yielded ops a.tmps)=true
  ·rw[E' hwt] at dF ⊢;exact dF
  ·rw[C' hwt] at dF ⊢;exact⟨λ_ _=>trivial,dF⟩
theorem zx4{C:UJ}{ops:Array Oper}{dn:Nat->Bool}{o:Oper}{S:St}{w:Wo}{K:MD->St->Wo->Prop}(h:zbu C ops dn o S w K):∀c,o.op≠.defer c:=λc hc=>by
 unfold zbu at h;have:DC o=true:=by simp[DC,hc]
 rw[this] at h;simp at h
def V3(ops:Array Oper)(o:Oper)(a:Act):Option (Sem Next):=if Region.wanted o (yielded ops a.tmps) then some (execOp a.eval o) else none
def YS(P:Program)(R:Wo->Prop)(s:Option (Sem Next))(v:Va):Prop:=
 match s with
 | some s=>∀w,R w->Oper.quietUpon P R w v (s.run P w)
 | none=>v=undef
def C8(P:Program)(o:Oper)(a:Act)(w:Wo)(N:Va->Wo->Prop):Prop:=
 match (execOp a.eval o).run P w with
 | .ok (.value v) w'=>N v w'
 | .ok .skip w'=>N undef w'
 | .ok (.enter f args) w'=>Calls P f args w' λe mD=>∃v,e=.returned v/\N v mD
 | .ok (.row row args) w'=>Rows P row args w' λv mD=>N v mD
 | .ok (.round l f tmps asg body) w'=>RoundIn Fence.wide 0 P l f tmps asg body w' λe mD=>∃v,e=.returned v/\N v mD
 | _=>False
def Te:List Oper->List Nat->List Nat
 | [],acc=>acc
 | o::r,acc=>Te r (acc++[o.after.toList.foldl (λs e=>if Region.binds .any e then s ||| 2 ^ e.on ||| acc.getD e.on 0 else s) 0])
def zii(M:List Nat)(i j:Nat):Bool := !(M.getD j 0).testBit i
def H2(P:Program)(ops:Array Oper)(un:Nat->Nat->Bool)(Q:Act->(Wo->Prop)->Prop):Nat->Array Bool->List (Nat×Option (Sem Next)×Va)->Act->(Wo->Prop)->Prop
 | 0,Rt,_,a,R=>Region.ready .any ops Rt=[]/\Q a R
 | n+1,Rt,Pd,a,R=>(Region.ready .any ops Rt=[]->Q a R)/\∀i∈Region.ready .any ops Rt,∀o,ops[i]? = some o->
   (∃v,YS P R (V3 ops o a) v/\H2 P ops un Q n (Rt.setIfInBounds i true) ((i,V3 ops o a,v)::Pd) (a.put o.dst v) R) \/
   (Region.wanted o (yielded ops a.tmps)=true/\∀w,R w->C8 P o a w λv w'=>∃R':Wo->Prop,R' w'/\(∀p∈Pd,un p.1 i=true->YS P R' p.2.1 p.2.2)/\
    H2 P ops un Q n (Rt.setIfInBounds i true) Pd (a.put o.dst v) R')
section
variable {P:Program}{ops:Array Oper}{un:Nat->Nat->Bool}{Q:Act->(Wo->Prop)->Prop}
theorem BQ{o:Oper}{a:Act}{w:Wo}{N N':Va->Wo->Prop}(h:∀v w,N v w->N' v w)(hh:C8 P o a w N):C8 P o a w N':=by
 unfold C8 at *;generalize (execOp a.eval o).run P w=r at *
 cases r with
 | ok n w'=>
  cases n <;> dsimp only at hh ⊢
  case value v=>exact h _ _ hh
  case skip=>exact h _ _ hh
  case enter f args=>exact hh.mono λe mD ⟨v,he,hn⟩=>⟨v,he,h _ _ hn⟩
  case row row args=>exact hh.mono λv mD hn=>h _ _ hn
  case round l f tmps asg body=>exact hh.mono λe mD ⟨v,he,hn⟩=>⟨v,he,h _ _ hn⟩
  all_goals exact hh
 | halt x w'=>exact hh
theorem zx2{o:Oper}{a:Act}{w:Wo}{N:Va->Wo->Prop}{K:Act->Wo->Prop}{Q':Exit->Act->Wo->Prop}{r:Option Nat}(hh:C8 P o a w N)(h:∀v w',N v w'->K (a.put o.dst v) w'):o.wpIn (T7 r) 0 P a w K Q':=by
 refine zpo (λc hc=>by unfold C8 at hh; rcases zh3 (P:=P) (ρ:=a.eval) hc w with ⟨d,w',hr⟩ | ⟨x,w',hr⟩ <;> (rw[hr] at hh; exact hh)) ?_;unfold C8 at hh;generalize (execOp a.eval o).run P w=r at *
 cases r with
 | ok n w'=>
  cases n <;> dsimp only at hh <;> simp only[Oper.uponIn]
  case value v=>exact h _ _ hh
  case skip=>exact h _ _ hh
  case enter f args=>exact⟨λhx=>(by simp[T7,Fence.wide] at hx),PP (hh.mono λe mD ⟨v,he,hn⟩=>by subst he; exact h _ _ hn)⟩
  case row row args=>exact⟨λhx=>(by simp[T7,Fence.wide] at hx),zuu (hh.mono λv mD hn=>h _ _ hn)⟩
  case round l f tmps asg body=>exact⟨λhx=>(by simp[T7,Fence.wide] at hx),zhe (hh.mono λe mD ⟨v,he,hn⟩=>by subst he; exact h _ _ hn)⟩
 | halt x w'=>exact hh.elim
theorem zn8{o:Oper}{a:Act}{w:Wo}{K:Act->Wo->Prop}{r:Option Nat}(hd:∀c,o.op≠.defer c)(hh:o.wpIn (T7 r) 0 P a w K λ_ _ _=>False)(hp:∀a' w',K a' w'->∃v,a'=a.put o.dst v):C8 P o a w λv w'=>K (a.put o.dst v) w':=by
 have hh:=z10 hd hh;unfold C8;generalize (execOp a.eval o).run P w=r at *
 cases r with
 | ok n w'=>
  cases n <;> simp only[Oper.uponIn] at hh ⊢
  case value v=>exact hh
  case skip=>exact hh
  case defer d=>
   obtain⟨v,hv⟩:=hp _ _ hh;have h1:(({ a with defers:=d::a.defers }:Act).put o.dst undef).defers=(a.put o.dst v).defers:=by rw[hv]
   have h2:∀(b:Act) (x:Option Tmp) (u:Va),(b.put x u).defers=b.defers:=λb x u=>by cases x <;> rfl
   rw[h2,h2] at h1;have:=congrArg List.length h1;simp at this
  case enter f args=>
   exact(zqa hh.2).mono λe mD he=>by
    cases e with
    | returned v=>exact⟨v,rfl,he⟩
    | panicked c=>exact he.elim
    | outgrown=>obtain⟨_,_,he⟩:=he; exact he.elim
  case row row args=>exact λc cs=>(let ⟨v,w1,h1,h2⟩:=hh.2 c cs (zbz _ _); ⟨v,w1,h1,StepsIn.steps h2⟩)
  case round l f tmps asg body=>
   refine⟨trivial,λc cs _=>?_⟩;obtain⟨e,mD,he,hs⟩:=hh.2.2 c cs (zbz _ _);refine⟨e,mD,?_,hs⟩
   cases e with
   | returned v=>exact⟨v,rfl,he⟩
   | panicked c=>exact he.elim
   | outgrown=>obtain⟨_,_,he⟩:=he; exact he.elim
 | halt x w'=>cases x <;> simp only[Oper.uponIn] at hh
theorem Em:∀{n:Nat} {Rt:Array Bool} {Pd Pd':List (Nat×Option (Sem Next)×Va)} {a:Act} {R:Wo->Prop},(∀p∈Pd',p∈Pd)->H2 P ops un Q n Rt Pd a R->H2 P ops un Q n Rt Pd' a R
 | 0,_,_,_,_,_,_,h=>h
 | n+1,Rt,Pd,Pd',a,R,hs,h=>⟨h.1,λi hi o ho=>by
  rcases h.2 i hi o ho with ⟨v,h1,h2⟩ | ⟨h1,h2⟩
  ·refine .inl ⟨v,h1,Em (λp hp=>?_) h2⟩;rcases Ij.1 hp with rfl | hp
   ·exact Ia ..
   ·exact I2 _ (hs p hp)
  ·exact .inr ⟨h1,λw hw=>BQ (λv w' ⟨R',h3,h4,h5⟩=>⟨R',h3,λp hp=>h4 p (hs p hp),Em hs h5⟩) (h2 w hw)⟩⟩
theorem Lh{r:Option Nat}{Q':Exit->Act->Wo->Prop}(hQ:∀a R w,Q a R->R w->Q' .normal a w):∀(n:Nat) (Rt:Array Bool) (Pd:List (Nat×Option (Sem Next)×Va)) (a:Act) (R:Wo->Prop) (w:Wo),R w->H2 P ops un Q n Rt Pd a R->wpAnyIn (T7 r) 0 P .any ops Q' n Rt a w
 | 0,_,_,_,_,_,hw,h=>⟨h.1,hQ _ _ _ h.2 hw⟩
 | n+1,Rt,Pd,a,R,w,hw,h=>⟨λh0=>hQ _ _ _ (h.1 h0) hw,λi hi=>by
  obtain⟨_,o,ho,_⟩:=mem_ready.1 hi;unfold wpOpIn;simp only[ho];rcases h.2 i hi o ho with ⟨v,h1,h2⟩ | ⟨h1,h2⟩
  ·unfold V3 at h1
   by_cases hwt:Region.wanted o (yielded ops a.tmps)=true
   ·rw[E' hwt] at h1 ⊢;exact Ba (C:=R) (K:=λa'=>a'=a.put o.dst v) hw (λa' w' hw' ha'=>by subst ha'; exact Lh hQ n _ _ _ R w' hw' h2) ⟨v,λw' hw'=>h1 w' hw',rfl⟩
   ·rw[C' hwt] at h1 ⊢;rw[show v=undef from h1] at h2;exact⟨λ_ _=>trivial,Lh hQ n _ _ _ R w hw h2⟩
  ·rw[E' h1];exact(zx2 (h2 w hw) λv w' ⟨R',h3,_,h5⟩=>Lh hQ n _ _ _ R' w' h3 h5)⟩
theorem zs6{oi oj:Oper}{a:Act}{v:Va}(hap:oi.apart ops oj=true)(hsj:∀cs b,oj.op≠.select cs b):V3 ops oj (a.put oi.dst v)=V3 ops oj a:=by
 obtain⟨h1,_,_⟩:=Oper.apart_spec hap;unfold V3;rw[wanted_put oj a oi.dst v h1,execOp_put oj hsj a oi.dst v h1]
theorem zuo{oi oj:Oper}{a:Act}{v:Va}{w:Wo}{N:Va->Wo->Prop}(hap:oi.apart ops oj=true)(hsj:∀cs b,oj.op≠.select cs b)(h:C8 P oj (a.put oi.dst v) w N):C8 P oj a w N:=by
 obtain⟨h1,_,_⟩:=Oper.apart_spec hap;unfold C8 at *;rw[execOp_put oj hsj a oi.dst v h1] at h;exact h
theorem za9{x y:Oper}(h:x.apart ops y=true):∀d,y.dst=some d->d∉x.looksAt ops:=(Oper.apart_spec h).2.2
def Dh(ops:Array Oper)(Rt:Array Bool):Prop:=∀j o,ops[j]? = some o->Rt.getD j true=true->∀e∈o.after,Region.binds .any e=true->Rt.getD e.on false=true
theorem zpj(BU9:∀(j:Nat) (o:Oper) cs b,ops[j]? = some o->o.op≠.select cs b)(hun:∀Rt i j,Dh ops Rt->i∈Region.ready .any ops Rt->j∈Region.ready .any ops Rt->i≠j->un i j=true){i:Nat}{oi:Oper}{v:Va}(hi:ops[i]? = some oi) :
  ∀(n:Nat) (Rt:Array Bool) (Pd:List (Nat×Option (Sem Next)×Va)) (a:Act) (R:Wo->Prop),Dh ops Rt->
   (∀j oj,ops[j]? = some oj->j≠i->Rt.getD j true=false->(∀e∈oj.after,Region.binds .any e=true->e.on≠i)->oi.apart ops oj=true)->
   i∈Region.ready .any ops Rt->YS P R (V3 ops oi a) v->
   H2 P ops un Q n (Rt.setIfInBounds i true) ((i,V3 ops oi a,v)::Pd) (a.put oi.dst v) R->H2 P ops un Q (n+1) Rt Pd a R:=by
 intro n
 induction n with
 | zero=>
  intro Rt Pd a R tP vB hr hy H;refine⟨λh=>(by rw[h] at hr; cases hr),λj hj oj hoj=>?_⟩
  by_cases hji:j=i
  ·subst hji; rw[hi] at hoj; cases hoj; exact .inl ⟨v,hy,H⟩
  ·have:=ready_mono hj hji;rw[H.1] at this;cases this
 | succ n ih=>
  intro Rt Pd a R tP vB hr hy H;refine⟨λh=>(by rw[h] at hr; cases hr),λj hj oj hoj=>?_⟩
  by_cases hji:j=i
  ·subst hji; rw[hi] at hoj; cases hoj; exact .inl ⟨v,hy,H⟩
  ·obtain⟨CA6,oj',Cg9,qB⟩:=mem_ready.1 hj;rw[hoj] at Cg9; cases Cg9
   have C52:∀e∈oj.after,Region.binds .any e=true->e.on≠i:=λe he hb heq=>by
    have h1:=qB e he hb;have h0:=(mem_ready.1 hr).1;rw[heq] at h1;rcases Nat.lt_or_ge i Rt.size with h' | h'
    ·simp[h'] at h0 h1; rw[h0] at h1; cases h1
    ·simp[Array.getElem?_eq_none h'] at h1
   have hap:=vB j oj hoj hji CA6 C52;have hsj:=λcs b=>BU9 j oj cs b hoj
   have hsi:=λcs b=>BU9 i oi cs b hi
   have BT7:Dh ops (Rt.setIfInBounds j true):=λk ok hk uG e he hb=>by
    by_cases iP:j=k
    ·subst iP; rw[hoj] at hk; cases hk;exact getD_set_true (qB e he hb)
    ·rw[getD_set_ne true iP] at uG;exact getD_set_true (tP k ok hk uG e he hb)
   have Bz3:∀k ok,ops[k]? = some ok->k≠i->(Rt.setIfInBounds j true).getD k true=false->
     (∀e∈ok.after,Region.binds .any e=true->e.on≠i)->oi.apart ops ok=true:=λk ok hk hki hun jH=>by
    refine vB k ok hk hki ?_ jH
    by_cases iP:j=k
    ·subst iP; exact CA6
    ·rw[getD_set_ne true iP] at hun; exact hun
   have hr':=ready_mono hr (Ne.symm hji)
   have CB3:∀u,V3 ops oi (a.put oj.dst u)=V3 ops oi a:=λu=>by
    unfold V3;rw[wanted_put oi a oj.dst u (za9 hap),execOp_put oi hsi a oj.dst u (za9 hap)]
   have CG4:∀u,(a.put oi.dst v).put oj.dst u=(a.put oj.dst u).put oi.dst v:=λu=>Act.put_comm a v u (Oper.apart_spec hap).2.1
   rcases H.2 j (ready_mono hj hji) oj hoj with ⟨u,h1,h2⟩ | ⟨h1,h2⟩
   ·rw[zs6 hap hsj] at h1 h2;refine .inl ⟨u,h1,ih _ _ _ R BT7 Bz3 hr' (by rw[CB3 u]; exact hy) ?_⟩;rw[CB3 u,<-CG4 u,Array.setIfInBounds_comm _ _ hji]
    exact Em (λp hp=>by
     simp only[Ij] at hp ⊢;rcases hp with h | h | h
     ·exact .inr (.inl h)
     ·exact .inl h
     ·exact .inr (.inr h)) h2
   ·refine .inr ⟨?_,λw hw=>zuo hap hsj (BQ (λu w' ⟨R',h3,h4,h5⟩=>⟨R',h3,λp hp=>h4 p (I2 _ hp),?_⟩) (h2 w hw))⟩
    ·rw[wanted_put oj a oi.dst v (Oper.apart_spec hap).1] at h1; exact h1
    ·have hyi:YS P R' (V3 ops oi a) v:=h4 _ (Ia ..) (hun Rt i j tP hr hj (Ne.symm hji));refine ih _ _ _ R' BT7 Bz3 hr' (by rw[CB3 u]; exact hyi) ?_;rw[CB3 u,<-CG4 u,Array.setIfInBounds_comm _ _ hji];exact h5
end
theorem zb0{acc:List Nat}{i:Nat}:∀(l:List Edge) (s:Nat),(l.foldl (λs e=>if Region.binds .any e then s ||| 2 ^ e.on ||| acc.getD e.on 0 else s) s).testBit i=true->
  s.testBit i=true\/∃e∈l,Region.binds .any e=true/\(e.on=i\/(acc.getD e.on 0).testBit i=true)
 | [],s,h=>.inl h
 | e::l,s,h=>by
  rcases zb0 l _ h with h1 | ⟨e',he',hb,h2⟩
  ·by_cases hb:Region.binds .any e=true
   ·simp only[E' hb] at h1;simp only[Nat.testBit_or,Iv] at h1;rcases h1 with (h1 | h1) | h1
    ·exact .inl h1
    ·refine .inr ⟨e,Ia ..,hb,.inl ?_⟩;rw[Nat.testBit_two_pow] at h1
     simpa using h1
    ·exact .inr ⟨e,Ia ..,hb,.inr h1⟩
   ·simp only[C' hb] at h1;exact .inl h1
  ·exact .inr ⟨e',I2 _ he',hb,h2⟩
theorem EQ:∀(l:List Oper) (acc:List Nat) (pre:List Oper),acc.length=pre.length->
  (∀(j:Nat) (o:Oper),pre[j]? = some o->∀i,(acc.getD j 0).testBit i=true->∃e∈o.after.toList,Region.binds .any e=true/\(e.on=i\/(e.on<j/\(acc.getD e.on 0).testBit i=true)))->
  ∀(j:Nat) (o:Oper),(pre++l)[j]? = some o->∀i,((Te l acc).getD j 0).testBit i=true->∃e∈o.after.toList,Region.binds .any e=true/\(e.on=i\/(e.on<j/\((Te l acc).getD e.on 0).testBit i=true))
 | [],acc,pre,hl,h,j,o,ho,i,hb=>by
  simp only[List.append_nil] at ho;exact h j o ho i hb
 | o'::l,acc,pre,hl,h,j,o,ho,i,hb=>by
  have C08:pre++o'::l=(pre++[o'])++l:=Qs;rw[C08] at ho;simp only[Te] at hb ⊢;refine EQ l _ (pre++[o']) (by simp[hl]) (λj o ho i hb=>?_) j o ho i hb
  by_cases hj:j<pre.length
  ·rw[Iq hj] at ho;rw[List.getD_eq_getElem?_getD,Iq Qo,<-List.getD_eq_getElem?_getD] at hb;obtain⟨e,he,gL,h2⟩:=h j o ho i hb;refine⟨e,he,gL,?_⟩;rcases h2 with h2 | ⟨h2,h3⟩
   ·exact .inl h2
   ·refine .inr ⟨h2,?_⟩;rw[List.getD_eq_getElem?_getD,Iq Qo,<-List.getD_eq_getElem?_getD];exact h3
  ·have hj':j=pre.length:=by
    have:j<(pre++[o']).length:=(I9.1 ho).1;simp at this; omega
   subst hj';simp only[List.getElem?_concat_length,I1] at ho;subst ho;rw[<-hl] at hb;rw[List.getD_eq_getElem?_getD,List.getElem?_concat_length] at hb;simp only[Option.getD_some] at hb;rcases zb0 _ _ hb with h1 | ⟨e,he,gL,h2⟩
   ·simp at h1
   ·refine⟨e,he,gL,?_⟩;rcases h2 with h2 | h2
    ·exact .inl h2
    ·have IU:e.on<acc.length:=by
      rcases Nat.lt_or_ge e.on acc.length with h' | h'
      ·exact h'
      ·rw[List.getD_eq_getElem?_getD,List.getElem?_eq_none h'] at h2; simp at h2
     refine .inr ⟨Qo,?_⟩;rw[List.getD_eq_getElem?_getD,Iq IU,<-List.getD_eq_getElem?_getD];exact h2
theorem znh{ops:Array Oper}(Rt:Array Bool)(i j:Nat)(tP:Dh ops Rt)(hi:i∈Region.ready .any ops Rt)(hj:j∈Region.ready .any ops Rt)(_:i≠j):zii (Te ops.toList []) i j=true:=by
 unfold zii;rw[ID];rw[Bool.eq_false_iff];intro hb;have CI7:=EQ ops.toList [] [] rfl (λj o ho=>by simp at ho);simp only[List.nil_append] at CI7;have vZ:=(mem_ready.1 hi).1
 have no:Rt.getD i false≠true:=λh=>by
  rcases Nat.lt_or_ge i Rt.size with h' | h'
  ·simp[h'] at h vZ; rw[h] at vZ; cases vZ
  ·simp[Array.getElem?_eq_none h'] at h
 have key:∀k:Nat,∀o,ops[k]? = some o->(∀e∈o.after,Region.binds .any e=true->Rt.getD e.on false=true)->((Te ops.toList []).getD k 0).testBit i=true->False:=by
  intro k
  induction k using Nat.strongRecOn with
  | _ k ih=>
   intro o ho qB hb;obtain⟨e,he,gL,h2⟩:=CI7 k o (by simpa using ho) i hb;have he':e∈o.after:=by rw[<-Array.mem_toList_iff]; exact he
   have hl:=qB e he' gL;rcases h2 with h2 | ⟨h2,h3⟩
   ·rw[h2] at hl; exact no hl
   ·have IU:e.on<ops.size:=Nat.lt_trans h2 (Array.getElem?_eq_some_iff.1 ho).1;have hoe:ops[e.on]? = some ops[e.on]:=Array.getElem?_eq_getElem IU;refine ih e.on h2 _ hoe (tP e.on _ hoe ?_) h3;rcases Nat.lt_or_ge e.on Rt.size with h' | h'
    ·simp[h'] at hl ⊢; exact hl
    ·simp[Array.getElem?_eq_none h'] at hl
 obtain⟨_,o,ho,qB⟩:=mem_ready.1 hj;exact key j o ho qB hb
def DQ(C:UJ)(ops:Array Oper):List Nat->Option Nat
 | []=>none
 | i::r=>match ops[i]? with
  | some o=>bif Ff C o.op then DQ C ops r else some i
  | none=>DQ C ops r
theorem Ge{C:UJ}{ops:Array Oper}:∀{l:List Nat} {i:Nat},DQ C ops l=some i->i∈l/\∃o,ops[i]? = some o/\Ff C o.op=false
 | [],_,h=>by cases h
 | j::r,i,h=>by
  simp only[DQ] at h
  split at h
  ·rename_i o ho
   cases he:Ff C o.op with
   | true=>
    rw[he] at h;obtain⟨h1,h2⟩:=Ge h;exact⟨I2 _ h1,h2⟩
   | false=>
    rw[he] at h;simp only[cond_false,I1] at h;subst h;exact⟨Ia ..,o,ho,he⟩
  ·obtain⟨h1,h2⟩:=Ge h;exact⟨I2 _ h1,h2⟩
def Nx(M:List Nat)(i:Nat)(S:St)(w:Wo):List (Nat×zeg)->Prop->Prop
 | [],A=>A
 | (j,f)::r,A=>bif zii M j i then f S w/\Nx M i S w r A else Nx M i S w r A
theorem Ld{M:List Nat}{i:Nat}{S:St}{w:Wo}:∀{l:List (Nat×zeg)} {A:Prop},Nx M i S w l A->A/\∀p∈l,zii M p.1 i=true->p.2 S w
 | [],A,h=>⟨h,λp hp=>by cases hp⟩
 | (j,f)::r,A,h=>by
  simp only[Nx] at h
  cases hu:zii M j i with
  | true=>
   rw[hu] at h;obtain⟨h1,h2⟩:=h;obtain⟨h3,h4⟩:=Ld h2;refine⟨h3,λp hp hpu=>?_⟩;rcases Ij.1 hp with rfl | hp
   ·exact h1
   ·exact h4 p hp hpu
  | false=>
   rw[hu] at h;obtain⟨h3,h4⟩:=Ld (A:=A) h;refine⟨h3,λp hp hpu=>?_⟩;rcases Ij.1 hp with rfl | hp
   ·rw[hu] at hpu; cases hpu
   ·exact h4 p hp hpu
def zn7(l:List Nat)(A:Nat->Prop):Prop:=
 match l with
 | []=>True
 | [i]=>A i
 | i::r=>A i/\zn7 r A
theorem zbs:∀{l:List Nat} {A:Nat->Prop},zn7 l A->∀i∈l,A i
 | [],_,_,_,hi=>by cases hi
 | [j],A,h,i,hi=>by simp only[IA] at hi; subst hi; exact h
 | j::k::r,A,h,i,hi=>by
  rcases Ij.1 hi with rfl | hi
  ·exact h.1
  ·exact zbs h.2 i hi
def zqt(i:Nat)(f:MD)(wT:List (Nat×zeg)):List (Nat×zeg):=
 match f with
 | some f=>(i,f)::wT
 | none=>wT
def DP(C:UJ)(ops:Array Oper)(M:List Nat):Nat->Array Bool->List (Nat×zeg)->St->Wo->(St->Wo->Prop)->Prop
 | 0,Rt,_,S,w,K=>match Region.ready .any ops Rt with
  | []=>K S w
  | _=>False
 | n+1,Rt,wT,S,w,K=>match Region.ready .any ops Rt with
  | []=>K S w
  | rs=>match DQ C ops rs with
   | some i=>match ops[i]? with
    | some o=>bif Region.free .any ops Rt i then zbu C ops (λj=>Rt.getD j false) o S w λf S' w'=>DP C ops M n (Rt.setIfInBounds i true) (zqt i f wT) S' w' K else False
    | none=>False
   | none=>zn7 rs λi=>match ops[i]? with
    | some o=>zbu C ops (λj=>Rt.getD j false) o S w λ_ S' w'=>Nx M i S' w' wT (DP C ops M n (Rt.setIfInBounds i true) wT S' w' K)
    | none=>False
theorem zoa{C:UJ}(E:zps C){ops:Array Oper}{D D':Nat->Prop}{dn:Nat->Bool}{i:Nat}{o:Oper}{S:St}{w:Wo}{a:Act}{K:MD->St->Wo->Prop}(hu:B8 ops=true)(ho:ops[i]? = some o)(hi:¬D i)(hD:∀j,D j->zto ops j)(hDD:∀j,D j->D' j)(hdn:∀j,dn j=true->zto ops j->D j)(hf:MP C.n S ops D a)(WT:LA S)(he:Ff C o.op=false)(h:zbu C ops dn o S w K) :
  ∃f v S',K f S' w/\MP C.n S' ops D' (a.put o.dst v)/\LA S'/\MQ S S'/\S'.r=S.r/\S'.old=S.old/\(∀w wr,Zo S w wr↔Zo S' w wr)/\YS C.P (Zo S w) (V3 ops o a) v/\
   (∀(vX:St) (mD:Wo),MQ S vX->zol f vX mD->YS C.P (Zo vX mD) (V3 ops o a) v):=by
 unfold zbu at h
 cases hb:(z01 dn o && !DC o) with
 | false=>rw[hb] at h; exact h.elim
 | true=>
  rw[hb] at h;simp only[cond_true] at h;simp only[A',ID] at hb
  have hg:∀j b,o.guard=some (j,b)->D j:=λj b hgd=>by
   refine hdn j ?_ ⟨o,by rw[Array.mem_toList_iff]; exact Array.mem_of_getElem? ho,b,hgd⟩;have:=hb.1;unfold z01 at this;rw[hgd] at this;exact this
  split at h
  ·exact h.elim
  ·rename_i pc qA;have AV9:=zow hf qA hg;have qF:=GG hf.fit qA
   have wO:∀{sv:SV} (w wr:Wo),Zo S w wr↔Zo (S.cK o.dst sv) w wr:=λ{sv} w wr=>by
    cases o.dst
    ·exact Iff.rfl
    ·exact⟨λh=>⟨h.ext,h.loc,h.len,h.oX,h.fresh⟩,λh=>⟨h.ext,h.loc,h.len,h.oX,h.fresh⟩⟩
   cases hdd:BI S ops pc o with
   | true=>
    rw[hdd] at h;simp only[cond_true] at h;have hp:=DE hf.fit qA hdd;have xM:¬Region.wanted o (yielded ops a.tmps)=true:=λxM=>hp (qF.1 xM)
    obtain⟨h1,h2⟩:=YI h;have hs:V3 ops o a=none:=by unfold V3; rw[C' xM]
    refine⟨none,undef,_,h1,hf.put hu ho hi hD hDD AV9 h2 ⟨λhp'=>Is hp' hp,λ_=>rfl⟩,WT.cK _ _,(MQ.refl S).cK _ _,by cases o.dst <;> rfl,by cases o.dst <;> rfl,wO,?_,λvX mD vA hfc=>?_⟩ <;> (rw[hs]; rfl)
   | false=>
   rw[hdd] at h;rw[he] at h;simp only[cond_false] at h
   by_cases hp:Eb ops a pc
   ·have xM:=qF.2 hp;obtain⟨e,fact,v,hK,CO7,lZ,hq⟩:=zhd E.T E.pf hf.fit hp h;obtain⟨h1,h2⟩:=YI hK;refine⟨fact,v,_,h1,hf.put hu ho hi hD hDD AV9 h2 ⟨λ_=>CO7,λhn=>Is hp hn⟩,WT.cK _ _,(MQ.refl S).cK _ _,by cases o.dst <;> rfl,by cases o.dst <;> rfl,wO,?_,λvX mD vA hfc=>?_⟩
    ·unfold V3; rw[E' xM]; exact λwr hw=>hq S w a rfl (λ_ _ h=>h) lZ wr hw
    ·unfold V3; rw[E' xM]; exact λwr hw=>hq vX mD a rfl vA.B hfc wr hw
   ·have xM:¬Region.wanted o (yielded ops a.tmps)=true:=λxM=>hp (qF.1 xM)
    obtain⟨e,fact,hK⟩:=zlm h;obtain⟨h1,h2⟩:=YI hK;have hs:V3 ops o a=none:=by unfold V3; rw[C' xM]
    refine⟨fact,undef,_,h1,hf.put hu ho hi hD hDD AV9 h2 ⟨λhp'=>Is hp' hp,λ_=>rfl⟩,WT.cK _ _,(MQ.refl S).cK _ _,by cases o.dst <;> rfl,by cases o.dst <;> rfl,wO,?_,λvX mD vA hfc=>?_⟩ <;> (rw[hs]; rfl)
def zur(C:UJ)(ops:Array Oper)(draw:Bool)(S:St)(w:Wo)(K:St->Wo->Prop):Prop:=
 bif B8 ops then
  (bif draw then
   (bif Region.noSelect ops then DP C ops (Te ops.toList []) ops.size (Array.replicate ops.size false) [] { S with r:=S.r+1 } w λS' w'=>K { S' with r:=S'.r+1 } w' else False)
  else zus C ops ops.toList 0 { S with r:=S.r+1 } w λS' w'=>K { S' with r:=S'.r+1 } w')
 else False
structure TL (n:Nat) (S:St) (a:Act):Prop where
 size:a.tmps.size=n
 fits:∀i x,S.F.get i=some (.un x)->EV.den S x (a.tmps.getD i undef)
 old:∀i r pc x,S.F.get i=some (.gd r pc x)->r<S.r
theorem TL.enter{n:Nat}{S:St}{a:Act}(h:TL n S a)(ops:Array Oper)(D:Nat->Prop):MP n { S with r:=S.r+1 } ops D a:=
 ⟨⟨h.size,λi s hs=>by
  cases s with
  | un x=>exact EV.iO (S:=S) (λ_ _ h=>h) (h.fits i x hs)
  | gd r pc x=>intro hr; have:=h.old i r pc x hs; simp only at hr; omega⟩,λi pc x hx=>by have:=h.old i _ pc x hx; simp only at this; omega,λi r pc x hx=>by have:=h.old i r pc x hx; show r<=S.r+1; omega⟩
theorem MP.leave{n:Nat}{S:St}{ops:Array Oper}{D:Nat->Prop}{a:Act}(h:MP n S ops D a):TL n { S with r:=S.r+1 } a:=
 ⟨h.fit.size,λi x hx=>EV.iO (S:=S) (λ_ _ h=>h) (h.fit.fits i (.un x) hx),λi r pc x hx=>Nat.lt_succ_of_le (h.st i r pc x hx)⟩
theorem zr4{C:UJ}{ops:Array Oper}{D D':Nat->Prop}{dn:Nat->Bool}{i:Nat}{o:Oper}{S:St}{w:Wo}{a:Act}{K:MD->St->Wo->Prop}(hu:B8 ops=true)(ho:ops[i]? = some o)(hi:¬D i)(hD:∀j,D j->zto ops j)(hDD:∀j,D j->D' j)(hdn:∀j,dn j=true->zto ops j->D j)(hf:MP C.n S ops D a)(WT:LA S)(he:Ff C o.op=true)(xM:¬Region.wanted o (yielded ops a.tmps)=true)(h:zbu C ops dn o S w K) :
  ∃S',K none S' w/\MP C.n S' ops D' (a.put o.dst undef)/\LA S'/\MQ S S'/\S'.r=S.r/\S'.old=S.old/\(∀w wr,Zo S w wr↔Zo S' w wr):=by
 unfold zbu at h
 cases hb:(z01 dn o && !DC o) with
 | false=>rw[hb] at h; exact h.elim
 | true=>
  rw[hb] at h;simp only[cond_true] at h;simp only[A',ID] at hb
  have hg:∀j b,o.guard=some (j,b)->D j:=λj b hgd=>by
   refine hdn j ?_ ⟨o,by rw[Array.mem_toList_iff]; exact Array.mem_of_getElem? ho,b,hgd⟩;have:=hb.1;unfold z01 at this;rw[hgd] at this;exact this
  split at h
  ·exact h.elim
  ·rename_i pc qA;have AV9:=zow hf qA hg;have qF:=GG hf.fit qA
   have wO:∀{sv:SV} (w wr:Wo),Zo S w wr↔Zo (S.cK o.dst sv) w wr:=λ{sv} w wr=>by
    cases o.dst
    ·exact Iff.rfl
    ·exact⟨λh=>⟨h.ext,h.loc,h.len,h.oX,h.fresh⟩,λh=>⟨h.ext,h.loc,h.len,h.oX,h.fresh⟩⟩
   cases hdd:BI S ops pc o with
   | true=>
    rw[hdd] at h;simp only[cond_true] at h;have hp:=DE hf.fit qA hdd;obtain⟨h1,h2⟩:=YI h;exact⟨_,h1,hf.put hu ho hi hD hDD AV9 h2 ⟨λhp'=>Is hp' hp,λ_=>rfl⟩,WT.cK _ _,(MQ.refl S).cK _ _,by cases o.dst <;> rfl,by cases o.dst <;> rfl,wO⟩
   | false=>
   rw[hdd] at h;simp only[cond_false] at h;rw[he] at h;simp only[cond_true] at h
   split at h
   ·exact Is (qF.2 (λp hp=>by cases hp)) xM
   ·cases hpo:zsy S ops pc with
    | false=>rw[hpo] at h; exact h.elim
    | true=>
     rw[hpo] at h;simp only[cond_true] at h;have hp:¬Eb ops a pc:=λhp=>xM (qF.2 hp)
     obtain⟨h1,h2⟩:=YI (h.2 (zjq hf.fit hpo hp));exact⟨_,h1,hf.put hu ho hi hD hDD AV9 h2 ⟨λhp'=>Is hp' hp,λ_=>rfl⟩,WT.cK _ _,(MQ.refl S).cK _ _,by cases o.dst <;> rfl,by cases o.dst <;> rfl,wO⟩
theorem Gd{C:UJ}{ops:Array Oper}:∀{l:List Nat},DQ C ops l=none->∀i∈l,∀o,ops[i]? = some o->Ff C o.op=true
 | [],_,i,hi,_,_=>by cases hi
 | j::r,h,i,hi,o,ho=>by
  simp only[DQ] at h
  split at h
  ·rename_i o' ho'
   cases he:Ff C o'.op with
   | false=>rw[he] at h; cases h
   | true=>
    rw[he] at h;rcases Ij.1 hi with rfl | hi
    ·rw[ho'] at ho; cases ho; exact he
    ·exact Gd h i hi o ho
  ·rename_i ho';rcases Ij.1 hi with rfl | hi
   ·rw[ho'] at ho; cases ho
   ·exact Gd h i hi o ho
theorem zjh{ops:Array Oper}{i:Nat}{o:Oper}(ho:ops[i]? = some o):∀x,o.dst=some x->x∈Ga ops.toList:=λx hx=>by
 have hm:o∈ops.toList:=by rw[Array.mem_toList_iff]; exact Array.mem_of_getElem? ho
 generalize ops.toList=q at hm
 induction q with
 | nil=>cases hm
 | cons y q ih=>
  simp only[Ga];rcases Ij.1 hm with rfl | hm
  ·rw[hx]; exact Ia ..
  ·split
   ·exact I2 _ (ih hm)
   ·exact ih hm
def DL(ops:Array Oper)(Rt:Array Bool)(j:Nat):Prop:=Rt.getD j false=true/\zto ops j
def PQ(C:UJ)(ops:Array Oper)(K:St->Wo->Prop)(S0:St)(w0:Wo)(a0:Act)(ds:List Nat)(a:Act)(R:Wo->Prop):Prop:=
 ∃S' w',K S' w'/\TL C.n { S' with r:=S'.r+1 } a/\LA S'/\MQ S0 S'/\S'.r=S0.r/\Dj ds a0 a/\(C.pm=true->w'=w0/\S'.old=S0.old)/\R=Zo S' w'
theorem PJ{C:UJ}(E:zps C){ops:Array Oper}(hu:B8 ops=true)(BU9:Region.noSelect ops=true){K:St->Wo->Prop}{S0:St}{w0:Wo}{a0:Act}{ds:List Nat}(hds:∀x∈Ga ops.toList,x∈ds) :
  ∀(n:Nat) (Rt:Array Bool) (wT:List (Nat×zeg)) (Pd:List (Nat×Option (Sem Next)×Va)) (S:St) (w:Wo) (a:Act),DP C ops (Te ops.toList []) n Rt wT S w K->Dh ops Rt->
   MP C.n S ops (DL ops Rt) a->LA S->MQ S0 S->S.r=S0.r->Dj ds a0 a->(C.pm=true->w=w0/\S.old=S0.old)->
   (∀p∈Pd,(∃f:zeg,(p.1,f)∈wT/\∀(vX:St) (mD:Wo),MQ S vX->f vX mD->YS C.P (Zo vX mD) p.2.1 p.2.2)\/(∀(vX:St) (mD:Wo),MQ S vX->YS C.P (Zo vX mD) p.2.1 p.2.2))->
   H2 C.P ops (zii (Te ops.toList [])) (PQ C ops K S0 w0 a0 ds) n Rt Pd a (Zo S w)
 | 0,Rt,wT,Pd,S,w,a,h,tP,hf,WT,vA,hr,hfa,lK,hpd=>by
  simp only[DP] at h
  split at h
  ·rename_i hrd;exact⟨hrd,S,w,h,hf.leave,WT,vA,hr,hfa,lK,rfl⟩
  ·exact h.elim
 | n+1,Rt,wT,Pd,S,w,a,h,tP,hf,WT,vA,hr,hfa,lK,hpd=>by
  simp only[DP] at h
  split at h
  ·rename_i hrd;exact⟨λ_=>⟨S,w,h,hf.leave,WT,vA,hr,hfa,lK,rfl⟩,λi hi=>by rw[hrd] at hi; cases hi⟩
  ·rename_i hrd
   split at h
   ·rename_i i hi;obtain⟨him,o',ho',he⟩:=Ge hi
    split at h
    ·rename_i o ho;rw[ho] at ho'; cases ho'
     cases vB:Region.free .any ops Rt i with
     | false=>rw[vB] at h; exact h.elim
     | true=>
      rw[vB] at h;simp only[cond_true] at h;obtain⟨hun,_,_,qB⟩:=mem_ready.1 him
      have hni:¬DL ops Rt i:=λhd=>by
       have h1:=hd.1;rcases Nat.lt_or_ge i Rt.size with h' | h'
       ·simp[h'] at h1 hun; rw[h1] at hun; cases hun
       ·simp[Array.getElem?_eq_none h'] at h1
      obtain⟨f,v,S',hK,hf',A92,sR,hr',B00,wO,hys,hyf⟩:=zoa E (i:=i) (D':=DL ops (Rt.setIfInBounds i true)) hu ho hni (λj hj=>hj.2) (λj hj=>⟨getD_set_true hj.1,hj.2⟩) (λj h1 h2=>⟨h1,h2⟩) hf WT he h
      have BT7:Dh ops (Rt.setIfInBounds i true):=λk ok hk uG e he hb=>by
       by_cases hik:i=k
       ·subst hik;rw[ho] at hk; cases hk;obtain⟨_,o2,ho2,Cc5⟩:=mem_ready.1 him;rw[ho] at ho2; cases ho2;exact getD_set_true (Cc5 e he hb)
       ·rw[getD_set_ne true hik] at uG;exact getD_set_true (tP k ok hk uG e he hb)
      have heq:Zo S w=Zo S' w:=funext λwr=>propext (wO w wr)
      refine zpj (λj o cs b hj=>Region.noSelect_spec BU9 j o cs b hj) (λRt i j h1 h2 h3 h4=>znh Rt i j h1 h2 h3 h4) ho n Rt Pd a (Zo S w) tP (λj oj hj hji CA6 jH=>Region.free_spec ho vB j oj hj hji CA6 jH) him hys ?_;rw[heq];refine PJ E hu BU9 hds n _ (zqt i f wT) _ S' w _ hK BT7 hf' A92 (vA.trans sR) (hr'.trans hr) (hfa.trans (Dj.put a _ v ds λx hx=>hds x (zjh ho x hx))) (λhp=>⟨(lK hp).1,B00.trans (lK hp).2⟩) λp hp=>?_
      rcases Ij.1 hp with rfl | hp
      ·cases f with
       | none=>exact .inr λvX mD hs=>hyf vX mD (sR.trans hs) trivial
       | some f=>exact .inl ⟨f,Ia ..,λvX mD hs hfc=>hyf vX mD (sR.trans hs) hfc⟩
      ·rcases hpd p hp with ⟨f',hm,hs'⟩ | hs'
       ·refine .inl ⟨f',?_,λvX mD hs hfc=>hs' vX mD (sR.trans hs) hfc⟩
        cases f with
        | none=>exact hm
        | some f=>exact I2 _ hm
       ·exact .inr λvX mD hs=>hs' vX mD (sR.trans hs)
    ·exact h.elim
   ·rename_i AV8;refine⟨λh0=>Is h0 (by assumption),λi hi o ho=>?_⟩;have h1:=zbs h i hi;rw[ho] at h1;simp only at h1;have he:=Gd AV8 i hi o ho;obtain⟨hun,o2,ho2,qB⟩:=mem_ready.1 hi;rw[ho] at ho2; cases ho2
    have hni:¬DL ops Rt i:=λhd=>by
     have h1:=hd.1;rcases Nat.lt_or_ge i Rt.size with h' | h'
     ·simp[h'] at h1 hun; rw[h1] at hun; cases hun
     ·simp[Array.getElem?_eq_none h'] at h1
    have BT7:Dh ops (Rt.setIfInBounds i true):=λk ok hk uG e he hb=>by
     by_cases hik:i=k
     ·subst hik;rw[ho] at hk; cases hk;exact getD_set_true (qB e he hb)
     ·rw[getD_set_ne true hik] at uG;exact getD_set_true (tP k ok hk uG e he hb)
    by_cases xM:Region.wanted o (yielded ops a.tmps)=true
    case neg=>
     obtain⟨S',hK,hf',A92,sR,hr',B00,wO⟩:=zr4 (i:=i) (D':=DL ops (Rt.setIfInBounds i true)) hu ho hni (λj hj=>hj.2) (λj hj=>⟨getD_set_true hj.1,hj.2⟩) (λj h1 h2=>⟨h1,h2⟩) hf WT he xM h1;obtain⟨hev,_⟩:=Ld hK;have heq:Zo S w=Zo S' w:=funext λwr=>propext (wO w wr)
     have hs0:V3 ops o a=none:=by unfold V3; rw[C' xM]
     refine .inl ⟨undef,by rw[hs0]; rfl,?_⟩;rw[heq];refine PJ E hu BU9 hds n _ wT _ S' w _ hev BT7 hf' A92 (vA.trans sR) (hr'.trans hr) (hfa.trans (Dj.put a _ _ ds λx hx=>hds x (zjh ho x hx))) (λhp=>⟨(lK hp).1,B00.trans (lK hp).2⟩) λp hp=>?_
     rcases Ij.1 hp with rfl | hp
     ·exact .inr λvX mD hs=>by rw[hs0]; rfl
     ·rcases hpd p hp with ⟨f',hm,hs'⟩ | hs'
      ·exact .inl ⟨f',hm,λvX mD hs hfc=>hs' vX mD (sR.trans hs) hfc⟩
      ·exact .inr λvX mD hs=>hs' vX mD (sR.trans hs)
    refine .inr ⟨xM,λwr wQ=>?_⟩
    have dF:=zbv E (i:=i) (D':=DL ops (Rt.setIfInBounds i true))
     (N:=λa' w'=>(∃v,a'=a.put o.dst v)/\∃S' mD,Nx (Te ops.toList []) i S' mD wT (DP C ops (Te ops.toList []) n (Rt.setIfInBounds i true) wT S' mD K)/\zzx C S w ops (DL ops (Rt.setIfInBounds i true)) o a S' mD a' w') (Q:=λ_ _ _=>False)
     hu ho hni (λj hj=>hj.2) (λj hj=>⟨getD_set_true hj.1,hj.2⟩) (λj h1 h2=>⟨h1,h2⟩) hf wQ WT (λf S' w' a' Wy hK hL=>⟨hL.put,S',w',hK,hL⟩) h1
    rw[E' xM] at dF;refine BQ (λv w' hN=>?_) (zn8 (zx4 h1) dF λa' w' hN=>hN.1);obtain⟨_,S',mD,hpo,hL⟩:=hN;obtain⟨hev,CO9⟩:=Ld hpo;refine⟨Zo S' mD,hL.rel,λp hp hpu=>?_,PJ E hu BU9 hds n _ wT Pd S' mD _ hev BT7 hL.fit hL.wf (vA.trans hL.fr) (hL.r.trans hr) (hfa.trans (Dj.put a o.dst v ds λx hx=>hds x (zjh ho x hx))) (λhp=>⟨(hL.pm hp).1.trans (lK hp).1,(hL.pm hp).2.trans (lK hp).2⟩) λp hp=>?_⟩
    ·rcases hpd p hp with ⟨f',hm,hs'⟩ | hs'
     ·exact hs' S' mD hL.fr (CO9 _ hm hpu)
     ·exact hs' S' mD hL.fr
    ·rcases hpd p hp with ⟨f',hm,hs'⟩ | hs'
     ·exact .inl ⟨f',hm,λvX w3 hs hfc=>hs' vX w3 (hL.fr.trans hs) hfc⟩
     ·exact .inr λvX w3 hs=>hs' vX w3 (hL.fr.trans hs)
structure Ya where
 wK:List (Nat×CK)
 WM:List (Nat×List CK)
 pE:List Nat
 bE:List (TypeId×List CK):=[]
 ptr:List (Nat×Nat):=[]
def X9:Code->List Nat
 | .region _ ops _=>Ga ops.toList
 | .seq a b=>X9 a++X9 b
 | .cond _ a b=>X9 a++X9 b
 | .block _ b=>X9 b
 | .loop b=>X9 b
 | .scope b=>X9 b
 | _=>[]
def Ft:Code->Option Nat
 | .region id _ _=>some id
 | .seq a b=>match Ft a with
  | some k=>some k
  | none=>Ft b
 | .cond _ a b=>match Ft a with
  | some k=>some k
  | none=>Ft b
 | .block _ b=>Ft b
 | .loop b=>Ft b
 | .scope b=>Ft b
 | _=>none
def zoo:CK->Va->Bool
 | .int k,.int k' _=>decide (k=k')
 | .bool,.bool _=>true
 | .str,.string _=>true
 | .slice,.slice _ _ _=>true
 | .ptr,.pointer _=>true
 | .fn,.func _ _ _=>true
 | .iface,_=>true
 | .map,_=>true
 | .other,_=>true
 | _,_=>false
def z2f:CK->(Va->Prop)->Prop
 | .int k,K=>∀n:Int,K (.int k n)
 | .bool,K=>∀b:Bool,K (.bool b)
 | .str,K=>∀s:ByteArray,K (.string s)
 | .slice,K=>∀(o:OA) (l c:Nat),K (.slice o l c)
 | .ptr,K=>∀o:OA,K (.pointer o)
 | .fn,K=>∀(f:Fn) (a c:Array Va),K (.func f a c)
 | _,K=>∀v:Va,K v
def EP:List CK->(List Va->Prop)->Prop
 | [],K=>K []
 | k::r,K=>z2f k λv=>EP r λl=>K (v::l)
theorem zty{k:CK}{K:Va->Prop}(h:z2f k K){v:Va}(hv:zoo k v=true):K v:=by
 cases k <;> cases v <;> simp only[zoo] at hv <;> first
  | exact h _
  | exact h _ _ _
  | (cases hv; done)
  | (simp only[Ik] at hv; subst hv; exact h _)
def Uk:List CK->List Va->Bool
 | [],[]=>true
 | k::r,v::l=>zoo k v&&Uk r l
 | _,_=>false
theorem O1:∀{ks:List CK} {K:List Va->Prop} {vs:List Va},EP ks K->Uk ks vs=true->K vs
 | [],_,[],h,_=>h
 | k::r,K,v::l,h,hk=>by
  simp only[Uk,A'] at hk;exact O1 (K:=λl=>K (v::l)) (zty (K:=λv=>EP r λl=>K (v::l)) h hk.1) hk.2
 | [],_,_::_,_,hk=>by simp[Uk] at hk
 | _::_,_,[],_,hk=>by simp[Uk] at hk
def GZ(S:St):List (Nat×CK)->Option (List Va)
 | []=>some []
 | (i,_)::r=>match S.F.get i with
  | some (.un e)=>match zzz S e,GZ S r with
   | some x,some l=>some (x::l)
   | _,_=>none
  | _=>none
def KK(S:St):List (Nat×List CK)->Option (List Va)
 | []=>some []
 | (id,ks)::r=>match S.L[id]?,KK S r with
  | some (_,cs),some l=>bif Nat.beq cs.length ks.length then some (cs++l) else none
  | _,_=>none
def Ya.ks(sp:Ya):List CK:=sp.wK.map (·.2)++sp.WM.flatMap (·.2)
def zb7(S:St)(sp:Ya)(K:List Va->Prop):Prop:=
 match GZ S sp.wK,KK S sp.WM with
 | some xs,some ys=>bif Uk sp.ks (xs++ys) then K (xs++ys) else False
 | _,_=>False
def zhj(F:PT SV):List Nat->PT SV
 | []=>.leaf
 | i::r=>match F.get i with
  | some (.un e)=>PT.set 12 (zhj F r) i (.un e)
  | _=>zhj F r
def zq3(F:PT SV):List (Nat×CK)->List Va->PT SV
 | (i,_)::r,v::vs=>PT.set 12 (zq3 F r vs) i (.un (.v v))
 | _,_=>F
def Vr(L:List (TypeId×List Va)):List (Nat×List CK)->List Va->List (TypeId×List Va)
 | [],_=>L
 | (id,ks)::r,vs=>match L[id]? with
  | some (t,_)=>Vr (L.set id (t,vs.take ks.length)) r (vs.drop ks.length)
  | none=>Vr L r (vs.drop ks.length)
def De(S:St)(sp:Ya):List Nat:=(List.range S.L.length).filter λid => !Ka (sp.WM.map (·.1)) id
def YH(S:St)(sp:Ya)(vs:List Va):St:=
 { S with F:=zq3 (zhj S.F sp.pE) sp.wK (vs.take sp.wK.length),L:=Vr S.L sp.WM (vs.drop sp.wK.length),lk:=De S sp }
def zc6:List Nat->Bool
 | []=>true
 | x::r => !Ka r x&&zc6 r
def ztd(S:St)(sp:Ya)(ds:List Nat):Bool:=
 (sp.pE.all λi => !Ka ds i&&Nat.blt i 4000)&&(sp.wK.all λp=>Nat.blt p.1 4000 && !Ka sp.pE p.1)&&zc6 (sp.wK.map (·.1))&&zc6 (sp.WM.map (·.1))&&(sp.WM.all λp=>match S.L[p.1]? with
  | some (_,cs)=>Nat.beq cs.length p.2.length && !Ka S.lk p.1
  | none=>false)
def Ya.nks(sp:Ya):List CK:=sp.bE.flatMap (·.2)
def zpv:Nat->(List Nat->Prop)->Prop
 | 0,K=>K []
 | n+1,K=>∀b:Nat,zpv n λl=>K (b::l)
theorem BC:∀{n:Nat} {K:List Nat->Prop} {bs:List Nat},zpv n K->bs.length=n->K bs
 | 0,_,[],h,_=>h
 | n+1,K,b::l,h,hl=>BC (K:=λl=>K (b::l)) (h b) (by simpa using hl)
 | 0,_,_::_,_,hl=>by simp at hl
 | _+1,_,[],_,hl=>by simp at hl
def GB:List (TypeId×List CK)->List Va->List (TypeId×List Va)
 | [],_=>[]
 | (t,ks)::r,vs=>(t,vs.take ks.length)::GB r (vs.drop ks.length)
def zhr(S:St):Nat->List (TypeId×List CK)->Option (List Va)
 | _,[]=>some []
 | n,(t,ks)::r=>match S.L[n]?,zhr S (n+1) r with
  | some (t',cs),some l=>bif Nat.beq t' t&&Nat.beq cs.length ks.length then some (cs++l) else none
  | _,_=>none
def zhy(S:St)(n k:Nat)(l:List (Nat×Nat)):Bool:=l.all λp=>Nat.blt p.1 4000&&Nat.blt p.2 k&&match S.F.get p.1 with
 | some (.un (.loc id 0))=>Nat.beq id (n+p.2)
 | _=>false
def zq2(F:PT SV)(n:Nat):List (Nat×Nat)->PT SV
 | []=>F
 | (i,j)::r=>PT.set 12 (zq2 F n r) i (.un (.loc (n+j) 0))
def D6(S:St)(sp:Ya)(vs zs:List Va)(bs:List Nat):St:=
 { F:=zq2 (YH S sp vs).F S.L.length sp.ptr,L:=(YH S sp vs).L++GB sp.bE zs,B:=S.B++bs,old:=S.old,lk:=S.lk,r:=S.r }
def zqe(S S':St)(sp:Ya)(K:List Va->List Nat->Prop):Prop:=
 match zhr S' S.L.length sp.bE with
 | some zs=>bif Uk sp.nks zs&&zhy S' S.L.length sp.bE.length sp.ptr then zb7 S' sp λvs=>K (vs++zs) ((S'.B.drop S.B.length).take sp.bE.length) else False
 | none=>False
def z2o(sps:List (Nat×Ya))(b:Code):Option Ya:=match sps with
 | []=>none
 | _=>match Ft b with
  | some k=>znz sps (k+1000000)
  | none=>none
def uA(S:St)(c:Operand)(x:Bool):St:=
 match c with
 | .tmp t=>bif Nat.blt t 4000 then { S with F:=PT.set 12 S.F t (.un (.kb x)) } else S
 | _=>S
def Bd(C:UJ)(sps:List (Nat×Ya)):Code->St->Wo->(Exit->St->Wo->Prop)->Prop
 | .skip,S,w,K=>K .normal S w
 | .label _,S,w,K=>K .normal S w
 | .region _ ops d,S,w,K=>zur C ops d S w (K .normal)
 | .seq a b,S,w,K=>match z2o sps b with
  | none=>Bd C sps a S w λe S' w'=>match e with
   | .normal=>Bd C sps b S' w' K
   | e=>K e S' w'
  | some sp=>bif ztd S sp (X9 a) then
    bif C.pm then
     ∃lX:List Va->List Nat->Prop,(Bd C sps a { S with lk:=De S sp } w λe S' w'=>match e with
       | .normal=>zqe S S' sp lX
       | e=>K e { S' with lk:=S.lk } w')/\
      EP sp.ks λvs=>EP sp.nks λzs=>zpv sp.bE.length λbs=>lX (vs++zs) bs->Bd C sps b (D6 S sp vs zs bs) w K
    else
     ∃lX:List Va->List Nat->Wo->Prop,(Bd C sps a { S with lk:=De S sp } w λe S' w'=>match e with
       | .normal=>∀wr,Q0 S'.bs w' wr->(∀b∈S'.B,b<wr.heap.size)->zqe S S' sp λvs bs=>lX vs bs wr
       | e=>K e { S' with lk:=S.lk } w')/\
      EP sp.ks λvs=>EP sp.nks λzs=>zpv sp.bE.length λbs=>∀w1,(∀b∈S.B++bs,b<w1.heap.size)->lX (vs++zs) bs w1->Bd C sps b (D6 S sp vs zs bs).cQ w1 K
   else False
 | .cond c a b,S,w,K=>match zee S [] c with
  | some (.kb true)=>Bd C sps a S w K
  | some (.kb false)=>Bd C sps b S w K
  | some (.v (.bool x))=>(x=true->Bd C sps a (uA S c true) w K)/\(x=false->Bd C sps b (uA S c false) w K)
  | _=>False
 | .block id b,S,w,K=>Bd C sps b S w λe S' w'=>match e with
  | .exit id'=>bif Nat.beq id' id then K .normal S' w' else K e S' w'
  | e=>K e S' w'
 | .scope b,S,w,K=>Bd C sps b S w λe S' w'=>match e with
  | .goto _=>False
  | e=>K e S' w'
 | .exit id,S,w,K=>K (.exit id) S w
 | .ret,S,w,K=>K .ret S w
 | .loop b,S,w,K=>match Ft b with
  | none=>False
  | some key=>match znz sps key with
   | none=>False
   | some sp=>bif ztd S sp (X9 b) then
     bif C.pm then
      ∃(JS:List Va->Prop) (μ:List Va->Nat),zb7 S sp JS/\EP sp.ks λvs=>JS vs->Bd C sps b (YH S sp vs) w λe S' w'=>match e with
       | .normal=>zb7 S' sp λvs'=>JS vs'/\μ vs'<μ vs
       | e=>K e { S' with lk:=S.lk } w'
     else
      ∃(JS:List Va->Wo->Prop) (μ:List Va->Wo->Nat),(∀wr,Q0 S.bs w wr->(∀b∈S.B,b<wr.heap.size)->zb7 S sp λvs=>JS vs wr)/\
       EP sp.ks λvs=>∀w1,(∀b∈S.B,b<w1.heap.size)->JS vs w1->Bd C sps b (YH S.cQ sp vs) w1 λe S' w'=>match e with
       | .normal=>∀wr,Q0 S'.bs w' wr->(∀b∈S'.B,b<wr.heap.size)->zb7 S' sp λvs'=>JS vs' wr/\μ vs' wr<μ vs w1
       | e=>K e { S' with lk:=S.lk } w'
    else False
 | _,_,_,_=>False
structure PS (C:UJ) (S:St) (w:Wo) (ds:List Nat) (a:Act) (S':St) (w':Wo) (a':Act) (Wy:Wo):Prop where
 fit:TL C.n S' a'
 rel:Zo S' w' Wy
 wf:LA S'
 fr:MQ S S'
 fra:Dj ds a a'
 pm:C.pm=true->w'=w/\S'.old=S.old
theorem PS.refl{C:UJ}{S:St}{w wr:Wo}{a:Act}(ds:List Nat)(h1:TL C.n S a)(h2:Zo S w wr)(h3:LA S):PS C S w ds a S w a wr:=⟨h1,h2,h3,MQ.refl S,Dj.refl _ _,λ_=>⟨rfl,rfl⟩⟩
theorem PS.trans{C:UJ}{S S1 S2:St}{w w1 w2 M' O':Wo}{ds es fs:List Nat}{a a1 a2:Act}(h:PS C S w ds a S1 w1 a1 M')(k:PS C S1 w1 es a1 S2 w2 a2 O')(hd:∀x∈ds,x∈fs)(he:∀x∈es,x∈fs):PS C S w fs a S2 w2 a2 O':=
 ⟨k.fit,k.rel,k.wf,h.fr.trans k.fr,(h.fra.mono hd).trans (k.fra.mono he),λhp=>⟨(k.pm hp).1.trans (h.pm hp).1,(k.pm hp).2.trans (h.pm hp).2⟩⟩
theorem PS.mono{C:UJ}{S S1:St}{w w1 M':Wo}{ds fs:List Nat}{a a1:Act}(h:PS C S w ds a S1 w1 a1 M')(hd:∀x∈ds,x∈fs):PS C S w fs a S1 w1 a1 M':=
 ⟨h.fit,h.rel,h.wf,h.fr,h.fra.mono hd,h.pm⟩
theorem zll{C:UJ}(E:zps C){id:Nat}{ops:Array Oper}{d:Bool}{S:St}{w wr:Wo}{a:Act}{K:St->Wo->Prop}{Q:Exit->Act->Wo->Prop}(h:zur C ops d S w K)(hf:TL C.n S a)(hw:Zo S w wr)(WT:LA S)(hQ:∀S' w' a' Wy,K S' w'->PS C S w (Ga ops.toList) a S' w' a' Wy->Q .normal a' Wy):(Code.region id ops d).wpIn (T7 C.rd) 0 C.P Q a wr:=by
 unfold zur at h
 cases hu:B8 ops with
 | false=>rw[hu] at h; exact h.elim
 | true=>
  rw[hu] at h;simp only[cond_true] at h;have wO:∀{S1:St} {w1 M':Wo},Zo S1 w1 M'->Zo { S1 with r:=S1.r+1 } w1 M':=λh=>⟨h.ext,h.loc,h.len,h.oX,h.fresh⟩
  have Cj2:LA { S with r:=S.r+1 }:=⟨WT.old,WT.lk⟩
  cases d with
  | false=>
   simp only[cond_false] at h;refine wpIn_region_list ?_
   refine NU E hu (S0:={ S with r:=S.r+1 }) (w0:=w) (a0:=a) (ds:=Ga ops.toList) (λx hx=>hx) (λS' w' a' Wy hK hf' hw' A92 sR hr' CO8 CQ0=>?_) ops.toList 0 _ w wr a (λj=>by simp) Qs h
    (hf.enter ops _) (wO hw) Cj2 (MQ.refl _) rfl (Dj.refl _ _) (λ_=>⟨rfl,rfl⟩)
   exact hQ _ _ _ _ hK ⟨hf'.leave,wO hw',⟨A92.old,A92.lk⟩,⟨sR.B,sR.ty,sR.lk⟩,CO8,CQ0⟩
  | true=>
   simp only[cond_true] at h
   cases hs:Region.noSelect ops with
   | false=>rw[hs] at h; exact h.elim
   | true=>
    rw[hs] at h;simp only[cond_true] at h
    have hp:=PJ E hu hs (S0:={ S with r:=S.r+1 }) (w0:=w) (a0:=a) (ds:=Ga ops.toList) (λx hx=>hx) ops.size (Array.replicate ops.size false) [] [] _ w a h
     (λj o _ hl=>by
      rcases Nat.lt_or_ge j ops.size with h' | h'
      ·simp[h'] at hl
      ·rename_i ho; rw[Array.getElem?_eq_none h'] at ho; cases ho)
     (hf.enter ops _) Cj2 (MQ.refl _) rfl (Dj.refl _ _) (λ_=>⟨rfl,rfl⟩) (λp hp=>by cases hp)
    refine wpIn_region_any E.mixed (Lh (λa' R w' hPQ hR=>?_) ops.size _ [] a (Zo { S with r:=S.r+1 } w) { wr with drawn:=wr.drawn+1 } ?_ hp)
    ·obtain⟨S',w1,hK,hf',A92,sR,hr',CO8,CQ0,rfl⟩:=hPQ;exact hQ _ _ _ _ hK ⟨hf',wO hR,⟨A92.old,A92.lk⟩,⟨sR.B,sR.ty,sR.lk⟩,CO8,CQ0⟩
    ·exact⟨hw.ext.drawn _,hw.loc,hw.len,hw.oX,hw.fresh⟩
theorem N6{F:PT SV}:∀{l:List Nat} {i:Nat} {sv:SV},(∀x∈l,x<4000)->(zhj F l).get i=some sv->i∈l/\F.get i=some sv/\∃e,sv=.un e
 | [],i,sv,_,h=>by simp[zhj,PT.get] at h
 | k::r,i,sv,hl,h=>by
  have hr:∀x∈r,x<4000:=λx hx=>hl x (I2 _ hx)
  simp only[zhj] at h
  split at h
  ·rename_i e he;rw[PT.mJ _ 12 _ _ _ (by have h1:=hl k (Ia ..); show @LT.lt Nat _ (k+1) (2 ^ 12); omega)] at h
   by_cases hk:k=i
   ·subst hk;rw[E' rfl] at h;simp only[I1] at h;subst h;exact⟨Ia ..,he,e,rfl⟩
   ·rw[C' hk] at h;obtain⟨h1,h2,h3⟩:=N6 hr h;exact⟨I2 _ h1,h2,h3⟩
  ·obtain⟨h1,h2,h3⟩:=N6 hr h;exact⟨I2 _ h1,h2,h3⟩
theorem zh8{F:PT SV}:∀{wK:List (Nat×CK)} {vs:List Va} {i:Nat} {sv:SV},(∀p∈wK,p.1<4000)->(zq3 F wK vs).get i=some sv->
  (∃(j:Nat) (k:CK) (v:Va),wK[j]? = some (i,k)/\vs[j]? = some v/\sv=.un (.v v))\/F.get i=some sv
 | [],vs,i,sv,_,h=>.inr h
 | (a,k)::r,[],i,sv,_,h=>.inr h
 | (a,k)::r,v::vs,i,sv,hl,h=>by
  have hr:∀p∈r,p.1<4000:=λx hx=>hl x (I2 _ hx)
  simp only[zq3] at h;rw[PT.mJ _ 12 _ _ _ (by have h1:=hl (a,k) (Ia ..); show @LT.lt Nat _ (a+1) (2 ^ 12); simp only at h1; omega)] at h
  by_cases hk:a=i
  ·subst hk;rw[E' rfl] at h;simp only[I1] at h;exact .inl ⟨0,k,v,rfl,rfl,h.symm⟩
  ·rw[C' hk] at h;rcases zh8 hr h with ⟨j,k',v',h1,h2,h3⟩ | h1
   ·exact .inl ⟨j+1,k',v',by simpa using h1,by simpa using h2,h3⟩
   ·exact .inr h1
theorem UZ{S:St}:∀{wK:List (Nat×CK)} {xs:List Va},GZ S wK=some xs->xs.length=wK.length/\∀(j i:Nat) (k:CK) (v:Va),wK[j]? = some (i,k)->xs[j]? = some v->∃e,S.F.get i=some (.un e)/\zzz S e=some v
 | [],xs,h=>by simp only[GZ,I1] at h; subst h; exact⟨rfl,λj i k v hj=>by simp at hj⟩
 | (a,k)::r,xs,h=>by
  simp only[GZ] at h
  split at h
  ·rename_i e he
   split at h
   ·rename_i x l hx hl;simp only[I1] at h; subst h;obtain⟨h1,h2⟩:=UZ hl;refine⟨by simp[h1],λj i k' v hj hv=>?_⟩
    cases j with
    | zero=>
     simp only[Ig,I1,Prod.mk.injEq] at hj hv;obtain⟨rfl,rfl⟩:=hj;subst hv;exact⟨e,he,hx⟩
    | succ j=>exact h2 j i k' v (by simpa using hj) (by simpa using hv)
   ·cases h
  ·cases h
theorem A0:∀{l:List Nat},zc6 l=true->l.Nodup
 | [],_=>List.nodup_nil
 | x::r,h=>by
  simp only[zc6,A',ID] at h;exact List.nodup_cons.2 ⟨Kw h.1,A0 h.2⟩
theorem KE{S':St}:∀{WM:List (Nat×List CK)} {L:List (TypeId×List Va)} {ys:List Va},(WM.map (·.1)).Nodup->KK S' WM=some ys->(∀(id:Nat) (t:TypeId) (cs:List Va),L[id]? = some (t,cs)->∃nX,S'.L[id]? = some (t,nX))->
  (Vr L WM ys).length=L.length/\
  (∀(id:Nat),id∉WM.map (·.1)->(Vr L WM ys)[id]? = L[id]?)/\
  (∀(id:Nat) (t:TypeId) (cs:List Va),id∈WM.map (·.1)->(Vr L WM ys)[id]? = some (t,cs)->S'.L[id]? = some (t,cs))
 | [],L,ys,_,_,_=>⟨rfl,λ_ _=>rfl,λid t cs h=>by cases h⟩
 | (a,ks)::r,L,ys,hnd,hv,hty=>by
  have CB0:=List.nodup_cons.1 (by simpa using hnd:(a::r.map (·.1)).Nodup);simp only[KK] at hv
  split at hv
  ·rename_i t' nX l ha hl
   cases hb:Nat.beq nX.length ks.length with
   | false=>rw[hb] at hv; cases hv
   | true=>
    rw[hb] at hv;simp only[cond_true,I1] at hv;subst hv;have hlen:nX.length=ks.length:=Ic hb;have ht:(nX++l).take ks.length=nX:=by rw[<-hlen]; exact List.take_left
    have hdr:(nX++l).drop ks.length=l:=by rw[<-hlen]; exact List.drop_left
    simp only[Vr]
    cases hLa:L[a]? with
    | none=>
     simp only[hdr];obtain⟨h1,h2,h3⟩:=KE (L:=L) CB0.2 hl hty;refine⟨h1,λid bJ=>h2 id (λh=>bJ (I2 _ h)),λid t cs bJ hc=>?_⟩;rcases Ij.1 bJ with rfl | bJ
     ·rw[h2 _ CB0.1] at hc;rw[hLa] at hc; cases hc
     ·exact h3 id t cs bJ hc
    | some q=>
     obtain⟨t0,c0⟩:=q;simp only[ht,hdr];have IU:a<L.length:=(I9.1 hLa).1;obtain⟨cs1,dK⟩:=hty a t0 c0 hLa;rw[ha] at dK;simp only[I1,Prod.mk.injEq] at dK;obtain⟨rfl,rfl⟩:=dK
     obtain⟨h1,h2,h3⟩:=KE (L:=L.set a (t',nX)) CB0.2 hl (λid t cs hc=>by
      by_cases he:a=id
      ·subst he;rw[List.getElem?_set_self IU] at hc;cases hc;exact⟨_,ha⟩
      ·rw[List.getElem?_set_ne he] at hc;exact hty id t cs hc)
     refine⟨by rw[h1]; simp,λid bJ=>?_,λid t cs bJ hc=>?_⟩
     ·rw[h2 id (λh=>bJ (I2 _ h))];exact List.getElem?_set_ne (λe=>bJ (by subst e; exact Ia ..))
     ·rcases Ij.1 bJ with rfl | bJ
      ·rw[h2 _ CB0.1] at hc;rw[List.getElem?_set_self IU] at hc;cases hc;exact ha
      ·exact h3 id t cs bJ hc
  ·cases hv
structure Es (S:St) (sp:Ya) (ds:List Nat):Prop where
 pE:∀i∈sp.pE,i∉ds/\i<4000
 wK:∀p∈sp.wK,p.1<4000
 nd:(sp.WM.map (·.1)).Nodup
 WM:∀id∈sp.WM.map (·.1),id∉S.lk
theorem zd1{S:St}{sp:Ya}{ds:List Nat}(h:ztd S sp ds=true):Es S sp ds:=by
 simp only[ztd,A',List.all_eq_true,ID] at h;obtain⟨⟨⟨⟨h1,h2⟩,_⟩,h4⟩,h5⟩:=h;refine⟨λi hi=>⟨Kw (h1 i hi).1,Il (h1 i hi).2⟩,λp hp=>Il (h2 p hp).1,A0 h4,λid bJ=>?_⟩;obtain⟨p,hp,rfl⟩:=List.mem_map.1 bJ;have:=h5 p hp
 split at this
 ·simp only[A',ID] at this;exact Kw this.2
 ·cases this
theorem PR{S:St}{sp:Ya}{id:Nat}:id∈De S sp↔id<S.L.length/\id∉sp.WM.map (·.1):=by
 unfold De;simp only[List.mem_filter,List.mem_range,ID];refine and_congr_right λ_=>?_
 constructor
 ·exact Kw
 ·intro h;rw[Bool.eq_false_iff];intro hb;simp only[Ka,List.any_eq_true] at hb;obtain⟨y,hy,he⟩:=hb;exact h (Ic he▸hy)
theorem zb4{n:Nat}{S S':St}{sp:Ya}{ds:List Nat}(hs:Es S sp ds){a a':Act}(hf:TL n S a)(hf':TL n S' a')(hfa:Dj ds a a'){xs ys:List Va}(hx:GZ S' sp.wK=some xs):TL n (YH S sp (xs++ys)) a':=by
 obtain⟨hxl,hxg⟩:=UZ hx;have htk:(xs++ys).take sp.wK.length=xs:=by rw[<-hxl]; exact List.take_left
 have AQ6:∀i sv,(YH S sp (xs++ys)).F.get i=some sv->(∃(j:Nat) (k:CK) (v:Va),sp.wK[j]? = some (i,k)/\xs[j]? = some v/\sv=.un (.v v))\/(i∈sp.pE/\S.F.get i=some sv/\∃e,sv=.un e):=λi sv h=>by
  simp only[YH,htk] at h;rcases zh8 (λp hp=>hs.wK p hp) h with h1 | h1
  ·exact .inl h1
  ·exact .inr (N6 (λx hx=>(hs.pE x hx).2) h1)
 refine⟨hf'.size,λi x h=>?_,λi r pc x h=>?_⟩
 ·rcases AQ6 i _ h with ⟨j,k,v,h1,h2,h3⟩ | ⟨h1,h2,_⟩
  ·obtain⟨e,he,hv⟩:=hxg j i k v h1 h2;have:=CZ hv (hf'.fits i e he);cases h3;exact this
  ·have h3:=hf.fits i x h2;rw[<-hfa.2.2 i (hs.pE i h1).1] at h3;exact EV.iO (S:=S) (λ_ _ h=>h) h3
 ·rcases AQ6 i _ h with ⟨j,k,v,h1,h2,h3⟩ | ⟨h1,h2,e,h3⟩ <;> cases h3
theorem zie{l m:List Nat}{k:Nat}(hk:k<=l.length)(h:∀(i b:Nat),l[i]? = some b->m[i]? = some b):m.take k=l.take k:=by
 apply List.ext_getElem?
 intro i;rw[List.getElem?_take,List.getElem?_take]
 by_cases hi:i<k
 ·rw[E' hi,E' hi];have hl:i<l.length:=Nat.lt_of_lt_of_le hi hk;rw[h i l[i] (Im hl),Im hl]
 ·rw[C' hi,C' hi]
theorem zb5{S S':St}{sp:Ya}{w w' wr Wy:Wo}{ds:List Nat}(hs:Es S sp ds)(hw:Zo S w wr)(hw':Zo S' w' Wy)(hB:∀(id b:Nat),S.B[id]? = some b->S'.B[id]? = some b)(hty:∀(id:Nat) (t:TypeId) (cs:List Va),S.L[id]? = some (t,cs)->∃nX,S'.L[id]? = some (t,nX))(hlk:∀id,id<S.L.length->id∉sp.WM.map (·.1)->S'.L[id]? = S.L[id]?){xs ys:List Va}(hxl:xs.length=sp.wK.length)(hy:KK S' sp.WM=some ys) :
  (YH S sp (xs++ys)).L.length=S.L.length/\∀(id:Nat) (t:TypeId) (cs:List Va),(YH S sp (xs++ys)).L[id]? = some (t,cs)->∃b,S.B[id]? = some b/\Wy.heap[b]? = some (Obj.cells cs.toArray t (0,0)):=by
 have hdr:(xs++ys).drop sp.wK.length=ys:=by rw[<-hxl]; exact List.drop_left
 obtain⟨h1,h2,h3⟩:=KE (L:=S.L) hs.nd hy hty;have hL:(YH S sp (xs++ys)).L=Vr S.L sp.WM ys:=by simp only[YH,hdr]
 rw[hL];refine⟨h1,λid t cs hc=>?_⟩;have bJ:id<S.L.length:=by rw[<-h1]; exact(I9.1 hc).1
 have hb:S.B[id]? = some (S.B[id]'(by rw[<-hw.len]; exact bJ)):=Im _
 have hS':S'.L[id]? = some (t,cs):=by
  by_cases hm:id∈sp.WM.map (·.1)
  ·exact h3 id t cs hm hc
  ·rw[h2 id hm] at hc;rw[hlk id bJ hm]; exact hc
 obtain⟨b',jF,hh⟩:=hw'.loc id t cs hS';rw[hB _ _ hb] at jF;cases jF;exact⟨_,hb,hh⟩
theorem Kn{S:St}{sp:Ya}{K:List Va->Prop}(h:zb7 S sp K):∃xs ys,GZ S sp.wK=some xs/\KK S sp.WM=some ys/\Uk sp.ks (xs++ys)=true/\K (xs++ys):=by
 unfold zb7 at h
 split at h
 ·rename_i xs ys hx hy
  cases hk:Uk sp.ks (xs++ys) with
  | false=>rw[hk] at h; exact h.elim
  | true=>rw[hk] at h; exact⟨xs,ys,hx,hy,hk,h⟩
 ·exact h.elim
theorem zl1{S S':St}{sp:Ya}{ds:List Nat}(hs:Es S sp ds)(WT:LA S){vs:List Va}(hL:(YH S sp vs).L.length=S.L.length)(hLt:∀(id:Nat) (t:TypeId) (cs:List Va),S.L[id]? = some (t,cs)->∃nX,(YH S sp vs).L[id]? = some (t,nX))(hLk:∀id,id∉sp.WM.map (·.1)->(YH S sp vs).L[id]? = S.L[id]?)(vA:MQ (YH S sp vs) S'):MQ S { S' with lk:=S.lk }/\(∀id,id<S.L.length->id∉sp.WM.map (·.1)->S'.L[id]? = S.L[id]?):=by
 have h2:∀id,id<S.L.length->id∉sp.WM.map (·.1)->S'.L[id]? = S.L[id]? := λid bJ hm=>by
  have:=vA.lk id (PR.2 ⟨bJ,hm⟩);rw[this.2,hLk id hm]
 refine⟨⟨λid b hb=>vA.B id b hb,λid t cs hc=>?_,λid bJ=>⟨bJ,h2 id (WT.lk id bJ) (λhm=>hs.WM id hm bJ)⟩⟩,h2⟩;obtain⟨cs1,h1⟩:=hLt id t cs hc;exact vA.ty id t cs1 h1
theorem zhs{S:St}:∀{l:List (TypeId×List CK)} {n:Nat} {zs:List Va},zhr S n l=some zs->(GB l zs).length=l.length/\(∀j,j<l.length->n+j<S.L.length)/\∀j,(GB l zs)[j]? = if j<l.length then S.L[n+j]? else none
 | [],n,zs,h=>⟨rfl,λj hj=>Is hj (Nat.not_lt_zero j),λj=>by simp[GB]⟩
 | (t,ks)::r,n,zs,h=>by
  simp only[zhr] at h
  split at h
  ·rename_i t' cs l hL hl
   cases hb:Nat.beq t' t&&Nat.beq cs.length ks.length with
   | false=>rw[hb] at h; cases h
   | true=>
    rw[hb] at h;simp only[cond_true,I1] at h;subst h;simp only[A'] at hb;have h1:=Ic hb.1;have h2:=Ic hb.2;subst h1;obtain⟨g1,g2,g3⟩:=zhs hl;have ht:(cs++l).take ks.length=cs:=by rw[<-h2]; exact List.take_left
    have hdr:(cs++l).drop ks.length=l:=by rw[<-h2]; exact List.drop_left
    simp only[GB,ht,hdr];refine⟨by simp[g1],λj hj=>?_,λj=>?_⟩
    ·cases j with
     | zero=>exact(I9.1 hL).1
     | succ j=>have:=g2 j (by simpa using hj); omega
    ·cases j with
     | zero=>simp[hL]
     | succ j=>
      have:=g3 j;simp only[List.getElem?_cons_succ,List.length_cons];rw[this];have e:n+1+j=n+(j+1):=Qo;rw[e]
      by_cases hj:j<r.length
      ·rw[E' hj,E' Qo]
      ·rw[C' hj,C' Qo]
  ·cases h
theorem zo3{S:St}{n k:Nat}{l:List (Nat×Nat)}(h:zhy S n k l=true):∀p∈l,p.1<4000/\p.2<k/\S.F.get p.1=some (.un (.loc (n+p.2) 0)):=λp hp=>by
 simp only[zhy,List.all_eq_true,A'] at h;obtain⟨⟨h1,h2⟩,h3⟩:=h p hp;refine⟨Il h1,Il h2,?_⟩
 split at h3
 ·rename_i id bJ;rw[bJ,Ic h3]
 ·cases h3
theorem Nz{F:PT SV}{n:Nat}:∀{l:List (Nat×Nat)} {i:Nat} {sv:SV},(∀p∈l,p.1<4000)->(zq2 F n l).get i=some sv->(∃j,(i,j)∈l/\sv=.un (.loc (n+j) 0))\/F.get i=some sv
 | [],i,sv,_,h=>.inr h
 | (a,j)::r,i,sv,hl,h=>by
  have hr:∀p∈r,p.1<4000:=λx hx=>hl x (I2 _ hx)
  simp only[zq2] at h;rw[PT.mJ _ 12 _ _ _ (by have h1:=hl (a,j) (Ia ..); show @LT.lt Nat _ (a+1) (2 ^ 12); simp only at h1; omega)] at h
  by_cases hk:a=i
  ·subst hk;rw[E' rfl] at h;simp only[I1] at h;exact .inl ⟨j,Ia ..,h.symm⟩
  ·rw[C' hk] at h;rcases Nz hr h with ⟨q,h1,h2⟩ | h1
   ·exact .inl ⟨q,I2 _ h1,h2⟩
   ·exact .inr h1
theorem zhh{S S':St}{sp:Ya}{K:List Va->List Nat->Prop}(h:zqe S S' sp K):∃xs ys zs,GZ S' sp.wK=some xs/\KK S' sp.WM=some ys/\zhr S' S.L.length sp.bE=some zs/\Uk sp.ks (xs++ys)=true/\Uk sp.nks zs=true/\zhy S' S.L.length sp.bE.length sp.ptr=true/\
  K (xs++ys++zs) ((S'.B.drop S.B.length).take sp.bE.length):=by
 unfold zqe at h
 split at h
 ·rename_i zs hz
  cases hb:Uk sp.nks zs&&zhy S' S.L.length sp.bE.length sp.ptr with
  | false=>rw[hb] at h; exact h.elim
  | true=>
   rw[hb] at h;simp only[cond_true] at h;simp only[A'] at hb;obtain⟨xs,ys,h1,h2,h3,h4⟩:=Kn h;exact⟨xs,ys,zs,h1,h2,hz,h3,hb.1,hb.2,h4⟩
 ·exact h.elim
theorem zs2{l m:List Nat}(h:∀(i b:Nat),l[i]? = some b->m[i]? = some b):m.take l.length=l:=by
 have:=zie (I8 l.length) h;rw[this,List.take_length]
theorem zqf{n:Nat}{S S':St}{sp:Ya}{w w' wr Wy:Wo}{ds:List Nat}{a a':Act}(hs:Es S sp ds)(hf:TL n S a)(hw:Zo S w wr)(WT:LA S)(hf':TL n S' a')(hw':Zo S' w' Wy)(hfa:Dj ds a a')(vA:MQ { S with lk:=De S sp } S'){xs ys zs:List Va}(hx:GZ S' sp.wK=some xs)(hy:KK S' sp.WM=some ys)(hz:zhr S' S.L.length sp.bE=some zs)(hp:zhy S' S.L.length sp.bE.length sp.ptr=true) :
  ((S'.B.drop S.B.length).take sp.bE.length).length=sp.bE.length/\(∀b∈S.B++(S'.B.drop S.B.length).take sp.bE.length,b∈S'.B)/\
  TL n (D6 S sp (xs++ys) zs ((S'.B.drop S.B.length).take sp.bE.length)) a'/\LA (D6 S sp (xs++ys) zs ((S'.B.drop S.B.length).take sp.bE.length))/\MQ S (D6 S sp (xs++ys) zs ((S'.B.drop S.B.length).take sp.bE.length))/\
  Zo (D6 S sp (xs++ys) zs ((S'.B.drop S.B.length).take sp.bE.length)).cQ Wy Wy/\(w'=w->S'.old=S.old->Zo (D6 S sp (xs++ys) zs ((S'.B.drop S.B.length).take sp.bE.length)) w Wy):=by
 obtain⟨n1,n2,n3⟩:=zhs hz;have hB:∀(id b:Nat),S.B[id]? = some b->S'.B[id]? = some b:=vA.B;have Ch3:=zs2 hB;have Cf6:=hw.len;have C44:=hw'.len
 have hk:S.B.length+sp.bE.length<=S'.B.length:=by
  rcases Nat.eq_zero_or_pos sp.bE.length with h0 | h0
  ·have:S.B.length<=S'.B.length:=by
    have:=congrArg List.length Ch3;rw[List.length_take] at this;omega
   omega
  ·have:=n2 (sp.bE.length-1) Qo;omega
 have hbl:((S'.B.drop S.B.length).take sp.bE.length).length=sp.bE.length:=by rw[List.length_take,List.length_drop]; omega
 have hGB:S.B++(S'.B.drop S.B.length).take sp.bE.length=S'.B.take (S.B.length+sp.bE.length):=by
  rw[List.take_add,Ch3]
 have BE5:∀(id b:Nat),id<S.B.length+sp.bE.length->S'.B[id]? = some b->(S.B++(S'.B.drop S.B.length).take sp.bE.length)[id]? = some b:=λid b bJ hb=>by
  rw[hGB,List.getElem?_take,E' bJ]; exact hb
 have CN2:∀(id b:Nat),(S.B++(S'.B.drop S.B.length).take sp.bE.length)[id]? = some b->S'.B[id]? = some b:=λid b hb=>by
  rw[hGB,List.getElem?_take] at hb
  split at hb
  ·exact hb
  ·cases hb
 obtain⟨t1,t2⟩:=KE (L:=S.L) hs.nd hy vA.ty;have hlk:∀id,id<S.L.length->id∉sp.WM.map (·.1)->S'.L[id]? = S.L[id]? := λid bJ hm=>(vA.lk id (PR.2 ⟨bJ,hm⟩)).2
 have hxl:=(UZ hx).1;obtain⟨g1,g2⟩:=zb5 hs hw hw' hB vA.ty hlk hxl hy;have hhf:=zb4 (ys:=ys) hs hf hf' hfa hx;have hdr:(xs++ys).drop sp.wK.length=ys:=by rw[<-hxl]; exact List.drop_left
 have hL:(YH S sp (xs++ys)).L=Vr S.L sp.WM ys:=by simp only[YH,hdr]
 have hpp:=zo3 hp
 have CP0:TL n (D6 S sp (xs++ys) zs ((S'.B.drop S.B.length).take sp.bE.length)) a':=by
  have Cg4:∀(id b:Nat),(YH S sp (xs++ys)).B[id]? = some b->(D6 S sp (xs++ys) zs ((S'.B.drop S.B.length).take sp.bE.length)).B[id]? = some b:=λid b hb=>by
   have jF:S.B[id]? = some b:=hb;exact BE5 id b (by have:=(I9.1 jF).1; omega) (hB id b jF)
  refine⟨hhf.size,λi x h=>?_,λi r pc x h=>?_⟩
  ·rcases Nz (λp hp=>(hpp p hp).1) h with ⟨j,h1,h2⟩ | h1
   ·obtain⟨_,hj,hF⟩:=hpp (i,j) h1;have hd:=hf'.fits i _ hF;cases h2;obtain⟨b,hb,hv⟩:=hd;exact⟨b,BE5 _ _ (by simp only at hj; omega) hb,hv⟩
   ·exact EV.iO (S:=YH S sp (xs++ys)) Cg4 (hhf.fits i x h1)
  ·rcases Nz (λp hp=>(hpp p hp).1) h with ⟨j,h1,h2⟩ | h1
   ·cases h2
   ·exact hhf.old i r pc x h1
 have pB:∀(id:Nat) (t:TypeId) (cs:List Va),((YH S sp (xs++ys)).L++GB sp.bE zs)[id]? = some (t,cs)->∃b,(S.B++(S'.B.drop S.B.length).take sp.bE.length)[id]? = some b/\Wy.heap[b]? = some (Obj.cells cs.toArray t (0,0)):=λid t cs hc=>by
  by_cases bJ:id<S.L.length
  ·rw[Iq (by rw[g1]; exact bJ)] at hc;obtain⟨b,h1,h2⟩:=g2 id t cs hc;exact⟨b,BE5 id b Qo (hB id b h1),h2⟩
  ·rw[List.getElem?_append_right (by rw[g1]; omega),g1,n3] at hc
   split at hc
   ·rename_i IU;have e:S.L.length+(id-S.L.length)=id:=Qo;rw[e] at hc;obtain⟨b,h1,h2⟩:=hw'.loc id t cs hc;exact⟨b,BE5 id b Qo h1,h2⟩
   ·cases hc
 have hlen:((YH S sp (xs++ys)).L++GB sp.bE zs).length=(S.B++(S'.B.drop S.B.length).take sp.bE.length).length:=by
  rw[Ip,Ip,g1,n1,hbl,Cf6]
 have hnd:(S.B++(S'.B.drop S.B.length).take sp.bE.length).Nodup:=by
  rw[hGB]; exact hw'.oX.sublist (List.take_sublist _ _)
 refine⟨hbl,λb hb=>by rw[hGB] at hb; exact List.mem_of_mem_take hb,CP0,⟨?_,λid bJ=>?_⟩,⟨λid b hb=>?_,λid t cs hc=>?_,λid bJ=>⟨bJ,?_⟩⟩,⟨?_,pB,hlen,hnd,λid b bJ hb=>?_⟩,λe1 e2=>⟨?_,pB,hlen,hnd,λid b bJ hb=>?_⟩⟩
 ·show S.old<=(S.B++(S'.B.drop S.B.length).take sp.bE.length).length;have:=WT.old;rw[Ip]; omega
 ·show id<((YH S sp (xs++ys)).L++GB sp.bE zs).length;have:=WT.lk id bJ;rw[Ip,g1]; omega
 ·exact BE5 id b (by have:=(I9.1 hb).1; omega) (hB id b hb)
 ·have bJ:id<S.L.length:=(I9.1 hc).1;obtain⟨u1,u2⟩:(∀(id:Nat) (t:TypeId) (cs:List Va),id∈sp.WM.map (·.1)->(Vr S.L sp.WM ys)[id]? = some (t,cs)->S'.L[id]? = some (t,cs))/\True:=⟨t2.2,trivial⟩;have IU:id<(Vr S.L sp.WM ys).length:=by rw[t1]; exact bJ
  have hg:(Vr S.L sp.WM ys)[id]? = some (((Vr S.L sp.WM ys)[id]).1,((Vr S.L sp.WM ys)[id]).2):=Im IU;show ∃nX,((YH S sp (xs++ys)).L++GB sp.bE zs)[id]? = some (t,nX);rw[Iq (by rw[g1]; exact bJ),hL]
  by_cases hm:id∈sp.WM.map (·.1)
  ·have h4:=u1 id _ _ hm hg;obtain⟨nX,h5⟩:=vA.ty id t cs hc;rw[h5] at h4;simp only[I1,Prod.mk.injEq] at h4;exact⟨((Vr S.L sp.WM ys)[id]).2,by rw[hg,<-h4.1]⟩
  ·exact⟨cs,by rw[t2.1 id hm]; exact hc⟩
 ·have IU:=WT.lk id bJ;show ((YH S sp (xs++ys)).L++GB sp.bE zs)[id]? = S.L[id]?;rw[Iq (by rw[g1]; exact IU),hL,t2.1 id λhm=>hs.WM id hm bJ]
 ·exact Q0.refl _ _
 ·have h1:id<(S.B++(S'.B.drop S.B.length).take sp.bE.length).length:=(I9.1 hb).1;have h2:(S.B++(S'.B.drop S.B.length).take sp.bE.length).length<=id:=bJ;omega
 ·have hbs:(D6 S sp (xs++ys) zs ((S'.B.drop S.B.length).take sp.bE.length)).bs=S'.bs:=by
   show (S.B++(S'.B.drop S.B.length).take sp.bE.length).take S.old=S'.B.take S'.old;rw[e2];have h1:=WT.old;rw[hGB,List.take_take,Nat.min_eq_left Qo]
  rw[hbs,<-e1]; exact hw'.ext
 ·have h1:S'.B[id]? = some b:=CN2 id b hb;have:=hw'.fresh id b (by rw[e2]; exact bJ) h1;rw[e1] at this;exact this
structure zxj (C:UJ) (S:St) (w:Wo) (ds:List Nat) (a:Act) (sp:Ya) (vs:List Va) (w1:Wo) (a':Act) (Wy:Wo):Prop where
 fit:TL C.n (YH S sp vs) a'
 rel:Zo (YH S sp vs) w1 Wy
 wf:LA (YH S sp vs)
 fra:Dj ds a a'
theorem zb6{S S':St}{sp:Ya}(hnd:(sp.WM.map (·.1)).Nodup)(hty:∀(id:Nat) (t:TypeId) (cs:List Va),S.L[id]? = some (t,cs)->∃nX,S'.L[id]? = some (t,nX)){xs ys:List Va}(hxl:xs.length=sp.wK.length)(hy:KK S' sp.WM=some ys) :
  (∀(id:Nat) (t:TypeId) (cs:List Va),S.L[id]? = some (t,cs)->∃nX,(YH S sp (xs++ys)).L[id]? = some (t,nX))/\(∀id,id∉sp.WM.map (·.1)->(YH S sp (xs++ys)).L[id]? = S.L[id]?):=by
 have hdr:(xs++ys).drop sp.wK.length=ys:=by rw[<-hxl]; exact List.drop_left
 obtain⟨h1,h2,h3⟩:=KE (L:=S.L) hnd hy hty;have hL:(YH S sp (xs++ys)).L=Vr S.L sp.WM ys:=by simp only[YH,hdr]
 rw[hL];refine⟨λid t cs hc=>?_,h2⟩;have bJ:id<(Vr S.L sp.WM ys).length:=by rw[h1]; exact(I9.1 hc).1
 by_cases hm:id∈sp.WM.map (·.1)
 ·have hg:(Vr S.L sp.WM ys)[id]? = some (((Vr S.L sp.WM ys)[id]).1,((Vr S.L sp.WM ys)[id]).2):=Im bJ;have h4:=h3 id _ _ hm hg;obtain⟨nX,h5⟩:=hty id t cs hc;rw[h5] at h4;simp only[I1,Prod.mk.injEq] at h4;exact⟨((Vr S.L sp.WM ys)[id]).2,by rw[hg,<-h4.1]⟩
 ·exact⟨cs,by rw[h2 id hm]; exact hc⟩
theorem FF{n:Nat}{S:St}{a:Act}(hf:TL n S a){x:Operand}{e:EV}(hb:zee S [] x=some e):EV.den S e (a.eval x):=by
 have:=Yc (ops:=#[]) (hf.enter #[] (λ_=>False)).fit (pc:=[]) (λp hp=>by cases hp) (S:={ S with r:=S.r+1 }) (x:=x) (e:=e) (by
  cases x with
  | tmp t=>
   simp only[zee] at hb ⊢
   split at hb
   ·exact hb
   ·rename_i r wS y hg
    cases cN:Nat.beq r S.r&&zdo wS [] with
    | false=>rw[cN] at hb; cases hb
    | true=>
     simp only[A'] at cN;have:=Ic cN.1;have h2:=hf.old t r wS y hg;omega
   ·cases hb
  | const v=>exact hb
  | global g=>exact hb
  | func f=>exact hb)
 exact EV.iO (S:={ S with r:=S.r+1 }) (λ_ _ h=>h) this
theorem zkr(S:St)(c:Operand)(x:Bool):(uA S c x).L=S.L/\(uA S c x).B=S.B/\(uA S c x).old=S.old/\(uA S c x).lk=S.lk/\(uA S c x).r=S.r:=by
 unfold uA;split
 ·cases Nat.blt _ 4000 <;> exact⟨rfl,rfl,rfl,rfl,rfl⟩
 ·exact⟨rfl,rfl,rfl,rfl,rfl⟩
theorem TL.uA{n:Nat}{S:St}{a:Act}(hf:TL n S a){c:Operand}{x:Bool}(hc:a.eval c=.bool x):TL n (uA S c x) a:=by
 unfold YtnclplgaicdapaaGreatDoor.uA;split
 ·rename_i t
  cases hl:Nat.blt t 4000 with
  | false=>exact hf
  | true=>
   have IU:t<4000:=Il hl;have hg:∀i,(PT.set 12 S.F t (.un (.kb x))).get i=if t=i then some (.un (.kb x)) else S.F.get i:=λi=>PT.mJ _ 12 S.F t i (by have h1 : @LT.lt Nat _ t 4000:=IU; show @LT.lt Nat _ (t+1) (2 ^ 12); omega)
   refine⟨hf.size,λi y hy=>?_,λi r pc y hy=>?_⟩
   ·have hy:(PT.set 12 S.F t (.un (.kb x))).get i=some (.un y):=hy;rw[hg i] at hy
    by_cases hti:t=i
    ·subst hti;rw[E' rfl] at hy;simp only[I1,SV.un.injEq] at hy;subst hy;exact hc
    ·rw[C' hti] at hy;exact EV.iO (S:=S) (λ_ _ h=>h) (hf.fits i y hy)
   ·have hy:(PT.set 12 S.F t (.un (.kb x))).get i=some (.gd r pc y):=hy;rw[hg i] at hy
    by_cases hti:t=i
    ·rw[E' hti] at hy; cases hy
    ·rw[C' hti] at hy; exact hf.old i r pc y hy
 ·exact hf
theorem zm4{S:St}{w wr:Wo}{c:Operand}{x:Bool}(h:Zo S w wr):Zo (uA S c x) w wr:=by
 obtain⟨h1,h2,h3,h4,h5⟩:=zkr S c x;refine⟨?_,?_,?_,?_,?_⟩
 ·unfold St.bs; rw[h2,h3]; exact h.ext
 ·rw[h1,h2]; exact h.loc
 ·rw[h1,h2]; exact h.len
 ·rw[h2]; exact h.oX
 ·rw[h2,h3]; exact h.fresh
theorem zq1{S:St}{c:Operand}{x:Bool}(h:LA S):LA (uA S c x):=by
 obtain⟨h1,h2,h3,h4,h5⟩:=zkr S c x;exact⟨by rw[h2,h3]; exact h.old,by rw[h1,h4]; exact h.lk⟩
theorem zm3{C:UJ}{S:St}{w:Wo}{ds:List Nat}{a:Act}{S':St}{w':Wo}{a':Act}{Wy:Wo}{c:Operand}{x:Bool}(h:PS C (uA S c x) w ds a S' w' a' Wy):PS C S w ds a S' w' a' Wy:=by
 obtain⟨h1,h2,h3,h4,h5⟩:=zkr S c x;refine⟨h.fit,h.rel,h.wf,⟨?_,?_,?_⟩,h.fra,?_⟩
 ·have:=h.fr.B; rw[h2] at this; exact this
 ·have:=h.fr.ty; rw[h1] at this; exact this
 ·have:=h.fr.lk; rw[h1,h4] at this; exact this
 ·have:=h.pm; rw[h3] at this; exact this
theorem Yp{C:UJ}(E:zps C){sps:List (Nat×Ya)}:∀(c:Code) (S:St) (w wr:Wo) (a:Act) (K:Exit->St->Wo->Prop) (Q:Exit->Act->Wo->Prop),Bd C sps c S w K->TL C.n S a->Zo S w wr->LA S->
  (∀e S' w' a' Wy,K e S' w'->PS C S w (X9 c) a S' w' a' Wy->Q e a' Wy)->c.wpIn (T7 C.rd) 0 C.P Q a wr
 | .skip,S,w,wr,a,K,Q,h,hf,hw,WT,hQ=>wpIn_skip (hQ _ _ _ _ _ h (PS.refl _ hf hw WT))
 | .label _,S,w,wr,a,K,Q,h,hf,hw,WT,hQ=>wpIn_label (hQ _ _ _ _ _ h (PS.refl _ hf hw WT))
 | .exit _,S,w,wr,a,K,Q,h,hf,hw,WT,hQ=>wpIn_exit (hQ _ _ _ _ _ h (PS.refl _ hf hw WT))
 | .ret,S,w,wr,a,K,Q,h,hf,hw,WT,hQ=>wpIn_ret (hQ _ _ _ _ _ h (PS.refl _ hf hw WT))
 | .region _ ops d,S,w,wr,a,K,Q,h,hf,hw,WT,hQ=>zll E h hf hw WT λS' w' a' Wy hK he=>hQ _ _ _ _ _ hK he
 | .seq x y,S,w,wr,a,K,Q,h,hf,hw,WT,hQ=>by
  have BB1:∀z∈X9 x,z∈X9 (.seq x y):=λz hz=>Ib _ hz
  have Bn6:∀z∈X9 y,z∈X9 (.seq x y):=λz hz=>Iy _ hz
  simp only[Bd] at h
  split at h
  ·refine wpIn_seq (Yp E x S w wr a _ _ h hf hw WT λe S' w' a' Wy hK he=>?_)
   cases e with
   | normal=>exact Yp E y S' w' Wy a' _ _ hK he.fit he.rel he.wf λe2 S2 w2 a2 O' iL aT=>hQ _ _ _ _ _ iL (he.trans aT BB1 Bn6)
   | _=>exact hQ _ _ _ _ _ hK (he.mono BB1)
  ·rename_i sp _
   cases hok:ztd S sp (X9 x) with
   | false=>rw[hok] at h; exact h.elim
   | true=>
    rw[hok] at h;simp only[cond_true] at h;have hs:=zd1 hok;have hf0:TL C.n { S with lk:=De S sp } a:=⟨hf.size,hf.fits,hf.old⟩;have hw0:Zo { S with lk:=De S sp } w wr:=⟨hw.ext,hw.loc,hw.len,hw.oX,hw.fresh⟩;have Cj1:LA { S with lk:=De S sp }:=⟨WT.old,λid bJ=>(PR.1 bJ).1⟩
    have out:∀{S':St} {w':Wo} {a':Act} {Wy:Wo},PS C { S with lk:=De S sp } w (X9 x) a S' w' a' Wy->PS C S w (X9 (.seq x y)) a { S' with lk:=S.lk } w' a' Wy:=λ{S' w' a' Wy} he=>by
     have f1:MQ S { S' with lk:=S.lk }:=⟨he.fr.B,he.fr.ty,λid bJ=>⟨bJ,(he.fr.lk id (PR.2 ⟨WT.lk id bJ,λhm=>hs.WM id hm bJ⟩)).2⟩⟩
     exact⟨⟨he.fit.size,he.fit.fits,he.fit.old⟩,⟨he.rel.ext,he.rel.loc,he.rel.len,he.rel.oX,he.rel.fresh⟩,⟨he.wf.old,λid bJ=>by
      obtain⟨nX,hc'⟩:=f1.ty id (S.L[id]'(WT.lk id bJ)).1 (S.L[id]'(WT.lk id bJ)).2 (Im _);exact(I9.1 hc').1⟩,f1,he.fra.mono BB1,he.pm⟩
    cases lK:C.pm with
    | true=>
     rw[lK] at h;simp only[cond_true] at h;obtain⟨lX,h1,h2⟩:=h;refine wpIn_seq (Yp E x _ w wr a _ _ h1 hf0 hw0 Cj1 λe S' w' a' Wy hK he=>?_)
     cases e with
     | normal=>
      obtain⟨xs,ys,zs,g1,g2,g3,g4,g5,g6,g7⟩:=zhh hK;obtain⟨j1,j2,j3,j4,j5,j6,j7⟩:=zqf hs hf hw WT he.fit he.rel he.fra he.fr g1 g2 g3 g6;obtain⟨p1,p2⟩:=he.pm lK;refine Yp E y _ w Wy a' _ _ (BC (O1 (O1 h2 g4) g5) j1 g7) j3 (j7 p1 p2) j4 λe2 S2 w2 a2 O' iL aT=>hQ _ _ _ _ _ iL ⟨aT.fit,aT.rel,aT.wf,j5.trans aT.fr,(he.fra.mono BB1).trans (aT.fra.mono Bn6),λhp=>aT.pm hp⟩
     | _=>exact hQ _ _ _ _ _ hK (out he)
    | false=>
     rw[lK] at h;simp only[cond_false] at h;obtain⟨lX,h1,h2⟩:=h;refine wpIn_seq (Yp E x _ w wr a _ _ h1 hf0 hw0 Cj1 λe S' w' a' Wy hK he=>?_)
     cases e with
     | normal=>
      obtain⟨xs,ys,zs,g1,g2,g3,g4,g5,g6,g7⟩:=zhh (hK Wy he.rel.ext he.rel.lt);obtain⟨j1,j2,j3,j4,j5,j6,j7⟩:=zqf hs hf hw WT he.fit he.rel he.fra he.fr g1 g2 g3 g6;refine Yp E y _ Wy Wy a' _ _ (BC (O1 (O1 h2 g4) g5) j1 Wy (λb hb=>he.rel.lt b (j2 b hb)) g7) ⟨j3.size,j3.fits,j3.old⟩ j6 ⟨I8 _,j4.lk⟩ λe2 S2 w2 a2 O' iL aT=>hQ _ _ _ _ _ iL ⟨aT.fit,aT.rel,aT.wf,j5.trans ⟨aT.fr.B,aT.fr.ty,aT.fr.lk⟩,(he.fra.mono BB1).trans (aT.fra.mono Bn6),λhp=>by rw[lK] at hp; cases hp⟩
     | _=>exact hQ _ _ _ _ _ hK (out he)
 | .cond c x y,S,w,wr,a,K,Q,h,hf,hw,WT,hQ=>by
  simp only[Bd] at h
  split at h
  ·rename_i hb;have hc:a.eval c=.bool true:=FF hf hb;refine wpIn_cond_split hc (λhb=>?_) (λhb=>by cases hb);exact Yp E x S w wr a _ _ h hf hw WT λe S' w' a' Wy hK he=>hQ _ _ _ _ _ hK (he.mono λz hz=>Ib _ hz)
  ·rename_i hb;have hc:a.eval c=.bool false:=FF hf hb;refine wpIn_cond_split hc (λhb=>by cases hb) (λhb=>?_);exact Yp E y S w wr a _ _ h hf hw WT λe S' w' a' Wy hK he=>hQ _ _ _ _ _ hK (he.mono λz hz=>Iy _ hz)
  ·rename_i b hb;have hc:a.eval c=.bool b:=FF hf hb;refine wpIn_cond_split hc (λhb=>?_) (λhb=>?_)
   ·subst hb;exact Yp E x (uA S c true) w wr a _ _ (h.1 rfl) (hf.uA hc) (zm4 hw) (zq1 WT) λe S' w' a' Wy hK he=>hQ _ _ _ _ _ hK ((zm3 he).mono λz hz=>Ib _ hz)
   ·subst hb;exact Yp E y (uA S c false) w wr a _ _ (h.2 rfl) (hf.uA hc) (zm4 hw) (zq1 WT) λe S' w' a' Wy hK he=>hQ _ _ _ _ _ hK ((zm3 he).mono λz hz=>Iy _ hz)
  ·exact h.elim
 | .scope b,S,w,wr,a,K,Q,h,hf,hw,WT,hQ=>by
  refine D1 (Yp E b S w wr a _ _ h hf hw WT λe S' w' a' Wy hK he=>?_)
  cases e with
  | goto l=>exact hK.elim
  | _=>exact hQ _ _ _ _ _ hK he
 | .block id b,S,w,wr,a,K,Q,h,hf,hw,WT,hQ=>by
  refine wpIn_block (Yp E b S w wr a _ _ h hf hw WT λe S' w' a' Wy hK he=>?_)
  cases e with
  | exit id'=>
   simp only[Exit.inBlock]
   dsimp only at hK
   cases hb:Nat.beq id' id with
   | true=>
    rw[hb] at hK;rw[E' (Ic hb)];exact hQ _ _ _ _ _ hK he
   | false=>
    rw[hb] at hK;rw[C' (λe=>by rw[e,Nat.beq_refl] at hb; cases hb)];exact hQ _ _ _ _ _ hK he
  | _=>exact hQ _ _ _ _ _ hK he
 | .loop b,S,w,wr,a,K,Q,h,hf,hw,WT,hQ=>by
  simp only[Bd] at h
  split at h
  ·exact h.elim
  ·rename_i key DY7
   split at h
   ·exact h.elim
   ·rename_i sp hsp
    cases hok:ztd S sp (X9 b) with
    | false=>rw[hok] at h; exact h.elim
    | true=>
     rw[hok] at h;simp only[cond_true] at h;have hs:=zd1 hok
     cases lK:C.pm with
     | true=>
      rw[lK] at h;simp only[cond_true] at h;obtain⟨JS,μ,Bz6,qB⟩:=h
      have mk:∀(S':St) (a':Act) (Wy:Wo) (xs ys:List Va),TL C.n S' a'->Zo S' w Wy->S'.old=S.old->Dj (X9 b) a a'->(∀(id b:Nat),S.B[id]? = some b->S'.B[id]? = some b)->
        (∀(id:Nat) (t:TypeId) (cs:List Va),S.L[id]? = some (t,cs)->∃nX,S'.L[id]? = some (t,nX))->(∀id,id<S.L.length->id∉sp.WM.map (·.1)->S'.L[id]? = S.L[id]?)->
        GZ S' sp.wK=some xs->KK S' sp.WM=some ys->zxj C S w (X9 b) a sp (xs++ys) w a' Wy:=by
       intro S' a' Wy xs ys h1 h2 h3 h4 h5 h6 h7 h8 h9;obtain⟨g1,g2⟩:=zb5 hs hw h2 h5 h6 h7 (UZ h8).1 h9;refine⟨zb4 hs hf h1 h4 h8,⟨?_,g2,by rw[g1]; exact hw.len,hw.oX,hw.fresh⟩,⟨WT.old,λid bJ=>by rw[g1]; exact(PR.1 bJ).1⟩,h4⟩;have hbs:S'.bs=S.bs:=by unfold St.bs; rw[h3]; exact zie WT.old h5
       have:=h2.ext;rw[hbs] at this;exact this
      obtain⟨xs,ys,hx,hy,hk,hI⟩:=Kn Bz6
      refine B9 (λn a' Wy=>∃xs ys S',μ (xs++ys)=n/\JS (xs++ys)/\Uk sp.ks (xs++ys)=true/\xs.length=sp.wK.length/\KK S' sp.WM=some ys/\(∀(id:Nat) (t:TypeId) (cs:List Va),S.L[id]? = some (t,cs)->∃nX,S'.L[id]? = some (t,nX))/\zxj C S w (X9 b) a sp (xs++ys) w a' Wy)
       (m:=μ (xs++ys)) ⟨xs,ys,S,rfl,hI,hk,(UZ hx).1,hy,λ_ _ cs h=>⟨cs,h⟩,mk S a wr xs ys hf hw rfl (Dj.refl _ _) (λ_ _ h=>h) (λ_ _ cs h=>⟨cs,h⟩) (λ_ _ _=>rfl) hx hy⟩ ?_
      rintro n a' Wy ⟨xs,ys,S',rfl,hI,hk,hxl,hyl,hty,hH⟩;obtain⟨t1,t2⟩:=zb6 hs.nd hty hxl hyl
      have hlen:(YH S sp (xs++ys)).L.length=S.L.length:=by
       have:=hH.rel.len;rw[this]; exact hw.len.symm
      refine Yp E b _ w Wy a' _ _ (O1 qB hk hI) hH.fit hH.rel hH.wf λe S2 w2 a2 O' hK he=>?_
      obtain⟨f1,f2⟩:=zl1 hs WT hlen t1 t2 he.fr;obtain⟨p1,p2⟩:=he.pm lK;subst p1
      cases e with
      | normal=>
       obtain⟨xs',ys',gM,hy',hk',hI',IU⟩:=Kn hK;refine⟨μ (xs'++ys'),IU,xs',ys',S2,rfl,hI',hk',(UZ gM).1,hy',f1.ty,?_⟩;exact mk S2 a2 O' xs' ys' he.fit he.rel p2 (hH.fra.trans he.fra) f1.B f1.ty f2 gM hy'
      | _=>
       exact hQ _ _ _ _ _ hK ⟨⟨he.fit.size,he.fit.fits,he.fit.old⟩,⟨he.rel.ext,he.rel.loc,he.rel.len,he.rel.oX,he.rel.fresh⟩,
        ⟨he.wf.old,λid bJ=>by
         obtain⟨nX,hc'⟩:=f1.ty id (S.L[id]'(WT.lk id bJ)).1 (S.L[id]'(WT.lk id bJ)).2 (Im _);exact(I9.1 hc').1⟩,f1,hH.fra.trans he.fra,λ_=>⟨rfl,p2⟩⟩
     | false=>
      rw[lK] at h;simp only[cond_false] at h;obtain⟨JS,μ,Bz6,qB⟩:=h
      have mk:∀(S':St) (w':Wo) (a':Act) (Wy:Wo) (xs ys:List Va),TL C.n S' a'->Zo S' w' Wy->Dj (X9 b) a a'->(∀(id b:Nat),S.B[id]? = some b->S'.B[id]? = some b)->
        (∀(id:Nat) (t:TypeId) (cs:List Va),S.L[id]? = some (t,cs)->∃nX,S'.L[id]? = some (t,nX))->(∀id,id<S.L.length->id∉sp.WM.map (·.1)->S'.L[id]? = S.L[id]?)->
        GZ S' sp.wK=some xs->KK S' sp.WM=some ys->zxj C S.cQ Wy (X9 b) a sp (xs++ys) Wy a' Wy:=by
       intro S' w' a' Wy xs ys h1 h2 h4 h5 h6 h7 h8 h9;obtain⟨g1,g2⟩:=zb5 hs hw h2 h5 h6 h7 (UZ h8).1 h9;have hf1:=zb4 (ys:=ys) hs hf h1 h4 h8;refine⟨⟨hf1.size,hf1.fits,hf1.old⟩,⟨Q0.refl _ _,g2,by show (YH S sp (xs++ys)).L.length=_; rw[g1]; exact hw.len,hw.oX,λid b bJ hb=>?_⟩,⟨I8 _,λid bJ=>by show id<(YH S sp (xs++ys)).L.length; rw[g1]; exact(PR.1 bJ).1⟩,h4⟩;have:id<S.B.length:=(I9.1 hb).1;have DY0:S.B.length<=id:=bJ;omega
      obtain⟨xs,ys,hx,hy,hk,hI⟩:=Kn (Bz6 wr hw.ext hw.lt)
      refine B9 (λn a' Wy=>∃xs ys S',μ (xs++ys) Wy=n/\JS (xs++ys) Wy/\Uk sp.ks (xs++ys)=true/\xs.length=sp.wK.length/\KK S' sp.WM=some ys/\(∀(id:Nat) (t:TypeId) (cs:List Va),S.L[id]? = some (t,cs)->∃nX,S'.L[id]? = some (t,nX))/\zxj C S.cQ Wy (X9 b) a sp (xs++ys) Wy a' Wy)
       (m:=μ (xs++ys) wr) ⟨xs,ys,S,rfl,hI,hk,(UZ hx).1,hy,λ_ _ cs h=>⟨cs,h⟩,mk S w a wr xs ys hf hw (Dj.refl _ _) (λ_ _ h=>h) (λ_ _ cs h=>⟨cs,h⟩) (λ_ _ _=>rfl) hx hy⟩ ?_
      rintro n a' Wy ⟨xs,ys,S',rfl,hI,hk,hxl,hyl,hty,hH⟩;obtain⟨t1,t2⟩:=zb6 hs.nd hty hxl hyl
      have hlen:(YH S sp (xs++ys)).L.length=S.L.length:=by
       have:(YH S.cQ sp (xs++ys)).L.length=S.B.length:=hH.rel.len;rw[<-hw.len] at this;exact this
      refine Yp E b _ Wy Wy a' _ _ (O1 qB hk Wy hH.rel.lt hI) hH.fit hH.rel hH.wf λe S2 w2 a2 O' hK he=>?_
      have sR:MQ (YH S sp (xs++ys)) S2:=⟨he.fr.B,he.fr.ty,he.fr.lk⟩;obtain⟨f1,f2⟩:=zl1 hs WT hlen t1 t2 sR
      cases e with
      | normal=>
       obtain⟨xs',ys',gM,hy',hk',hI',IU⟩:=Kn (hK O' he.rel.ext he.rel.lt);refine⟨μ (xs'++ys') O',IU,xs',ys',S2,rfl,hI',hk',(UZ gM).1,hy',f1.ty,?_⟩;exact mk S2 w2 a2 O' xs' ys' he.fit he.rel (hH.fra.trans he.fra) f1.B f1.ty f2 gM hy'
      | _=>
       exact hQ _ _ _ _ _ hK ⟨⟨he.fit.size,he.fit.fits,he.fit.old⟩,⟨he.rel.ext,he.rel.loc,he.rel.len,he.rel.oX,he.rel.fresh⟩,
        ⟨he.wf.old,λid bJ=>by
         obtain⟨nX,hc'⟩:=f1.ty id (S.L[id]'(WT.lk id bJ)).1 (S.L[id]'(WT.lk id bJ)).2 (Im _);exact(I9.1 hc').1⟩,f1,hH.fra.trans he.fra,λhp=>by rw[lK] at hp; cases hp⟩
 | .rangeFunc _ _ _ _,_,_,_,_,_,_,h,_,_,_,_=>h.elim
 | .goto _,_,_,_,_,_,_,h,_,_,_,_=>h.elim
 | .refuse _,_,_,_,_,_,_,h,_,_,_,_=>h.elim
def zl3:List Va->Nat->PT SV
 | [],_=>.leaf
 | v::r,i=>PT.set 12 (zl3 r (i+1)) i (.un (.v v))
theorem zhf:∀{l:List Va} {k i:Nat} {sv:SV},k+l.length<=4000->(zl3 l k).get i=some sv->∃v,l[i-k]? = some v/\k<=i/\sv=.un (.v v)
 | [],k,i,sv,_,h=>by simp[zl3,PT.get] at h
 | v::r,k,i,sv,hl,h=>by
  simp only[zl3] at h;simp only[List.length_cons] at hl;rw[PT.mJ _ 12 _ _ _ (by show @LT.lt Nat _ (k+1) (2 ^ 12); have e:(2:Nat) ^ 12=4096:=rfl; omega)] at h
  by_cases hk:k=i
  ·subst hk;rw[E' rfl] at h;simp only[I1] at h;exact⟨v,Qs,I8 _,h.symm⟩
  ·rw[C' hk] at h;obtain⟨u,h1,h2,h3⟩:=zhf Qo h;refine⟨u,?_,Qo,h3⟩;have:i-k=(i-(k+1))+1:=Qo;rw[this]; simpa using h1
def DT(args:List Va):St:={ F:=zl3 args 0,L:=[],B:=[],old:=0,lk:=[],r:=1 }
def zmw(C:UJ)(S:St)(w:Wo):List ResultVar->(List Va->Prop)->Prop
 | [],K=>K []
 | .tmp t::r,K=>match GH S [] (.tmp t) with
  | some v=>zmw C S w r λl=>K (v::l)
  | none=>False
 | .cell p t::r,K=>match C.T t,zee S [] (.tmp p) with
  | some ty,some (.loc id 0)=>match S.L[id]? with
   | some (_,cs)=>bif Nat.beq cs.length ty.ks.length then
     (match ty.val cs with
      | some v=>zmw C S w r λl=>K (v::l)
      | none=>False)
    else False
   | none=>False
  | some ty,some (.el o n)=>zln ty.ks λvs=>match ty.val vs with
   | some v=>Q1 S.bs w o n vs/\zmw C S w r λl=>K (v::l)
   | none=>False
  | _,_=>False
def zpk:List Va->Va
 | [v]=>v
 | l=>.tuple l.toArray
def zuq(C:UJ)(sps:List (Nat×Ya))(args:List Va)(body:Code)(res:List ResultVar)(w:Wo)(R:Va->Wo->Prop):Prop:=
 Bd C sps body (DT args) w λe S w'=>match e with
  | .normal | .ret=>zmw C S w' res λl=>bif C.pm then R (zpk l) w' else ∀wr,Q0 S.bs w' wr->R (zpk l) wr
  | _=>False
theorem zwe{C:UJ}(E:zps C){S:St}{w wr:Wo}{a:Act}(hf:TL C.n S a)(hw:Zo S w wr):∀{res:List ResultVar} {K:List Va->Prop},zmw C S w res K->
  ∃l,K l/\l.length=res.length/\(res.mapM (m:=Sem) fun
   | .tmp t=>pure (a.tmps.getD t undef)
   | .cell p t=>do loadVar t (<-asAddr (a.tmps.getD p undef))).run C.P wr=.ok l wr:=by
 have hd:∀{x:Operand} {e:EV},zee S [] x=some e->EV.den S e (a.eval x):=λ{x e} hb=>by
  have:=Yc (ops:=#[]) (hf.enter #[] (λ_=>False)).fit (pc:=[]) (λp hp=>by cases hp) (S:={ S with r:=S.r+1 }) (x:=x) (e:=e) (by
   cases x with
   | tmp t=>
    simp only[zee] at hb ⊢
    split at hb
    ·exact hb
    ·rename_i r wS y hg
     cases cN:Nat.beq r S.r&&zdo wS [] with
     | false=>rw[cN] at hb; cases hb
     | true=>
      simp only[A'] at cN;have:=Ic cN.1;have h2:=hf.old t r wS y hg;omega
    ·cases hb
   | const v=>exact hb
   | global g=>exact hb
   | func f=>exact hb)
  exact EV.iO (S:={ S with r:=S.r+1 }) (λ_ _ h=>h) this
 intro res
 induction res with
 | nil=>intro K h; exact⟨[],h,rfl,Qs⟩
 | cons x r ih=>
  intro K h
  cases x with
  | tmp t=>
   simp only[zmw] at h
   split at h
   ·rename_i v hv;obtain⟨l,h1,h2,h3⟩:=ih h
    have hv':a.tmps.getD t undef=v:=by
     unfold GH at hv
     split at hv
     ·rename_i e he;exact CZ hv (hd he)
     ·cases hv
    refine⟨v::l,h1,by simp[h2],?_⟩;simp only[List.mapM_cons,Sem.run_bind,Sem.run_pure,Result.andThen_ok,h3,hv']
   ·exact h.elim
  | cell p t=>
   simp only[zmw] at h
   split at h
   ·rename_i ty id ht he;obtain⟨b,hb,hx⟩:=hd he;simp only[Act.eval] at hx
    split at h
    ·rename_i t' cs hl
     cases hc:Nat.beq cs.length ty.ks.length with
     | false=>rw[hc] at h; exact h.elim
     | true=>
      rw[hc] at h;simp only[cond_true] at h
      split at h
      ·rename_i v hv;obtain⟨l,h1,h2,h3⟩:=ih h
       have hl2:=Ov E.T ht hv (Ic hc) (a:=⟨b,0,none⟩) (w:=wr) (λj y hy=>by
        rw[Addr.add_lit,Gx hw hl hb,Nat.zero_add]; exact hy)
       refine⟨v::l,h1,by simp[h2],?_⟩;have ha:(asAddr (a.tmps.getD p undef)).run C.P wr=.ok ⟨b,0,none⟩ wr:=by rw[hx]; rfl
       simp only[List.mapM_cons,Sem.run_bind,ha,Sem.run_pure,Result.andThen_ok,hl2,h3]
      ·exact h.elim
    ·exact h.elim
   ·rename_i ty o n ht he;obtain⟨ad,ho,hx⟩:=hd he;simp only[Act.eval] at hx;obtain⟨vs,hlen,h⟩:=P0 h
    split at h
    ·rename_i v hv;obtain⟨hcx,h⟩:=h;obtain⟨l,h1,h2,h3⟩:=ih h;have hl2:=Ov E.T ht hv hlen (a:=ad.add n) (w:=wr) (hcx.cells hw.ext ho);refine⟨v::l,h1,by simp[h2],?_⟩;have ha:(asAddr (a.tmps.getD p undef)).run C.P wr=.ok (ad.add n) wr:=by rw[hx]; rfl
     simp only[List.mapM_cons,Sem.run_bind,ha,Sem.run_pure,Result.andThen_ok,hl2,h3]
    ·exact h.elim
   ·exact h.elim
theorem NR{C:UJ}(E:zps C){sps:List (Nat×Ya)}{f:FuncId}{fn:Func}{body:Code}{args:List Va}{w:Wo}{R:Va->Wo->Prop}(hf:C.P.funcs[f]? = some fn)(hb:fn.body=some body)(hn:fn.ntmps=C.n)(hargs:args.length<=C.n)(hn4:C.n<=4000)(hrd:C.rd=none)(h:zuq C sps args body fn.results.toList w R):Calls C.P f args.toArray w λe w'=>∃v wv,e=.returned v/\(C.pm=true->wv=w/\Q0 [] w w')/\(C.pm=true->R v wv)/\(C.pm=false->R v w'):=by
 refine(callsIn_wide (n:=0)).1 (callsIn_of_wp hf hb trivial ?_);have hF:T7 C.rd=Fence.wide:=by rw[hrd]; rfl
 rw[<-hF]
 have CP0:TL C.n (DT args) { tmps:=args.toArray++Array.replicate (fn.ntmps-args.toArray.size) undef,defers:=[] }:=by
  have AQ6:∀i sv,(DT args).F.get i=some sv->∃v,args[i]? = some v/\sv=.un (.v v):=λi sv hs=>by
   obtain⟨v,h1,_,h3⟩:=zhf Qo hs;exact⟨v,by simpa using h1,h3⟩
  refine⟨by simp[hn]; omega,λi x hx=>?_,λi r pc x hx=>?_⟩
  ·obtain⟨v,h1,h2⟩:=AQ6 i _ hx;cases h2;show _=v;rw[Array.getD_eq_getD_getElem?,Array.getElem?_append_left (by simpa using (I9.1 h1).1)];simp[h1]
  ·obtain⟨v,h1,h2⟩:=AQ6 i _ hx;cases h2
 have wO:Zo (DT args) w w:=⟨Q0.refl _ _,λid t cs hl=>by simp[DT] at hl,rfl,List.nodup_nil,λid b _ hb=>by simp[DT] at hb⟩;refine Yp E body (DT args) w w _ _ _ h CP0 wO ⟨Ie _,λid bJ=>by cases bJ⟩ λe S w' a' Wy hK he=>?_
 have fin:zmw C S w' fn.results.toList (λl=>bif C.pm then R (zpk l) w' else ∀wr,Q0 S.bs w' wr->R (zpk l) wr)->a'.defers=[]/\∃v,(results fn a'.tmps).run C.P Wy=.ok v Wy/\∃v' wv,Ending.returned v=.returned v'/\(C.pm=true->wv=w/\Q0 [] w Wy)/\(C.pm=true->R v' wv)/\(C.pm=false->R v' Wy):=λhr=>by
  obtain⟨l,h1,h2,h3⟩:=zwe E he.fit he.rel hr;refine⟨he.fra.1,zpk l,?_,zpk l,w',rfl,λhp=>?_,λhp=>?_,λhp=>?_⟩
  ·simp only[results,Sem.run_bind,Array.mapM_eq_mapM_toList,Sem.run_map];refine(congrArg (λr:Result (List Va)=>(r.andThen λa w'=>Result.ok a.toArray w').andThen λvs w'=>(Pure.pure (if h:vs.size=1 then vs[0] else .tuple vs):Sem Va).run C.P w') h3).trans ?_;simp only[Result.andThen_ok,Sem.run_pure]
   congr 1
   cases l with
   | nil=>rfl
   | cons x r=>
    cases r with
    | nil=>rfl
    | cons y q=>simp[zpk]
  ·obtain⟨p1,p2⟩:=he.pm hp;refine⟨p1,?_⟩;have hx:=he.rel.ext;rw[<-p1];have hbs:S.bs=[]:=by unfold St.bs; rw[p2]; rfl
   rw[hbs] at hx;exact hx
  ·rw[hp] at h1; exact h1
  ·rw[hp] at h1; exact h1 Wy he.rel.ext
 cases e with
 | normal=>exact fin hK
 | ret=>exact fin hK
 | _=>exact hK.elim
theorem zo5{C:UJ}(E:zps C){sps:List (Nat×Ya)}{f:FuncId}{fn:Func}{body:Code}{args:List Va}{w:Wo}{bs:List Nat}{r:Va}(hf:C.P.funcs[f]? = some fn)(hb:fn.body=some body)(hn:fn.ntmps=C.n)(hargs:args.length<=C.n)(hn4:C.n<=4000)(lK:C.pm=true)(hrd:C.rd=none)(h:∀wr,Q0 bs w wr->zuq C sps args body fn.results.toList wr λv _=>v=r):Q3 bs C.P f args.toArray w r:=λwr hx=>
 (NR E hf hb hn hargs hn4 hrd (h wr hx)).mono λe w' ⟨v,_,he,h1,h2,_⟩=>by
  have:=h2 lK;subst this;exact⟨he,(h1 lK).2⟩
theorem zry{C:UJ}(E:zps C){sps:List (Nat×Ya)}{f:FuncId}{fn:Func}{body:Code}{args:List Va}{w:Wo}{R:Va->Wo->Prop}(hf:C.P.funcs[f]? = some fn)(hb:fn.body=some body)(hn:fn.ntmps=C.n)(hargs:args.length<=C.n)(hn4:C.n<=4000)(lK:C.pm=false)(hrd:C.rd=none)(h:zuq C sps args body fn.results.toList w R):Calls C.P f args.toArray w λe w'=>∃v,e=.returned v/\R v w':=
 (NR E hf hb hn hargs hn4 hrd h).mono λe w' ⟨v,_,he,_,_,h3⟩=>⟨v,he,h3 lK⟩
theorem Tg{w:Wo}{b:Nat}{cs:Array Va}{t:TypeId}{fz:Nat×Nat}(h:w.heap[b]? = some (.cells cs t fz))(k:Nat):w.cell? ⟨b,k,none⟩=cs[k]? := by
 simp[World.cell?,h]
theorem YY{w:Wo}{b:Nat}{o:Obj}(h:w.heap[b]? = some o):b<w.heap.size:=by
 rcases Nat.lt_or_ge b w.heap.size with hl | hl
 ·exact hl
 ·rw[Array.getElem?_eq_none_iff.2 hl] at h; cases h
theorem XP{bs:List Nat}{w:Wo}{b k0:Nat}{cs:List Va}{t:TypeId}{fz:Nat×Nat}(h:w.heap[b]? = some (.cells cs.toArray t fz))(hb:b∉bs){k:Nat}{v:Va}(hk:cs[k0+k]? = some v):Ub bs w (some ⟨b,k0,none⟩) k v:=
 ⟨⟨b,k0,none⟩,rfl,hb,by rw[Addr.add_lit,Tg h]; simpa using hk⟩
theorem J8{bs:List Nat}{w:Wo}{o:OA}{n:Nat}{v:Va}(h:Ub bs w o n v):Q1 bs w o n [v]:=h
theorem T0{bs:List Nat}{w:Wo}{o:OA}:∀{n:Nat} {vs:List Va},(∀j v,vs[j]? = some v->Ub bs w o (n+j) v)->Q1 bs w o n vs
 | _,[],_=>trivial
 | n,[v],h=>h 0 v rfl
 | n,v::u::r,h=>⟨h 0 v rfl,T0 (vs:=u::r) λj x hj=>by
   have:=h (j+1) x (by simpa using hj);rw[show n+1+j=n+(j+1) by omega]; exact this⟩
theorem PV{bs:List Nat}{w:Wo}{b k0:Nat}{cs:List Va}{t:TypeId}{fz:Nat×Nat}(h:w.heap[b]? = some (.cells cs.toArray t fz))(hb:b∉bs){n:Nat}{vs:List Va}(hk:∀j v,vs[j]? = some v->cs[k0+(n+j)]? = some v):Q1 bs w (some ⟨b,k0,none⟩) n vs:=
 T0 λj v hj=>XP h hb (hk j v hj)
theorem Q1.ext{bs:List Nat}{w w':Wo}{o:OA}{n:Nat}{vs:List Va}(h:Q1 bs w o n vs)(hx:Q0 bs w w'):Q1 bs w' o n vs:=
 T0 λj v hj=>(h.get j v hj).ext hx
theorem Q1.less{bs cs:List Nat}{w:Wo}{o:OA}{n:Nat}{vs:List Va}(h:Q1 bs w o n vs)(hs:∀x∈cs,x∈bs):Q1 cs w o n vs:=
 T0 λj v hj=>(h.get j v hj).less hs
theorem Qq{bs:List Nat}{w w':Wo}{b:Nat}{o:Obj}(h:w.heap[b]? = some o)(hx:Q0 bs w w')(hb:b∉bs):w'.heap[b]? = some o:=by
 rw[hx.block b (YY h) hb]; exact h
theorem UX{w:Wo}{b k n:Nat}{cs vs:List Va}{t:TypeId}{fz:Nat×Nat}(h:w.heap[b]? = some (.cells cs.toArray t fz)):(R9 w (some ⟨b,k,none⟩) n vs).heap[b]? = some (.cells (zks cs (k+n) vs).toArray t fz):=Ei vs w b k n cs t fz h
theorem znc(bs:List Nat)(a:Addr):∀(vs:List Va) (w:Wo) (n:Nat),a.block∈bs->Q0 bs w (eR w a n vs)
 | [],w,n,_=>Q0.refl _ _
 | v::r,w,n,h=>((Q0.refl bs w).setCell (p:=a.add n) (.inr (by rw[Zv]; exact h)) v).trans (znc bs a r _ _ h)
theorem Xp{bs:List Nat}{w:Wo}{o:OA}{n:Nat}{vs:List Va}(h:∀a,o=some a->a.block∈bs):Q0 bs w (R9 w o n vs):=by
 cases o with
 | none=>exact Q0.refl _ _
 | some a=>exact znc bs a vs w n (h a rfl)
theorem V0{bs:List Nat}{w:Wo}{b k0 n k:Nat}{cs:List Va}{t:TypeId}(h:w.heap[b]? = some (.cells cs.toArray t (0,0)))(hb:b∉bs)(hk:k0+(n+k)<=cs.length):Yo bs w (some ⟨b,k0,none⟩) n k:=
 ⟨⟨b,k0,none⟩,rfl,hb,λj h1 h2=>by
  rw[Addr.add_lit,Tg h];refine⟨⟨cs[k0+j]' Qo,Qs⟩,?_⟩;simp[World.frozen?,h]⟩
theorem Q0.fresh{bs cs:List Nat}{w0 w w':Wo}(h:Q0 bs w0 w)(k:Q0 cs w w')(hc:∀x∈cs,w0.heap.size<=x\/x∈bs):Q0 bs w0 w':=
 ⟨k.os.trans h.os,k.tape.trans h.tape,k.output.trans h.output,IB h.size k.size,λi hi hb=>(k.block i (Nat.lt_of_lt_of_le hi h.size) (λhx=>by
  rcases hc i hx with h1 | h1
  ·omega
  ·exact hb h1)).trans (h.block i hi hb)⟩
theorem FSx{bs:List Nat}{P:Program}{f:FuncId}{args:Array Va}{w:Wo}{v:Va}(h:∀wr,Q0 bs w wr->Calls P f args wr λe w'=>∃v0,e=.returned v0/\(v0=v/\Q0 [] wr w')):Q3 bs P f args w v:=
 λwr hx=>(h wr hx).mono λe w' ⟨v0,he,hv,gM⟩=>⟨by rw[he,hv],gM⟩
theorem Hn{w:Wo}{o:OA}{n k:Nat}{vs:List Va}:R9 w (o.map (·.add n)) k vs=R9 w o (n+k) vs:=by
 cases o with
 | none=>rfl
 | some a=>
  simp only[Option.map_some,R9]
  induction vs generalizing w k with
  | nil=>rfl
  | cons v r ih=>
   simp only[eR];rw[Jl,ih];rfl
theorem zaf{bs:List Nat}{w:Wo}{o:OA}{n k m:Nat}:Yo bs w (o.map (·.add n)) k m↔Yo bs w o (n+k) m:=by
 cases o with
 | none=>
  constructor <;> (rintro⟨a,ha,_⟩; cases ha)
 | some p=>
  constructor
  ·rintro⟨a,ha,hb,hc⟩;simp only[Option.map_some,I1] at ha;subst ha;refine⟨p,rfl,by rwa[Zv] at hb,λj h1 h2=>?_⟩;have:=hc (j-n) Qo Qo
   rwa[Jl,show n+(j-n)=j by omega] at this
  ·rintro⟨a,ha,hb,hc⟩;cases ha;refine⟨p.add n,rfl,by rwa[Zv],λj h1 h2=>?_⟩;rw[Jl];exact hc (n+j) Qo Qo
structure KN where
 floor:Int
 on:Bool
 v:Int
 w:Int
 sum:Int
 deriving DecidableEq,Inhabited
structure JB where
 IZ:Int
 RJ:Int
 SB:Int
 locals:List Int
 Rz:List Bool
 deriving DecidableEq,Inhabited
structure ZV where
 used:Bool
 parent:Int
 name:ByteArray
 weight:Int
 IF:Int
 period:Int
 next:Int
 sum:Int
 IQ:JB
 IG:List KN
 deriving DecidableEq,Inhabited
structure Kf where
 state:Int
 group:Int
 R3:Int
 nice:Int
 mask:Int
 v:Int
 sum:Int
 used:Int
 load:Int
 deriving DecidableEq,Inhabited
structure MB where
 up:Bool
 cur:Int
 aC:Int
 busy:Int
 idle:Int
 deriving DecidableEq,Inhabited
structure Q7 where
 now:Int
 IF:List MB
 tasks:List Kf
 IE:List ZV
 deriving DecidableEq,Inhabited
structure zxk where
 kind:Int
 pY:Int
 n:Int
 deriving DecidableEq,Inhabited
def gi{α:Type}[Inhabited α](l:List α)(i:Int):α:=l.getD i.toNat default
theorem zux{α:Type}[Inhabited α](l:List α)(k:Nat):gi l (k:Int)=l.getD k default:=rfl
theorem Ui{α:Type}[Inhabited α]{l:List α}{k:Nat}(h:k<l.length):gi l (k:Int)=l[k]:=by
 simp[zux,List.getD_eq_getElem?_getD,h]
theorem zx8{α:Type}[Inhabited α]{l:List α}{k:Nat}(h:k<l.length):l[k]? = some (gi l (k:Int)):=by
 rw[Ui h]; simp[h]
theorem zoj{α:Type}[Inhabited α]{l:List α}{i:Int}(h0:0<=i)(h1:i<l.length):gi l i∈l:=by
 obtain⟨k,rfl⟩:=Int.eq_ofNat_of_zero_le h0;have:k<l.length:=Qo;rw[Ui this]; exact List.getElem_mem this
theorem zoi{α:Type}[Inhabited α]{l m:List α}(hl:l.length=m.length)(h:∀k:Nat,k<l.length->gi l (k:Int)=gi m (k:Int)):l=m:=by
 refine List.ext_getElem hl λk h1 h2=>?_
 have:=h k h1
 rwa[Ui h1,Ui h2] at this
theorem QG{α:Type}[Inhabited α](l:List α)(x:α){i j:Int}(h0:0<=i)(hi:i<(l.length:Int))(hj:0<=j):gi (l.set i.toNat x) j=if i=j then x else gi l j:=by
 obtain⟨k,rfl⟩:=Int.eq_ofNat_of_zero_le h0;obtain⟨q,rfl⟩:=Int.eq_ofNat_of_zero_le hj;simp only[zux,Ih,List.getD_eq_getElem?_getD,List.getElem?_set]
 by_cases hkq:k=q
 ·subst hkq;have:k<l.length:=Qo;simp[this]
 ·have:¬((k:Int)=q):=Qo;simp[hkq,this]
def M1(s:KN):List Va:=[I s.floor,.bool s.on,I s.v,I s.w,I s.sum]
def YK(t:Kf):List Va:=[I t.state,I t.group,I t.R3,I t.nice,I t.mask,I t.v,I t.sum,I t.used,I t.load]
def KY(c:MB):List Va:=[.bool c.up,I c.cur,I c.aC,I c.busy,I c.idle]
def zrz(o:zxk):List Va:=[I o.kind,I o.pY,I o.n]
def Jn(n:Int):List Va:=[I n]
def M0(b:Bool):List Va:=[.bool b]
structure MG where
 lO:OA
 lC:Nat
 dO:OA
 dC:Nat
 sO:OA
 sC:Nat
 deriving Inhabited
def Yv(g:ZV)(m:MG):List Va:=[.bool g.used,I g.parent,.string g.name,I g.weight,I g.IF,I g.period,I g.next,I g.sum,
 I g.IQ.IZ,I g.IQ.RJ,I g.IQ.SB,.slice m.lO g.IQ.locals.length m.lC,.slice m.dO g.IQ.Rz.length m.dC,.slice m.sO g.IG.length m.sC]
def Rd{α:Type}[Inhabited α](enc:α->List Va)(z:Nat)(bs:List Nat)(w:Wo)(o:OA)(l:List α):Prop:=
 ∀i:Int,0<=i->i<(l.length:Int)->Q1 bs w o (Int.toNat i*z) (enc (gi l i))
theorem Rd.ext{α:Type}[Inhabited α]{enc:α->List Va}{z:Nat}{bs:List Nat}{w w':Wo}{o:OA}{l:List α}(h:Rd enc z bs w o l)(hx:Q0 bs w w'):Rd enc z bs w' o l:=
 λi h0 h1=>(h i h0 h1).ext hx
theorem Rd.less{α:Type}[Inhabited α]{enc:α->List Va}{z:Nat}{bs cs:List Nat}{w:Wo}{o:OA}{l:List α}(h:Rd enc z bs w o l)(hs:∀x∈cs,x∈bs):Rd enc z cs w o l:=
 λi h0 h1=>(h i h0 h1).less hs
theorem Ub.wide{bs cs:List Nat}{w:Wo}{o:OA}{n:Nat}{v:Va}(h:Ub bs w o n v)(hs:∀x∈cs,x∈bs\/w.heap.size<=x):Ub cs w o n v:=by
 obtain⟨a,ho,hb,hc⟩:=h;refine⟨a,ho,λhx=>?_,hc⟩;have IU:=World.block_lt_of_cell? w _ hc;rw[Zv] at IU;rcases hs _ hx with h1 | h1
 ·exact hb h1
 ·omega
theorem Q1.wide{bs cs:List Nat}{w:Wo}{o:OA}{n:Nat}{vs:List Va}(h:Q1 bs w o n vs)(hs:∀x∈cs,x∈bs\/w.heap.size<=x):Q1 cs w o n vs:=
 T0 λj v hj=>(h.get j v hj).wide hs
theorem Rd.wide{α:Type}[Inhabited α]{enc:α->List Va}{z:Nat}{bs cs:List Nat}{w:Wo}{o:OA}{l:List α}(h:Rd enc z bs w o l)(hs:∀x∈cs,x∈bs\/w.heap.size<=x):Rd enc z cs w o l:=
 λi h0 h1=>(h i h0 h1).wide hs
theorem Q1.some{bs:List Nat}{w:Wo}{o:OA}{n:Nat}{v:Va}{r:List Va}(h:Q1 bs w o n (v::r)):o.isSome=true:=by
 obtain⟨a,rfl,_,_⟩:=h.get 0 v rfl;rfl
theorem Rd.ix{α:Type}[Inhabited α]{enc:α->List Va}{z:Nat}{bs:List Nat}{w:Wo}{o:OA}{l:List α}(h:Rd enc z bs w o l)(he:∀x,∃v r,enc x=v::r){i:Int}(h0:0<=i)(h1:i<(l.length:Int)):Ix o l.length i:=by
 obtain⟨v,r,e⟩:=he (gi l i);have:=h i h0 h1;rw[e] at this;exact⟨h0,h1,this.some⟩
theorem Y7(x:KN):∃v r,M1 x=v::r:=⟨_,_,rfl⟩
theorem QF(x:Kf):∃v r,YK x=v::r:=⟨_,_,rfl⟩
theorem Ym(x:MB):∃v r,KY x=v::r:=⟨_,_,rfl⟩
theorem JH(x:Int):∃v r,Jn x=v::r:=⟨_,_,rfl⟩
theorem DO(x:Bool):∃v r,M0 x=v::r:=⟨_,_,rfl⟩
abbrev zno:=Rd M1 5
abbrev zxd:=Rd YK 9
abbrev z2e:=Rd KY 5
abbrev znt:=Rd Jn 1
abbrev ztv:=Rd M0 1
structure Li (bs:List Nat) (w:Wo) (o:OA) (gs:List ZV) (ms:Nat->MG):Prop where
 cells:∀i:Int,0<=i->i<(gs.length:Int)->Q1 bs w o (Int.toNat i*14) (Yv (gi gs i) (ms i.toNat))
 locals:∀i:Int,0<=i->i<(gs.length:Int)->znt bs w (ms i.toNat).lO (gi gs i).IQ.locals
 Rz:∀i:Int,0<=i->i<(gs.length:Int)->ztv bs w (ms i.toNat).dO (gi gs i).IQ.Rz
 IG:∀i:Int,0<=i->i<(gs.length:Int)->zno bs w (ms i.toNat).sO (gi gs i).IG
theorem Li.ext{bs:List Nat}{w w':Wo}{o:OA}{gs:List ZV}{ms:Nat->MG}(h:Li bs w o gs ms)(hx:Q0 bs w w'):Li bs w' o gs ms:=
 ⟨λi a b=>(h.cells i a b).ext hx,λi a b=>(h.locals i a b).ext hx,λi a b=>(h.Rz i a b).ext hx,λi a b=>(h.IG i a b).ext hx⟩
theorem Li.less{bs cs:List Nat}{w:Wo}{o:OA}{gs:List ZV}{ms:Nat->MG}(h:Li bs w o gs ms)(hs:∀x∈cs,x∈bs):Li cs w o gs ms:=
 ⟨λi a b=>(h.cells i a b).less hs,λi a b=>(h.locals i a b).less hs,λi a b=>(h.Rz i a b).less hs,λi a b=>(h.IG i a b).less hs⟩
theorem Li.wide{bs cs:List Nat}{w:Wo}{o:OA}{gs:List ZV}{ms:Nat->MG}(h:Li bs w o gs ms)(hs:∀x∈cs,x∈bs\/w.heap.size<=x):Li cs w o gs ms:=
 ⟨λi a b=>(h.cells i a b).wide hs,λi a b=>(h.locals i a b).wide hs,λi a b=>(h.Rz i a b).wide hs,λi a b=>(h.IG i a b).wide hs⟩
theorem Li.ix{bs:List Nat}{w:Wo}{o:OA}{gs:List ZV}{ms:Nat->MG}(h:Li bs w o gs ms){i:Int}(h0:0<=i)(h1:i<(gs.length:Int)):Ix o gs.length i:=
 ⟨h0,h1,(h.cells i h0 h1).some⟩
def ZQ(p:Nat)(vs:List Va):Int:=match vs[p]? with
 | some (.int _ i)=>i
 | _=>0
def zrt(I:Nat->Prop)(vs:List Va):Prop:=∃k:Nat,I k/\vs=[.int .i64 (k:Int)]
def Xe(n:Nat)(p:Nat)(vs:List Va):Nat:=((n:Int)+1-ZQ p vs).toNat
theorem XL{B:(List Va->Prop)->(List Va->Nat)->Int->Prop}(n:Nat){si:Int}(s:Nat)(hs:si=s)(I:Nat->Prop)(h0:I s)(hB:∀k:Nat,I k->B (zrt I) (Xe n 0) (k:Int)) :
  ∃(IP:List Va->Prop) (mu:List Va->Nat),IP [.int .i64 si]/\∀i:Int,IP [.int .i64 i]->B IP mu i:=by
 refine⟨zrt I,Xe n 0,⟨s,h0,by rw[hs]⟩,?_⟩;rintro i ⟨k,hI,he⟩;simp only[I5,I6,true_and,and_true] at he;subst he;exact hB k hI
theorem QI{n k:Nat}{I:Nat->Prop}(hk:k<n)(hI:I (k+1)):zrt I [.int .i64 ((k:Int)+1)]/\Xe n 0 [.int .i64 ((k:Int)+1)]<Xe n 0 [.int .i64 (k:Int)]:=by
 refine⟨⟨k+1,hI,Qs⟩,?_⟩;simp only[Xe,ZQ,Ig];omega
def zui(I:Nat->Wo->Prop)(vs:List Va)(w:Wo):Prop:=∃k:Nat,I k w/\vs=[.int .i64 (k:Int)]
def Zt(n:Nat)(p:Nat)(vs:List Va)(_:Wo):Nat:=Xe n p vs
theorem XN{B:(List Va->Wo->Prop)->(List Va->Wo->Nat)->Int->Wo->Prop}{bs L:List Nat}{wv:Wo}(n:Nat){si:Int}(s:Nat)(hs:si=s)(I:Nat->Wo->Prop)(h0:∀wr,Q0 bs wv wr->(∀bq∈L,bq<wr.heap.size)->I s wr)(hB:∀(k:Nat) (w1:Wo),(∀bq∈L,bq<w1.heap.size)->I k w1->B (zui I) (Zt n 0) (k:Int) w1) :
  ∃(IP:List Va->Wo->Prop) (mu:List Va->Wo->Nat),(∀wr,Q0 bs wv wr->(∀bq∈L,bq<wr.heap.size)->IP [.int .i64 si] wr)/\∀(i:Int) (w1:Wo),(∀bq∈L,bq<w1.heap.size)->IP [.int .i64 i] w1->B IP mu i w1:=by
 refine⟨zui I,Zt n 0,λwr hx hq=>⟨s,h0 wr hx hq,by rw[hs]⟩,?_⟩;rintro i w1 hq ⟨k,hI,he⟩;simp only[I5,I6,true_and,and_true] at he;subst he;exact hB k w1 hq hI
theorem Qt{n k:Nat}{I:Nat->Wo->Prop}{wr w1:Wo}(hk:k<n)(hI:I (k+1) wr):zui I [.int .i64 ((k:Int)+1)] wr/\Zt n 0 [.int .i64 ((k:Int)+1)] wr<Zt n 0 [.int .i64 (k:Int)] w1:=by
 refine⟨⟨k+1,hI,Qs⟩,?_⟩;simp only[Zt,Xe,ZQ,Ig];omega
def zuh(I:Int->Nat->Prop)(vs:List Va):Prop:=∃(x:Int) (k:Nat),I x k/\vs=[.int .i64 x,.int .i64 (k:Int)]
theorem P3{B:(List Va->Prop)->(List Va->Nat)->Int->Int->Prop}(n:Nat){xi si:Int}(s:Nat)(hs:si=s)(I:Int->Nat->Prop)(h0:I xi s)(hB:∀(x:Int) (k:Nat),I x k->B (zuh I) (Xe n 1) x (k:Int)) :
  ∃(IP:List Va->Prop) (mu:List Va->Nat),IP [.int .i64 xi,.int .i64 si]/\∀(x i:Int),IP [.int .i64 x,.int .i64 i]->B IP mu x i:=by
 refine⟨zuh I,Xe n 1,⟨xi,s,h0,by rw[hs]⟩,?_⟩;rintro x i ⟨x',k,hI,he⟩;simp only[I5,I6,true_and,and_true] at he;obtain⟨rfl,rfl⟩:=he;exact hB x k hI
theorem QO{n k:Nat}{I:Int->Nat->Prop}{x x':Int}(hk:k<n)(hI:I x' (k+1)):zuh I [.int .i64 x',.int .i64 ((k:Int)+1)]/\Xe n 1 [.int .i64 x',.int .i64 ((k:Int)+1)]<Xe n 1 [.int .i64 x,.int .i64 (k:Int)]:=by
 refine⟨⟨x',k+1,hI,Qs⟩,?_⟩;simp only[Xe,ZQ,Ig,List.getElem?_cons_succ];omega
theorem Js:maxLen<=9223372036854775807:=by simp[maxLen]
theorem zjw{k n:Nat}(h:(k:Int)<(n:Int))(hn:n<=maxLen):Qm .i64 ((k:Int)+1):=by
 have:=Js;exact⟨Qo,Qo⟩
end Go.Proofs.YtnclplgaicdapaaGreatDoor
