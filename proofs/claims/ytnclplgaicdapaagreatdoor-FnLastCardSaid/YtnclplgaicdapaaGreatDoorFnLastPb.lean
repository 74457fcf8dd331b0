/- Part 2 of what the law FnLast needs. -/
import Derived.Test.YtnclplgaicdapaaGreatDoorFnLastPa
import Derived.RangeFuncRecord
import Derived.OrdersIn
import Derived.TacticsIn
import Derived.Scope
set_option linter.unusedVariables false
set_option linter.unusedSimpArgs false
set_option maxRecDepth 100000
set_option maxHeartbeats 8000000
namespace Go.Proofs.YtnclplgaicdapaaGreatDoor
open Go.RowKit
def Vo(r:Option Nat):Fence:={ Fence.wide with round:=r }
theorem zbx(r:Option Nat)(n:Nat):(Vo r).room n:=λd h=>by simp[Vo,Fence.wide] at h
theorem PI{r:Option Nat}{n:Nat}{P:Program}{f:FuncId}{args:Array Va}{w:Wo}{R:Ending->Wo->Prop}(h:Calls P f args w R):CallsIn (Vo r) n P f args w R:=(callsIn_wide (n:=n)).2 h
theorem zp6{r:Option Nat}{n:Nat}{P:Program}{f:FuncId}{args:Array Va}{w:Wo}{R:Ending->Wo->Prop}(h:CallsIn (Vo r) n P f args w R):Calls P f args w R:=(callsIn_wide (n:=n)).1 h
theorem zg8{r:Option Nat}{n m:Nat}{P:Program}{l:Nat}{f:FuncId}{tmps:Array Va}{asg body:Code}{w:Wo}{R:Ending->Wo->Prop}(h:RoundIn Fence.wide n P l f tmps asg body w R):RoundIn (Vo r) m P l f tmps asg body w R:=
 ⟨trivial,λc cs _=>h.2 c cs (room_wide _)⟩
theorem zuu{r:Option Nat}{n:Nat}{P:Program}{row:String}{args:Array Va}{w:Wo}{R:Va->Wo->Prop}(h:Rows P row args w R):RowsIn (Vo r) n P row args w R:=λc cs _=>by
 obtain⟨v,w',hr,hs⟩:=h c cs;exact⟨v,w',hr,(stepsIn_wide (P:=P)).2 hs⟩
theorem zpf{r:Option Nat}{P:Program}{o:Oper}{a:Act}{w:Wo}{next:Act->Wo->Prop}{Q:Exit->Act->Wo->Prop}(hd:∀c,o.op≠.defer c)(h:o.uponIn (Vo r) 0 P a next Q ((execOp a.eval o).run P w)):o.wpIn (Vo r) 0 P a w next Q:=
 ⟨λ_ _=>trivial,by rw[Oper.semAt_eq _ _ _ hd]; exact h⟩
theorem z1q{r:Option Nat}{P:Program}{o:Oper}{a:Act}{w:Wo}{next:Act->Wo->Prop}{Q:Exit->Act->Wo->Prop}(hd:∀c,o.op≠.defer c)(h:o.wpIn (Vo r) 0 P a w next Q):o.uponIn (Vo r) 0 P a next Q ((execOp a.eval o).run P w):=by
 have:=h.2;rw[Oper.semAt_eq _ _ _ hd] at this;exact this
theorem zhx{P:Program}{o:Oper}{ρ:Operand->Va}{c:Call}(hc:o.op=.defer c)(w:Wo):(∃d w',(execOp ρ o).run P w=.ok (.defer d) w')\/∃x w',(execOp ρ o).run P w=.halt x w':=by
 simp only[execOp,hc,Sem.run_bind]
 cases hr:(resolve ρ c o.type).run P w with
 | ok d w'=>exact .inl ⟨d,w',by simp[Result.andThen]⟩
 | halt x w'=>exact .inr ⟨x,w',by simp[Result.andThen]⟩
theorem zl5{P:Program}{C:Wo->Prop}{o:Oper}{ρ:Operand->Va}{w:Wo}{v:Va}(h:Oper.quietUpon P C w v ((execOp ρ o).run P w)):∀c,o.op≠.defer c:=λc hc=>by
 rcases zhx (P:=P) (ρ:=ρ) hc w with ⟨d,w',hr⟩ | ⟨x,w',hr⟩ <;> (rw[hr] at h; exact h)
theorem B2{r:Option Nat}{P:Program}{C:Wo->Prop}{o:Oper}{a:Act}{K:Act->Prop}{K':Act->Wo->Prop}{Q':Exit->Act->Wo->Prop}{w:Wo}(hw:C w)(h:∀a w',C w'->K a->K' a w')(hh:o.quiet P a C K):o.wpIn (Vo r) 0 P a w K' Q':=by
 obtain⟨v,h1,h2⟩:=hh;have h3:=h1 w hw;refine zpf (zl5 h3) ?_;unfold Oper.quietAt at h3;generalize (execOp a.eval o).run P w=res at *
 cases res with
 | ok n w'=>
  cases n <;> simp only[Oper.quietUpon] at h3 <;> simp only[Oper.uponIn]
  case value u=>
   obtain⟨e1,e2⟩:=h3;rw[e1,e2];exact h _ _ hw h2
  case skip=>
   obtain⟨e1,e2⟩:=h3;rw[e1,<-e2];exact h _ _ hw h2
  case enter f args=>
   obtain⟨e1,e2⟩:=h3;rw[e1];exact⟨λhx=>(by simp[Vo,Fence.wide] at hx),PI (e2.mono λe lN ⟨he,hc⟩=>by subst he; exact h _ _ hc h2)⟩
 | halt x w'=>exact h3.elim
section
variable {P:Program}{b:Frame}{a:Act}{k:List Item}{cs:List Frame}{w:Wo}
theorem VU{c:Code}:step P (lone (b.atR a (.code (.scope c)::k)) cs w)=.next (lone (b.atR a (.code c :: .inScope c::k)) cs w):=
 step_lone_go (by simp[stepG,stepG.exec,Frame.atR])
theorem zgs{c:Code}:step P (lone (b.atR a (.inScope c::k)) cs w)=.next (lone (b.atR a k) cs w):=
 step_lone_go (by simp[stepG,stepG.exec,Frame.atR])
end
section
variable {F:Fence}{n:Nat}{P:Program}{Q:Exit->Act->Wo->Prop}{a:Act}{w:Wo}
theorem HT{c:Code}(h:c.wpIn F n P (Exit.noGoto Q) a w):(Code.scope c).wpIn F n P Q a w:=by
 intro b k cs hro hb hr;have h0:(lone (b.atR a (.code (.scope c)::k)) cs w).fenced P F:=fenced_calm hb hr rfl;obtain⟨e,a₁,w₁,hq,wI⟩:=h b (.inScope c::k) cs hro hb hr
 cases e with
 | normal=>exact⟨.normal,a₁,w₁,hq,.head h0 VU (StepsIn.trans wI (.one (fenced_calm hb hr rfl) zgs))⟩
 | exit id=>exact⟨.exit id,a₁,w₁,hq,λk' hk=>.head h0 VU (wI.1 k' (by simp[exitTo,hk])),λhr' hk=>(let ⟨k₁,h1,h2⟩:=wI.2 hr' (by simp[exitTo,hk]); ⟨k₁,h1,.head h0 VU h2⟩)⟩
 | goto l=>exact hq.elim
 | ret=>exact⟨_,a₁,w₁,hq,.of_steps (.one h0 VU) wI⟩
 | panic ch=>exact⟨_,a₁,w₁,hq,.of_steps (.one h0 VU) wI⟩
 | outgrown=>exact⟨_,a₁,w₁,hq,.of_steps (.one h0 VU) wI⟩
theorem B1{c:Code}(I:Nat->Act->Wo->Prop){m:Nat}(h₀:I m a w)(round:∀m a w,I m a w->c.wpIn F n P (Exit.then (λa' w'=>∃j,j<m/\I j a' w') Q) a w):(Code.loop c).wpIn F n P Q a w:=by
 intro b k cs hro hb hr
 have key:∀m a w,I m a w->∃e a' w',Q e a' w'/\ArrivesIn (Machine.fenced P F) P (lone (b.atR a (.code c :: .inLoop c::k)) cs w) b k cs e a' w':=by
  intro m
  induction m using Nat.strongRecOn with
  | _ m ih=>
   intro a w hI;obtain⟨e,a₁,w₁,hq,wI⟩:=round m a w hI b (.inLoop c::k) cs hro hb hr
   cases e with
   | normal=>
    obtain⟨j,IT,hI₁⟩:=hq;obtain⟨e₂,a₂,w₂,hq₂,harr₂⟩:=ih j IT a₁ w₁ hI₁;exact⟨e₂,a₂,w₂,hq₂,.of_steps (StepsIn.trans wI (.one (fenced_calm hb hr rfl) stepR_inLoop)) harr₂⟩
   | exit id=>exact⟨_,a₁,w₁,hq,.pass (x:=.inLoop c) rfl (λ_ _=>.inl Qs) wI⟩
   | goto l=>exact⟨_,a₁,w₁,hq,.pass (x:=.inLoop c) rfl (λ_ _=>.inl Qs) wI⟩
   | ret=>exact⟨_,a₁,w₁,hq,.pass (x:=.inLoop c) rfl (λ_ _=>.inl Qs) wI⟩
   | panic ch=>exact⟨_,a₁,w₁,hq,.pass (x:=.inLoop c) rfl (λ_ _=>.inl Qs) wI⟩
   | outgrown=>exact⟨_,a₁,w₁,hq,.pass (x:=.inLoop c) rfl (λ_ _=>.inl Qs) wI⟩
 obtain⟨e,a',w',hq,wI⟩:=key m a w h₀;exact⟨e,a',w',hq,.of_steps (.one (fenced_calm hb hr rfl) stepR_loop) wI⟩
end
def za9(v:Va)(vs:List Va):Sem Next:=do let d <-Deferred.ofValue v vs.toArray; invoke d.target d.args
def zzs(m:String)(v:Va)(vs:List Va):Sem Next:=invoke (.fn (.method m) #[]) (#[v]++vs.toArray)
def OH(P:Program)(v:Va)(vs:List Va)(w:Wo)(R:Ending->Wo->Prop):Prop:=
 (∃(f:FuncId) (as0:Array Va),(za9 v vs).run P w=.ok (.enter f as0) w/\Calls P f as0 w R) \/
 ∃(l:Nat) (f:FuncId) (tmps:Array Va) (asg body:Code),(za9 v vs).run P w=.ok (.round l f tmps asg body) w/\RoundIn Fence.wide 0 P l f tmps asg body w R
theorem OH.mono{P:Program}{v:Va}{vs:List Va}{w:Wo}{R R':Ending->Wo->Prop}(h:OH P v vs w R)(hr:∀e w',R e w'->R' e w'):OH P v vs w R':=by
 rcases h with ⟨f,as0,h1,h2⟩ | ⟨l,f,tmps,asg,body,h1,h2⟩
 ·exact .inl ⟨f,as0,h1,h2.mono hr⟩
 ·exact .inr ⟨l,f,tmps,asg,body,h1,h2.mono hr⟩
def zu8(C:Uw)(t:TypeId):Bool:=match C.T t with
 | some { agg:=_,ks:=_,d:=.int _ }=>true
 | _=>false
def F9(C:Uw):Op->Bool
 | .alloc _ | .box _ _ | .store _ _ _ | .buildSlice _ _ _=>true
 | .call { callee:=.value (.func f),args:=_,argTypes:=_ } => !(znl C.pf f).isSome
 | .call { callee:=.builtin b,args:=_,argTypes:=_ }=>match b with
  | .append | .copy=>true
  | _=>false
 | .call { callee:=.value (.tmp _),args:=_,argTypes:=_ } | .call { callee:=.invoke _ _,args:=_,argTypes:=_ }=>true
 | .makeSlice _ _ _ | .makeMap _ _ | .lookup _ _ _ _ | .mapUpdate _ _ _ _ | .insert _ _ _ _ | .range _ _ | .next _ _=>true
 | .convert s d _ => !(zu8 C s&&zu8 C d)
 | _=>false
def St.cK(S:St):St:={ S with old:=S.B.length }
def Q9(B:List Nat)(w w':Wo):Prop:=∀b∈B,w'.heap[b]? = w.heap[b]?
def z3k:Builtin->List RK
 | .append=>[.cell .slice]
 | _=>[.cell (.int .i64)]
def zuk(args:Array Operand):Array Bool:=args.map λ| .const _=>true | _=>false
def PM(z:Nat):List (Nat×Operand)->Nat->List Va->Option (List Va)
 | [],_,[]=>some []
 | (i,_)::r,k,v::vs=>bif Nat.beq i k&&Nat.beq v.cells.toList.length z then
   match PM z r (k+1) vs with
   | some l=>some (v.cells.toList++l)
   | none=>none
  else none
 | _,_,_=>none
def zcy(C:Uw)(S:St)(w:Wo)(d:Option Tmp)(t:TypeId)(cells:List Va)(e:Nat->EV)(K:St->Wo->Prop):Prop:=
 ∀b,w.heap.size<=b->E7 C { S with L:=S.L++[(t,cells)],B:=S.B++[b] } d (.un (e S.L.length)) λS'=>K S' w
def Nc(C:Uw)(S:St)(w:Wo)(d:Option Tmp)(t:TypeId)(cells:List Va)(e:Nat->EV)(K:St->Wo->Prop):Prop:=
 bif C.pm then False else ∀b w',Q0 S.bs w w'->w.heap.size<=b->w'.heap[b]? = some (Obj.cells cells.toArray t (0,0))->b∉S.B->E7 C S.cK d (.un (e b)) λS'=>K S' w'
def Kb(l:List Nat)(x:Nat):Bool:=l.any λy=>Nat.beq y x
def zj8(C:Uw)(o:Oper):Option (List Operand×List RK×Bool×(List Va->Sem Va)):=
 match o.op with
 | .makeSlice t l c=>some ([l,c],[.cell .slice],false,λ| [x,y]=>Instr.makeSlice t x y | _=>pure undef)
 | .makeMap t none=>some ([],[.cell .map],false,λ_=>Instr.makeMap t none)
 | .makeMap t (some r)=>some ([r],[.cell .map],false,λ| [x]=>Instr.makeMap t (some x) | _=>pure undef)
 | .lookup t x i ok=>match z2r C o.type with
  | some rk=>some ([x,i],rk,false,λ| [a,b]=>Instr.lookup t a b ok | _=>pure undef)
  | none=>none
 | .mapUpdate t m k x=>some ([m,k,x],[],true,λ| [a,b,c]=>do Instr.mapUpdate t a b c; pure undef | _=>pure undef)
 | .insert t m k x=>some ([m,k,x],[],true,λ| [a,b,c]=>do Instr.mapUpdate t a b c; pure undef | _=>pure undef)
 | .range t x=>some ([x],[.cell .ptr],false,λ| [a]=>Instr.range t a | _=>pure undef)
 | .convert s d x=>match z2r C o.type with
  | some rk=>some ([x],rk,false,λ| [a]=>convert s d a | _=>pure undef)
  | none=>none
 | _=>none
theorem zdm{C:Uw}{o:Oper}{xs:List Operand}{rk:List RK}{u:Bool}{f:List Va->Sem Va}(h:zj8 C o=some (xs,rk,u,f))(ρ:Operand->Va){P:Program}{w w':Wo}{v:Va}(hr:(f (xs.map ρ)).run P w=.ok v w') :
  (execOp ρ o).run P w=.ok (if u then .skip else .value v) w':=by
 unfold zj8 at h
 split at h
 case h_5 t m k x ho=>
  simp only[I1,Prod.mk.injEq] at h;obtain⟨rfl,rfl,rfl,rfl⟩:=h;simp only[List.map_cons,List.map_nil,Sem.run_bind,Sem.run_pure] at hr;simp only[execOp,ho,Sem.run_bind,Sem.run_pure,if_true];generalize (Instr.mapUpdate t (ρ m) (ρ k) (ρ x)).run P w=q at hr ⊢
  cases q <;> simp_all [Result.andThen]
 case h_6 t m k x ho=>
  simp only[I1,Prod.mk.injEq] at h;obtain⟨rfl,rfl,rfl,rfl⟩:=h;simp only[List.map_cons,List.map_nil,Sem.run_bind,Sem.run_pure] at hr;simp only[execOp,ho,Sem.run_bind,Sem.run_pure,if_true];generalize (Instr.mapUpdate t (ρ m) (ρ k) (ρ x)).run P w=q at hr ⊢
  cases q <;> simp_all [Result.andThen]
 all_goals
  (try split at h)
  all_goals first
   | cases h; done
   | (rename_i ho _ _ _
      simp only[I1,Prod.mk.injEq] at h;obtain⟨rfl,rfl,rfl,rfl⟩:=h;simp only[List.map_cons,List.map_nil] at hr;simp[execOp,ho,hr]
      done)
   | (rename_i ho
      simp only[I1,Prod.mk.injEq] at h;obtain⟨rfl,rfl,rfl,rfl⟩:=h;simp only[List.map_cons,List.map_nil] at hr;simp[execOp,ho,hr])
def Ma(w:Wo)(b:Nat)(s:ByteArray)(p:Nat):Wo:={ w with heap:=w.heap.setIfInBounds b (.stringIter s p) }
def z1v(C:Uw)(S:St)(w:Wo)(o:Oper)(pc:List (Nat×Bool))(K:St->Wo->Prop):Prop:=
 match o.op with
 | .alloc t=>match C.T t with
  | some ty=>bif ty.ks.contains .other then False
   else match o.dst with
    | some d=>bif Kb C.vis d then Nc C S w o.dst t (ty.ks.map zv) (λb=>.el (some ⟨b,0,none⟩) 0) K else zcy C S w o.dst t (ty.ks.map zv) (λi=>.loc i 0) K
    | none=>False
  | none=>False
 | .box t x=>match GL S pc x with
  | some v=>match o.dst with
    | some d=>bif Kb C.vis d then Nc C S w o.dst t v.cells.toList (λb=>.el (some ⟨b,0,none⟩) 0) K else zcy C S w o.dst t v.cells.toList (λi=>.loc i 0) K
    | none=>False
  | none=>False
 | .buildSlice t n parts=>match C.T t,Ky S pc (parts.toList.map (·.2)) with
  | some { agg:=_,ks:=_,d:=.slice e z },some vs=>match C.T e,PM z parts.toList 0 vs with
   | some _,some cells=>bif Nat.beq n vs.length&&Nat.blt 0 z&&Nat.blt 0 n&&Nat.blt (n*z) 16777216 then
     (match o.dst with
      | some d=>bif Kb C.vis d then Nc C S w o.dst e cells (λb=>.v (.slice (some ⟨b,0,none⟩) n n)) K else zcy C S w o.dst e cells (λi=>.ls i n) K
      | none=>False)
    else False
   | _,_=>False
  | _,_=>False
 | .store t x y=>match C.T t,zd6 S pc x,GL S pc y with
  | some ty,some (.loc id off),some v=>match S.L[id]? with
   | some (t',cs)=>bif Nat.beq v.cells.toList.length ty.ks.length&&Nat.ble (off+v.cells.toList.length) cs.length&&Zi v.cells.toList && !Kb S.lk id then
     K { S with L:=S.L.set id (t',cs.take off++v.cells.toList++cs.drop (off+v.cells.toList.length)) } w
    else False
   | none=>False
  | some ty,some (.le id i m),some v=>match S.L[id]? with
   | some (t',cs)=>bif Nat.beq v.cells.toList.length ty.ks.length&&Nat.beq v.cells.toList.length 1&&Zi [v] && !Kb S.lk id then
     (i.toNat+m<cs.length)/\zla (cs.map z28) λvs=>cs.set (i.toNat+m) v=vs/\K { S with L:=S.L.set id (t',vs) } w
    else False
   | none=>False
  | some ty,some (.el ob n),some v=>bif Nat.beq v.cells.toList.length ty.ks.length&&Zi v.cells.toList && !C.pm&&Nat.blt 0 ty.ks.length then
    Yk S.bs w ob n v.cells.toList.length/\K S (R8 w ob n v.cells.toList)
   else False
  | some ty,some (.v (.pointer ob)),some v=>bif Nat.beq v.cells.toList.length ty.ks.length&&Zi v.cells.toList && !C.pm&&Nat.blt 0 ty.ks.length then
    Yk S.bs w ob 0 v.cells.toList.length/\K S (R8 w ob 0 v.cells.toList)
   else False
  | _,_,_=>False
 | .call { callee:=.value (.func f),args:=args,argTypes:=_ }=>match znl C.ef f,Ky S pc args.toList with
  | some rks,some vs=>bif C.pm then False else ∀wr,Q0 S.bs w wr->(∀b∈S.B,b<wr.heap.size)->Jv S wr (zl6 S pc args.toList)
    (Calls C.P f vs.toArray wr λe w'=>HW rks λr=>e=.returned r/\Q9 S.B wr w'/\E7 C S.cK o.dst (.un (.v r)) λS'=>K S' w')
  | _,_=>False
 | .call { callee:=.builtin bi,args:=args,argTypes:=ts }=>match Ky S pc args.toList with
  | some vs=>bif C.pm then False else ∀wr,Q0 S.bs w wr->(∀b∈S.B,b<wr.heap.size)->Jv S wr (zl6 S pc args.toList)
    (HW (z3k bi) λr=>∃w',(builtin bi ts o.type (zuk args) vs.toArray).run C.P wr=.ok (.value r) w'/\Q9 S.B wr w'/\E7 C S.cK o.dst (.un (.v r)) λS'=>K S' w')
  | none=>False
 | .call { callee:=.value (.tmp t),args:=args,argTypes:=_ }=>match GL S pc (.tmp t),Ky S pc args.toList,z2r C o.type with
  | some v,some vs,some rks=>bif C.pm then False else ∀wr,Q0 S.bs w wr->(∀b∈S.B,b<wr.heap.size)->Jv S wr (zl6 S pc args.toList)
    (OH C.P v vs wr λe w'=>HW rks λr=>e=.returned r/\Q9 S.B wr w'/\E7 C S.cK o.dst (.un (.v r)) λS'=>K S' w')
  | _,_,_=>False
 | .call { callee:=.invoke rc m,args:=args,argTypes:=_ }=>match GL S pc rc,Ky S pc args.toList,z2r C o.type with
  | some v,some vs,some rks=>bif C.pm then False else ∀wr,Q0 S.bs w wr->(∀b∈S.B,b<wr.heap.size)->Jv S wr (zl6 S pc args.toList)
    (∃(f:FuncId) (as0:Array Va),(zzs m v vs).run C.P wr=.ok (.enter f as0) wr/\Calls C.P f as0 wr λe w'=>HW rks λr=>e=.returned r/\Q9 S.B wr w'/\E7 C S.cK o.dst (.un (.v r)) λS'=>K S' w')
  | _,_,_=>False
 | .next it true=>match GL S pc it with
  | some (.pointer ob)=>bif C.pm then False else ∀wr,Q0 S.bs w wr->(∀b∈S.B,b<wr.heap.size)->
    ∃(b:Nat) (s:ByteArray) (pos:Nat),ob=some ⟨b,0,none⟩/\b∉S.B/\wr.heap[b]? = some (.stringIter s pos)/\
     (s.size<=pos->E7 C S.cK o.dst (.un (.v (.tuple #[.bool false]))) λS'=>K S' wr)/\
     (pos<s.size->E7 C S.cK o.dst (.un (.v (.tuple #[.bool true,.int .i64 pos,.int .i32 (Utf8.decode s pos).1]))) λS'=>K S' (Ma wr b s (pos+(Utf8.decode s pos).2)))
  | _=>False
 | _=>match zj8 C o with
  | some (xs,rk,u,f)=>match Ky S pc xs with
   | some vs=>bif C.pm then False else ∀wr,Q0 S.bs w wr->(∀b∈S.B,b<wr.heap.size)->
     (bif u then (match o.dst with
      | none=>∃w',(f vs).run C.P wr=.ok undef w'/\Q9 S.B wr w'/\K S.cK w'
      | some _=>False)
     else HW rk λr=>∃w',(f vs).run C.P wr=.ok r w'/\Q9 S.B wr w'/\E7 C S.cK o.dst (.un (.v r)) λS'=>K S' w')
   | none=>False
  | none=>False
structure MU (S S':St):Prop where
 B:∀(id b:Nat),S.B[id]? = some b->S'.B[id]? = some b
 ty:∀(id:Nat) (t:TypeId) (cs:List Va),S.L[id]? = some (t,cs)->∃nL:List Va,S'.L[id]? = some (t,nL)
 lk:∀id∈S.lk,id∈S'.lk/\S'.L[id]? = S.L[id]?
theorem MU.refl(S:St):MU S S:=⟨λ_ _ h=>h,λ_ _ cs h=>⟨cs,h⟩,λ_ h=>⟨h,rfl⟩⟩
theorem MU.trans{S S' uL:St}(h:MU S S')(k:MU S' uL):MU S uL:=
 ⟨λid b hb=>k.B id b (h.B id b hb),λid t cs hc=>(let ⟨cs1,h1⟩:=h.ty id t cs hc; k.ty id t cs1 h1),λid hi=>⟨(k.lk id (h.lk id hi).1).1,((k.lk id (h.lk id hi).1).2).trans (h.lk id hi).2⟩⟩
theorem MU.cG{S S':St}(h:MU S S')(d:Option Tmp)(sv:SV):MU S (S'.cG d sv):=by
 cases d <;> exact⟨h.B,h.ty,h.lk⟩
theorem Zl.cG{S:St}{w wr:Wo}(h:Zl S w wr)(d:Option Tmp)(sv:SV):Zl (S.cG d sv) w wr:=by
 cases d <;> exact⟨h.ext,h.loc,h.len,h.oI,h.fresh⟩
theorem Ku{l:List Nat}{x:Nat}(h:Kb l x=false):x∉l:=by
 intro hx;have:Kb l x=true:=by simp only[Kb,List.any_eq_true]; exact⟨x,hx,Nat.beq_refl x⟩
 rw[h] at this; cases this
structure Lx (S:St):Prop where
 old:S.old<=S.B.length
 lk:∀id∈S.lk,id<S.L.length
theorem Lx.cG{S:St}(h:Lx S)(d:Option Tmp)(sv:SV):Lx (S.cG d sv):=by
 cases d <;> exact⟨h.old,h.lk⟩
theorem Lx.cK{S:St}(h:Lx S):Lx S.cK:=⟨I8 _,h.lk⟩
theorem Zl.push{S:St}{w wr:Wo}(h:Zl S w wr)(ho:S.old<=S.B.length)(t:TypeId)(cells:List Va) :
  Zl { S with L:=S.L++[(t,cells)],B:=S.B++[wr.heap.size] } w (wr.alloc (.cells cells.toArray t)):=by
 have IT:∀b∈S.B,b<wr.heap.size:=λb hb=>by
  obtain⟨id,bE⟩:=List.getElem?_of_mem hb;have hl:id<S.L.length:=by rw[h.len]; exact(I9.1 bE).1
  obtain⟨b',iO,hh⟩:=h.loc id (S.L[id]).1 (S.L[id]).2 (by rw[Im hl]);rw[bE] at iO; cases iO;exact j9 hh
 have hbs:(S.B++[wr.heap.size]).take S.old=S.B.take S.old:=List.take_append_of_le_length ho;refine⟨?_,λid t' cs hl=>?_,by simp[h.len],?_,λid b bE hb=>?_⟩
 ·show Q0 ((S.B++[wr.heap.size]).take S.old) w _;rw[hbs]; exact h.ext.alloc _
 ·by_cases hi:id<S.L.length
  ·have hl':S.L[id]? = some (t',cs):=by rw[<-hl]; exact(Iq hi).symm
   obtain⟨b,hb,hh⟩:=h.loc id t' cs hl';refine⟨b,?_,(Below.heap_alloc wr _ b (j9 hh)).trans hh⟩;show (S.B++[wr.heap.size])[id]? = some b;rw[Iq (by rw[<-h.len]; exact hi)]; exact hb
  ·have hi':id=S.L.length:=by
    have:id<(S.L++[(t,cells)]).length:=(I9.1 hl).1;simp at this; omega
   subst hi';simp only[List.getElem?_concat_length,I1,Prod.mk.injEq] at hl;obtain⟨rfl,rfl⟩:=hl;refine⟨wr.heap.size,?_,heap_alloc_new wr _⟩;show (S.B++[wr.heap.size])[S.L.length]? = _;rw[h.len]; simp
 ·refine List.nodup_append.2 ⟨h.oI,Qs,λx hx y hy=>?_⟩;simp only[IA] at hy;subst hy;have:=IT x hx;omega
 ·have iO:(S.B++[wr.heap.size])[id]? = some b:=hb
  by_cases hi:id<S.B.length
  ·rw[Iq hi] at iO;exact h.fresh id b bE iO
  ·have:id=S.B.length:=by
    have:id<(S.B++[wr.heap.size]).length:=(I9.1 iO).1;simp at this; omega
   subst this;simp at iO;subst iO;exact h.ext.size
theorem Zl.age{S:St}{w wr Wu:Wo}(h:Zl S w wr)(hk:Q9 S.B wr Wu):Zl S.cK Wu Wu:=
 ⟨Q0.refl _ _,λid t cs hl=>by
  obtain⟨b,hb,hh⟩:=h.loc id t cs hl;exact⟨b,hb,(hk b (List.mem_of_getElem? hb)).trans hh⟩,h.len,h.oI,λid b bE hb=>by
  have:id<S.B.length:=(I9.1 hb).1;simp only[St.cK] at bE;omega⟩
theorem Zl.lt{S:St}{w wr:Wo}(h:Zl S w wr):∀b∈S.B,b<wr.heap.size:=λb hb=>by
 obtain⟨id,bE⟩:=List.getElem?_of_mem hb;have hl:id<S.L.length:=by rw[h.len]; exact(I9.1 bE).1
 obtain⟨b',iO,hh⟩:=h.loc id (S.L[id]).1 (S.L[id]).2 (by rw[Im hl]);rw[bE] at iO; cases iO;exact j9 hh
theorem Zl.C67{S:St}{w wr:Wo}(h:Zl S w wr){i j b:Nat}(hi:S.B[i]? = some b)(hj:S.B[j]? = some b):i=j:=by
 obtain⟨h1l,h1e⟩:=I9.1 hi;obtain⟨h2l,h2e⟩:=I9.1 hj;have hp:=List.pairwise_iff_getElem.1 h.oI;rcases Nat.lt_trichotomy i j with IT | heq | hgt
 ·exact Is (h1e.trans h2e.symm) (hp i j h1l h2l IT)
 ·exact heq
 ·exact Is (h2e.trans h1e.symm) (hp j i h2l h1l hgt)
theorem zkq{P:Program}{T:TypeId->Option Ty}(hT:zto P T){t:TypeId}{ty:Ty}(ht:T t=some ty)(lA:ty.ks.contains .other=false) :
  ∃i z,P.info? t=some i/\i.zero=some z/\z.cells=(ty.ks.map zv).toArray:=by
 obtain⟨i,z,hi,hz,_,hks⟩:=(hT.facts ht).info;refine⟨i,z,hi,hz,?_⟩
 have h0:∀(l:List Va),(l.map Mw).contains .other=false->(l.map Mw).map zv=l:=by
  intro l
  induction l with
  | nil=>intro _; rfl
  | cons x r ih=>
   intro hc;simp only[List.map_cons,List.contains_cons,I0] at hc;have hx:Mw x≠.other:=by intro e; rw[e] at hc; simp at hc
   simp only[List.map_cons,ih hc.2,<-zi2 hx]
 have h1:=h0 z.cells.toList (by rw[hks]; exact lA);rw[hks] at h1;rw[h1,Array.toArray_toList]
theorem EV.gZ{S S':St}(h:CS S S'):∀{e:EV} {u:Va},EV.den S e u->EV.den S' e u
 | .v _,_,h'=>h'
 | .el _ _,_,h'=>h'
 | .loc _ _,_,⟨b,hb,h'⟩=>⟨b,h _ _ hb,h'⟩
 | .ls _ _,_,⟨b,hb,h'⟩=>⟨b,h _ _ hb,h'⟩
 | .le _ _ _,_,⟨b,hb,h'⟩=>⟨b,h _ _ hb,h'⟩
 | .no,_,h'=>h'
 | .kb _,_,h'=>h'
theorem MT.mono{n:Nat}{S S':St}{ops:Array Oper}{D:Nat->Prop}{a:Act}(h:MT n S ops D a)(hl:CS S S')(hF:S'.F=S.F)(hr:S'.r=S.r):MT n S' ops D a:=
 ⟨⟨h.fit.size,λi s hs=>by
  rw[hF] at hs;have:=h.fit.fits i s hs
  cases s with
  | un x=>exact EV.gZ hl this
  | gd r pc x=>
   intro hrr;rw[hr] at hrr;have h1:=this hrr;exact⟨λhp=>EV.gZ hl (h1.1 hp),h1.2⟩⟩,λi pc x hx=>by rw[hF,hr] at hx; exact h.dn i pc x hx,λi r pc x hx=>by rw[hF] at hx; rw[hr]; exact h.st i r pc x hx⟩
def zkf(cs:List Va):Nat->List Va->List Va
 | _,[]=>cs
 | k,v::r=>zkf (cs.set k v) (k+1) r
theorem Hp:∀(vs cs:List Va) (k:Nat),k+vs.length<=cs.length->zkf cs k vs=cs.take k++vs++cs.drop (k+vs.length)
 | [],cs,k,_=>by simp[zkf]
 | v::r,cs,k,h=>by
  simp only[zkf,List.length_cons] at *;rw[Hp r (cs.set k v) (k+1) (by simp; omega)];have hk:k<cs.length:=Qo;rw[List.take_succ_eq_append_getElem (by simpa using hk),List.getElem_set_self,List.take_set_of_le (I8 _),List.drop_set_of_lt Qo];simp[Nat.add_assoc,Nat.add_comm 1]
theorem Eb:∀(vs:List Va) (w:Wo) (b k n:Nat) (cs:List Va) (t:TypeId) (fz:Nat×Nat),w.heap[b]? = some (.cells cs.toArray t fz)->
  (eI w ⟨b,k,none⟩ n vs).heap[b]? = some (.cells (zkf cs (k+n) vs).toArray t fz)
 | [],_,_,_,_,_,_,_,h=>h
 | v::r,w,b,k,n,cs,t,fz,h=>by
  simp only[eI,zkf];refine Eb r _ b k (n+1) (cs.set (k+n) v) t fz ?_;rw[Addr.add_lit];simp only[World.setCell,Array.getElem?_modify,if_true,h,Option.map_some,Option.isSome_none,Bool.false_eq_true,if_false];simp
structure ztr (C:Uw) (S:St) (w:Wo) (o:Oper) (a:Act) (K:St->Wo->Prop) (N:Act->Wo->Prop):Prop where
 go:∀(S1:St) (w' Wu:Wo) (e:EV) (v:Va),MU S S1->S1.F=S.F->S1.r=S.r->Lx S1->Zl S1 w' Wu->(C.pm=true->w'=w/\S1.old=S.old)->EV.den S1 e v->(∀x,o.dst=some x->x<C.n/\x<4000)->K (S1.cG o.dst (.un e)) w'->N (a.put o.dst v) Wu
theorem zj0{C:Uw}{S:St}{w:Wo}{o:Oper}{a:Act}{K:St->Wo->Prop}{N:Act->Wo->Prop}(hN:ztr C S w o a K N){wr:Wo}(hw:Zl S w wr)(WS:Lx S){t:TypeId}{cells:List Va}{e:Nat->EV}(h:zcy C S w o.dst t cells e K){v:Va}(hv:EV.den { S with L:=S.L++[(t,cells)],B:=S.B++[wr.heap.size] } (e S.L.length) v):N (a.put o.dst v) (wr.alloc (.cells cells.toArray t)):=by
 obtain⟨h1,h2⟩:=YD (h wr.heap.size hw.ext.size);refine hN.go { S with L:=S.L++[(t,cells)],B:=S.B++[wr.heap.size] } w _ (e S.L.length) v ⟨λid b hb=>?_,λid t' cs hc=>⟨cs,?_⟩,λid hi=>⟨hi,?_⟩⟩ rfl rfl ⟨by simp; have:=WS.old; omega,λid hi=>by have:=WS.lk id hi; simp; omega⟩ (hw.push WS.old t cells) (λ_=>⟨rfl,rfl⟩) hv h2 h1
 ·show (S.B++[wr.heap.size])[id]? = some b;rw[Iq (I9.1 hb).1]; exact hb
 ·show (S.L++[(t,cells)])[id]? = some (t',cs);rw[Iq (I9.1 hc).1]; exact hc
 ·exact Iq (WS.lk id hi)
theorem zj1{C:Uw}{S:St}{w:Wo}{o:Oper}{a:Act}{K:St->Wo->Prop}{N:Act->Wo->Prop}(hN:ztr C S w o a K N){wr:Wo}(hw:Zl S w wr)(WS:Lx S){t:TypeId}{cells:List Va}{e:Nat->EV}(h:Nc C S w o.dst t cells e K){v:Va}(hv:EV.den S.cK (e wr.heap.size) v):N (a.put o.dst v) (wr.alloc (.cells cells.toArray t)):=by
 have IT:=hw.lt;unfold Nc at h
 have kV:C.pm=false:=by
  cases hp:C.pm with
  | false=>rfl
  | true=>rw[hp] at h; exact h.elim
 rw[kV] at h;simp only[cond_false] at h;obtain⟨h1,h2⟩:=YD (h wr.heap.size (wr.alloc (.cells cells.toArray t)) (hw.ext.alloc _) hw.ext.size (heap_alloc_new wr _) (λhb=>by have:=IT _ hb; omega));exact hN.go S.cK _ _ _ v ⟨λ_ _ h=>h,λ_ _ cs h=>⟨cs,h⟩,λid hi=>⟨hi,rfl⟩⟩ rfl rfl WS.cK (hw.age λb hb=>Below.heap_alloc wr _ b (IT b hb)) (λhp=>by rw[kV] at hp; cases hp) hv h2 h1
theorem HU{z:Nat}(hz:0<z):∀{ps:List (Nat×Operand)} {k:Nat} {vs cells:List Va},PM z ps k vs=some cells->ps.length=vs.length/\cells.length=vs.length*z/\
  ∀(pre:List Va),pre.length=k*z->∀(init:List Va),init.length=vs.length*z->
   Instr.fill (λi=>some (i*z,z)) (pre++init).toArray ((ps.map (·.1)).zip vs)=some (pre++cells).toArray
 | [],k,[],cells,h=>by
  simp only[PM,I1] at h; subst h;refine⟨rfl,Qs,λpre _ init hi=>?_⟩;have:init=[]:=List.eq_nil_of_length_eq_zero (by simpa using hi);subst this;simp[Instr.fill]
 | (i,x)::ps,k,v::vs,cells,h=>by
  simp only[PM] at h
  cases hb:(Nat.beq i k&&Nat.beq v.cells.toList.length z) with
  | false=>rw[hb] at h; cases h
  | true=>
   rw[hb] at h;simp only[cond_true] at h;simp only[A'] at hb;have e1:i=k:=Ic hb.1;have e2:v.cells.toList.length=z:=Ic hb.2;subst e1
   split at h
   ·rename_i l hl;simp only[I1] at h; subst h;obtain⟨h1,h2,h3⟩:=HU hz hl;refine⟨by simp[h1],by simp[h2,e2,Nat.add_mul]; omega,λpre hp init hi=>?_⟩;have nH:v.cells.size=z:=by simpa using e2
    have hvl:(v::vs).length*z=z+vs.length*z:=by simp[Nat.add_mul,Nat.add_comm]
    rw[hvl] at hi
    have hc:(decide (v.cells.size≠z)||decide (i*z+v.cells.size>(pre++init).toArray.size))=false:=by
     simp only[nH,List.size_toArray,Ip,hp,hi];simp
    simp only[List.map_cons,List.zip_cons_cons,Instr.fill];rw[hc];simp only[Bool.false_eq_true,if_false]
    have Ca7:∀(l:List Va) (j:Nat) (arr:List Va),(l.zipIdx j).foldl (λcs (c,j)=>cs.setIfInBounds (i*z+j) c) arr.toArray=(zkf arr (i*z+j) l).toArray:=by
     intro l
     induction l with
     | nil=>intro j arr; rfl
     | cons c l ih=>
      intro j arr;simp only[List.zipIdx_cons,List.foldl_cons,zkf];rw[show (arr.toArray.setIfInBounds (i*z+j) c)=(arr.set (i*z+j) c).toArray by simp];exact ih (j+1) _
    have hz2:(v.cells.zipIdx.foldl (λcs (c,j)=>cs.setIfInBounds (i*z+j) c) (pre++init).toArray)=(pre++v.cells.toList++init.drop z).toArray:=by
     rw[<-Array.foldl_toList,Array.toList_zipIdx];rw[Ca7 v.cells.toList 0 (pre++init),Hp _ _ _ (by simp[hp,hi,nH])];have t1:(pre++init).take (i*z)=pre:=by rw[<-hp]; exact List.take_left
     have t2:(pre++init).drop (i*z+z)=init.drop z:=by rw[<-hp,List.drop_append]; simp
     simp only[Nat.add_zero,e2,t1,t2]
    rw[hz2];have:=h3 (pre++v.cells.toList) (by simp[hp,nH,Nat.add_mul]) (init.drop z) (by simp[hi])
    simpa using this
   ·cases h
 | [],_,_::_,_,h=>by simp[PM] at h
 | (_,_)::_,_,[],_,h=>by simp[PM] at h
theorem zdq{P:Program}(t:TypeId)(v:Va)(w:Wo):(newVar t v).run P w=.ok ⟨w.heap.size,0,none⟩ (w.alloc (.cells v.cells t)):=by
 simp[newVar,newRow]
theorem Zl.BI4{S:St}{w wr:Wo}(h:Zl S w wr){id b off:Nat}{t:TypeId}{cs vs:List Va}(hl:S.L[id]? = some (t,cs))(hb:S.B[id]? = some b)(hlen:off+vs.length<=cs.length)(hold:S.old<=S.B.length) :
  Zl { S with L:=S.L.set id (t,cs.take off++vs++cs.drop (off+vs.length)) } w (eI wr ⟨b,off,none⟩ 0 vs):=by
 obtain⟨b',iO,hh⟩:=h.loc id t cs hl;rw[hb] at iO; cases iO;have bE:id<S.L.length:=(I9.1 hl).1
 have Aj9:b∈S.bs\/w.heap.size<=b:=by
  by_cases ho:S.old<=id
  ·exact .inr (h.fresh id b ho hb)
  ·refine .inl ?_;have:(S.B.take S.old)[id]? = some b:=by rw[List.getElem?_take,E' Qo]; exact hb
   exact List.mem_of_getElem? this
 obtain⟨r1,r2,r3⟩:=Hr vs wr ⟨b,off,none⟩ 0;refine⟨⟨r1.trans h.ext.os,r2.trans h.ext.tape,r3.trans h.ext.output,by rw[PK]; exact h.ext.size,λk hk hnb=>?_⟩,λid' t' nL hl'=>?_,by simp[h.len],h.oI,h.fresh⟩
 ·refine(Ow vs wr ⟨b,off,none⟩ 0 k ?_).trans (h.ext.block k hk hnb);rintro rfl;rcases Aj9 with hm | hm
  ·exact hnb hm
  ·exact Nat.lt_irrefl _ (Nat.lt_of_lt_of_le hk hm)
 ·by_cases he:id=id'
  ·subst he;simp only[List.getElem?_set_self bE,I1,Prod.mk.injEq] at hl';obtain⟨rfl,rfl⟩:=hl';refine⟨b,hb,?_⟩;rw[Eb vs wr b off 0 cs _ _ hh,Nat.add_zero,Hp _ _ _ hlen]
  ·have hl2:S.L[id']? = some (t',nL):=by rw[<-hl']; exact(List.getElem?_set_ne he).symm
   obtain⟨b2,dJ,hh2⟩:=h.loc id' t' nL hl2;refine⟨b2,dJ,?_⟩
   rw[Ow vs wr ⟨b,off,none⟩ 0 b2 (by
    show b2≠b;rintro rfl;exact he (h.C67 hb dJ))]
   exact hh2
theorem Zl.BI5{S:St}{w wr:Wo}(h:Zl S w wr){a:Addr}{n:Nat}{vs:List Va}(hb:a.block∉S.bs)(IT:a.block<w.heap.size):Zl S (eI w a n vs) (eI wr a n vs):=by
 obtain⟨r1,r2,r3⟩:=Hr vs wr a n;obtain⟨q1,q2,q3⟩:=Hr vs w a n;refine⟨⟨by rw[r1,q1]; exact h.ext.os,by rw[r2,q2]; exact h.ext.tape,by rw[r3,q3]; exact h.ext.output,by rw[PK,PK]; exact h.ext.size,λk hk hnb=>?_⟩,λid t cs hl=>?_,h.len,h.oI,λid b ho bE=>by rw[PK]; exact h.fresh id b ho bE⟩
 ·rw[PK] at hk;have he:=h.ext.block k hk hnb
  by_cases hka:k=a.block
  ·subst hka; exact zh5 vs wr w a n he
  ·rw[Ow vs wr a n k hka,Ow vs w a n k hka]; exact he
 ·obtain⟨b,bE,hh⟩:=h.loc id t cs hl;refine⟨b,bE,?_⟩;rw[Ow vs wr a n b]
  ·exact hh
  ·rintro rfl
   by_cases ho:S.old<=id
   ·have:=h.fresh id _ ho bE; omega
   ·refine hb (List.mem_of_getElem? (i:=id) ?_);show (S.B.take S.old)[id]? = _;rw[List.getElem?_take,E' Qo]; exact bE
theorem Yk.run{P:Program}{S:St}{w wr:Wo}(h:Zl S w wr){ob:OA}{n:Nat}{vs:List Va}(hx:Yk S.bs w ob n vs.length)(Bx1:0<vs.length)(h1:Zi vs=true){a:Addr}(ho:ob=some a) :
  (storeCells (a.add n) vs 0).run P wr=.ok () (eI wr (a.add n) 0 vs)/\a.block∉S.bs/\a.block<w.heap.size:=by
 obtain⟨a',ha,hb,hc⟩:=hx;rw[ho] at ha; cases ha;obtain⟨⟨u,hu⟩,_⟩:=hc n (I8 _) Qo;have IT:a.block<w.heap.size:=by have:=World.block_lt_of_cell? w _ hu; rwa[Zu] at this
 refine⟨Vt vs wr (a.add n) 0 (JT h1) λj _ hj=>?_,hb,IT⟩;obtain⟨⟨u',hu'⟩,hf'⟩:=hc (n+j) Qo Qo;have he:=h.ext.block a.block IT hb;rw[Jc];refine⟨⟨u',?_⟩,?_⟩
 ·rw[<-hu']; exact World.cell?_of_block (w:=w) (by rw[Zu]; exact he)
 ·rw[<-hf']; exact frozen?_of_block (by rw[Zu]; exact he)
theorem zdx:∀(vs:List Va) (w:Wo) (a:Addr) (n k:Nat),eI w (a.add n) k vs=eI w a (n+k) vs
 | [],_,_,_,_=>rfl
 | v::r,w,a,n,k=>by
  simp only[eI,Jc];exact zdx r _ a n (k+1)
theorem zkh{P:Program}{T:TypeId->Option Ty}(hT:zto P T){t:TypeId}{ty:Ty}(ht:T t=some ty){a:Addr}{v:Va}(hl:v.cells.toList.length=ty.ks.length){w w':Wo}(h:(storeCells a v.cells.toList).run P w=.ok () w'):(storeVar t a v).run P w=.ok () w':=by
 obtain⟨i,z,hi,_,nH,_⟩:=(hT.facts ht).info;have hn:¬v.cells.size≠ty.ks.length:=by simpa using hl
 simp only[storeVar,Sem.run_bind,Yp hi,Result.andThen_ok,nH,Sem.run_ite,C' hn,Sem.run_pure,h]
theorem zsy(parts:Array (Nat×Operand))(f:Operand->Va):(parts.map λ(i,x)=>(i,f x)).toList=(parts.toList.map (·.1)).zip ((parts.toList.map (·.2)).map f):=by
 have:(parts.map λ(i,x)=>(i,f x)).toList=parts.toList.map λ(i,x)=>(i,f x):=Qs
 rw[this];generalize parts.toList=q
 induction q with
 | nil=>rfl
 | cons y q ih=>simp[ih]
theorem zct{C:Uw}{S:St}{w:Wo}{o:Oper}{a:Act}{K:St->Wo->Prop}{N:Act->Wo->Prop}(hN:ztr C S w o a K N){wr:Wo}(hw:Zl S w wr)(WS:Lx S){t:TypeId}{cells:List Va}{e1 e2:Nat->EV}{v:Va}(h:match o.dst with
   | some d=>bif Kb C.vis d then Nc C S w o.dst t cells e1 K else zcy C S w o.dst t cells e2 K
   | none=>False)(h1:EV.den S.cK (e1 wr.heap.size) v)(h2:EV.den { S with L:=S.L++[(t,cells)],B:=S.B++[wr.heap.size] } (e2 S.L.length) v):N (a.put o.dst v) (wr.alloc (.cells cells.toArray t)):=by
 split at h
 ·rename_i d hd
  cases hm:Kb C.vis d with
  | true=>
   rw[hm] at h;simp only[cond_true] at h;exact zj1 hN hw WS h h1
  | false=>
   rw[hm] at h;simp only[cond_false] at h;exact zj0 hN hw WS h h2
 ·exact h.elim
theorem z1a{S:St}{w wr:Wo}(hw:Zl S w wr)(b:Nat):(S.B++[b])[S.L.length]? = some b:=by rw[hw.len]; simp
theorem MO{Q:Exit->Act->Wo->Prop}{C:Uw}{S:St}{w wr:Wo}{a:Act}{K:St->Wo->Prop}{N:Act->Wo->Prop}{o:Oper}(hdn:o.dst=none)(hN:ztr C S w o a K N)(hw:Zl S w wr)(WS:Lx S)(hT:zto C.P C.T){t:TypeId}{x y:Operand}(ho:o.op=.store t x y){ty:Ty}(ht:C.T t=some ty){e:EV}(hx:EV.den S e (a.eval x)){v:Va}(hy:a.eval y=v)(h:match e with
   | .loc id off=>match S.L[id]? with
    | some (t',cs)=>bif Nat.beq v.cells.toList.length ty.ks.length&&Nat.ble (off+v.cells.toList.length) cs.length&&Zi v.cells.toList && !Kb S.lk id then
      K { S with L:=S.L.set id (t',cs.take off++v.cells.toList++cs.drop (off+v.cells.toList.length)) } w
     else False
    | none=>False
   | .le id i m=>match S.L[id]? with
    | some (t',cs)=>bif Nat.beq v.cells.toList.length ty.ks.length&&Nat.beq v.cells.toList.length 1&&Zi [v] && !Kb S.lk id then
      (i.toNat+m<cs.length)/\zla (cs.map z28) λvs=>cs.set (i.toNat+m) v=vs/\K { S with L:=S.L.set id (t',vs) } w
     else False
    | none=>False
   | .el ob n=>bif Nat.beq v.cells.toList.length ty.ks.length&&Zi v.cells.toList && !C.pm&&Nat.blt 0 ty.ks.length then
     Yk S.bs w ob n v.cells.toList.length/\K S (R8 w ob n v.cells.toList)
    else False
   | .v (.pointer ob)=>bif Nat.beq v.cells.toList.length ty.ks.length&&Zi v.cells.toList && !C.pm&&Nat.blt 0 ty.ks.length then
     Yk S.bs w ob 0 v.cells.toList.length/\K S (R8 w ob 0 v.cells.toList)
    else False
   | _=>False):o.uponIn (Vo C.rd) 0 C.P a N Q ((execOp a.eval o).run C.P wr):=by
 have hgo:∀(S1:St) (w' Wu:Wo),MU S S1->S1.F=S.F->S1.r=S.r->Lx S1->Zl S1 w' Wu->(C.pm=true->w'=w/\S1.old=S.old)->K S1 w'->N (a.put o.dst undef) Wu:=λS1 w' Wu h1 h2 h3 h4 h5 h7 h6=>
  hN.go S1 w' Wu (.v undef) undef h1 h2 h3 h4 h5 h7 rfl (λx hx=>by rw[hdn] at hx; cases hx) (by rw[hdn]; exact h6)
 have WH:∀{ad:Addr} {w':Wo},a.eval x=.pointer (some ad)->v.cells.toList.length=ty.ks.length->(storeCells ad v.cells.toList).run C.P wr=.ok () w'->(execOp a.eval o).run C.P wr=.ok .skip w':=λ{ad w'} h1 h2 h3=>by
  have:=zkh hT ht h2 h3;simp[execOp,ho,h1,hy,Instr.storeAt,Instr.sureAddr,this]
 have SY:∀{id:Nat} {t':TypeId} {cs r:List Va},S.L[id]? = some (t',cs)->Kb S.lk id=false->MU S { S with L:=S.L.set id (t',r) }:=λ{id t' cs r} hl hm=>
  ⟨λ_ _ h=>h,λid' t2 cs2 h2=>by
   show ∃nL,(S.L.set id (t',r))[id']? = some (t2,nL)
   by_cases he:id=id'
   ·subst he;rw[hl] at h2;cases h2;exact⟨r,List.getElem?_set_self (I9.1 hl).1⟩
   ·exact⟨cs2,by rw[List.getElem?_set_ne he]; exact h2⟩,λid' hi=>⟨hi,by
   show (S.L.set id (t',r))[id']? = _;exact List.getElem?_set_ne (by rintro rfl; exact Ku hm hi)⟩⟩
 cases e with
 | loc id off=>
  obtain⟨b,hb,hxp⟩:=hx
  dsimp only at h
  split at h
  ·rename_i t' cs hl
   cases hc:(Nat.beq v.cells.toList.length ty.ks.length&&Nat.ble (off+v.cells.toList.length) cs.length&&Zi v.cells.toList && !Kb S.lk id) with
   | false=>rw[hc] at h; exact h.elim
   | true=>
    rw[hc] at h;simp only[cond_true] at h;simp only[A',IC] at hc;obtain⟨⟨⟨c1,c2⟩,c3⟩,c4⟩:=hc;have c1:=Ic c1;have c2:=Il c2
    have hrc:=Vt (P:=C.P) v.cells.toList wr ⟨b,off,none⟩ 0 (JT c3) (λj _ hj=>by
     rw[Addr.add_lit,GE hw hl hb];obtain⟨b',iO,hh⟩:=hw.loc id t' cs hl;rw[hb] at iO; cases iO;have IT:off+j<cs.length:=Qo;refine⟨⟨cs[off+j],Im IT⟩,?_⟩;simp[World.frozen?,hh])
    rw[WH hxp c1 hrc];exact hgo _ _ _ (SY hl c4) rfl rfl ⟨WS.old,λid hi=>by simpa using WS.lk id hi⟩ (hw.BI4 hl hb c2 WS.old) (λ_=>⟨rfl,rfl⟩) h
  ·exact h.elim
 | le id i m=>
  obtain⟨b,hb,h0,hxp⟩:=hx
  dsimp only at h
  split at h
  ·rename_i t' cs hl
   cases hc:(Nat.beq v.cells.toList.length ty.ks.length&&Nat.beq v.cells.toList.length 1&&Zi [v] && !Kb S.lk id) with
   | false=>rw[hc] at h; exact h.elim
   | true=>
    rw[hc] at h;simp only[cond_true] at h;simp only[A',IC] at hc;obtain⟨⟨⟨c1,c2⟩,c3⟩,c4⟩:=hc;have c1:=Ic c1;have c2:=Ic c2;obtain⟨IT,h⟩:=h;obtain⟨_,_,rfl,h⟩:=OY h
    have hvc:v.cells.toList=[v]:=by
     cases v with
     | agg cs=>cases c3
     | _=>rfl
    rw[<-hvc] at c3
    have hrc:=Vt (P:=C.P) v.cells.toList wr ⟨b,i.toNat+m,none⟩ 0 (JT c3) (λj _ hj=>by
     rw[Addr.add_lit,GE hw hl hb];obtain⟨b',iO,hh⟩:=hw.loc id t' cs hl;rw[hb] at iO; cases iO;have IT:i.toNat+m+j<cs.length:=Qo;refine⟨⟨cs[i.toNat+m+j],Im IT⟩,?_⟩;simp[World.frozen?,hh])
    rw[WH hxp c1 hrc];have nG:=hw.BI4 (vs:=v.cells.toList) hl hb (off:=i.toNat+m) Qo WS.old
    have he:cs.take (i.toNat+m)++v.cells.toList++cs.drop (i.toNat+m+v.cells.toList.length)=cs.set (i.toNat+m) v:=by
     rw[<-Hp _ _ _ Qo,hvc]; rfl
    rw[he] at nG;exact hgo _ _ _ (SY hl c4) rfl rfl ⟨WS.old,λid hi=>by simpa using WS.lk id hi⟩ nG (λ_=>⟨rfl,rfl⟩) h
  ·exact h.elim
 | el ob n=>
  obtain⟨ad,hob,hxp⟩:=hx
  dsimp only at h
  cases hc:(Nat.beq v.cells.toList.length ty.ks.length&&Zi v.cells.toList && !C.pm&&Nat.blt 0 ty.ks.length) with
  | false=>rw[hc] at h; exact h.elim
  | true=>
   rw[hc] at h;simp only[cond_true] at h;simp only[A',IC] at hc;obtain⟨⟨⟨c1,c2⟩,c3⟩,c4⟩:=hc;have c1:=Ic c1;have c4:0<ty.ks.length:=Il c4;obtain⟨h1,h2⟩:=h;obtain⟨hr,hbs,IT⟩:=h1.run (P:=C.P) hw Qo c2 hob;rw[WH hxp c1 hr,zdx,Nat.add_zero];subst hob;exact hgo S _ _ (MU.refl S) rfl rfl WS (hw.BI5 hbs IT) (λhp=>by rw[hp] at c3; cases c3) h2
 | v x0=>
  cases x0 with
  | pointer ob=>
    simp only[EV.den] at hx
    dsimp only at h
    cases hc:(Nat.beq v.cells.toList.length ty.ks.length&&Zi v.cells.toList && !C.pm&&Nat.blt 0 ty.ks.length) with
    | false=>rw[hc] at h; exact h.elim
    | true=>
     rw[hc] at h;simp only[cond_true] at h;simp only[A',IC] at hc;obtain⟨⟨⟨c1,c2⟩,c3⟩,c4⟩:=hc;have c1:=Ic c1;have c4:0<ty.ks.length:=Il c4;obtain⟨h1,h2⟩:=h;obtain⟨ad,hob,_⟩:=id h1;obtain⟨hr,hbs,IT⟩:=h1.run (P:=C.P) hw Qo c2 hob;rw[Addr.add_zero'] at hr;rw[WH (by rw[hx,hob]) c1 hr];subst hob;exact hgo S _ _ (MU.refl S) rfl rfl WS (hw.BI5 hbs IT) (λhp=>by rw[hp] at c3; cases c3) h2
  | _=>exact h.elim
 | ls id len=>exact h.elim
 | no=>exact h.elim
 | kb x=>exact h.elim
theorem zr6{C:Uw}(hT:zto C.P C.T)(Rt:∀f ks,znl C.ef f=some ks->OI C.P f){S:St}{w wr:Wo}{ops:Array Oper}{D:Nat->Prop}{o:Oper}{a:Act}{pc:List (Nat×Bool)}{K:St->Wo->Prop}{N:Act->Wo->Prop}{Q:Exit->Act->Wo->Prop}(hf:MT C.n S ops D a)(hw:Zl S w wr)(WS:Lx S)(hp:E5 ops a pc)(hN:ztr C S w o a K N)(h:z1v C S w o pc K)(hnd:∀t x y,o.op=.store t x y->o.dst=none):o.wpIn (Vo C.rd) 0 C.P a wr N Q:=by
 refine zpf (λc hc=>by unfold z1v at h; simp[hc,zj8] at h) ?_;unfold z1v at h
 split at h
 case h_1 t ho=>
  split at h
  ·rename_i ty ht
   cases hc:ty.ks.contains .other with
   | true=>rw[hc] at h; exact h.elim
   | false=>
    rw[hc] at h;simp only[cond_false] at h;obtain⟨i,z,hi,hz,hzc⟩:=zkq hT ht hc
    have WH:(execOp a.eval o).run C.P wr=.ok (.value (.pointer (some ⟨wr.heap.size,0,none⟩))) (wr.alloc (.cells (ty.ks.map zv).toArray t)):=by
     simp[execOp,ho,Instr.alloc,zeroValue,JU hi,hz,zdq,hzc]
    rw[WH];simp only[Oper.uponIn];exact zct hN hw WS h ⟨_,rfl,by rw[Addr.add_zero']⟩ ⟨wr.heap.size,z1a hw _,rfl⟩
  ·exact h.elim
 case h_2 t x ho=>
  split at h
  ·rename_i v hv;have hv':=QU hf.fit hp hv
   have WH:(execOp a.eval o).run C.P wr=.ok (.value (.pointer (some ⟨wr.heap.size,0,none⟩))) (wr.alloc (.cells v.cells.toList.toArray t)):=by
    simp[execOp,ho,Instr.box,zdq,hv']
   rw[WH];simp only[Oper.uponIn];exact zct hN hw WS h ⟨_,rfl,by rw[Addr.add_zero']⟩ ⟨wr.heap.size,z1a hw _,rfl⟩
  ·exact h.elim
 case h_3 t n parts ho=>
  split at h
  ·rename_i ag ks e z vs ht hvs;have hv':=XG hf.fit hp hvs
   split at h
   ·rename_i ety cells hte Cz3
    cases hb:(Nat.beq n vs.length&&Nat.blt 0 z&&Nat.blt 0 n&&Nat.blt (n*z) 16777216) with
    | false=>rw[hb] at h; exact h.elim
    | true=>
     rw[hb] at h;simp only[cond_true] at h;simp only[A'] at hb;obtain⟨⟨⟨b1,b2⟩,b3⟩,b4⟩:=hb;have b1:=Ic b1;have b2:0<z:=Il b2;have b3:0<n:=Il b3;have b4:n*z<16777216:=Il b4;obtain⟨d,hu,_,pR⟩:=(hT.facts ht).desc;obtain⟨inf,rfl,pP,C09⟩:=Mr pR.symm;obtain⟨i2,z2,hi2,hz2,DW5,_⟩:=(hT.facts hte).info;rw[pP] at hi2; cases hi2;obtain⟨_,sK,AS6⟩:=HU b2 Cz3;have hf0:=AS6 [] Qs (((Array.range (n*z)).map (z2.cells[· % z2.cells.size]!)).toList) (by simp[b1]);simp only[List.nil_append,Array.toArray_toList] at hf0;have AH3:=zsy parts a.eval;rw[hv'] at AH3
     have hn0:¬n*z=0:=by
      have:=Nat.mul_pos b3 b2;omega
     have Cy4:¬n*z>2 ^ 24:=by
      have:(2:Nat) ^ 24=16777216:=rfl;omega
     have WH:(execOp a.eval o).run C.P wr=.ok (.value (.slice (some ⟨wr.heap.size,0,none⟩) n n)) (wr.alloc (.cells cells.toArray e)):=by
      simp only[execOp,ho,Instr.buildSlice,Sem.run_bind,run_underlying hu,Result.andThen_ok,Yp pP,C09,Sem.run_ite,C' Cy4,C' hn0,zeroValue,JU pP,hz2,Sem.run_pure,AH3,hf0,newRow,run_newObj];rfl
     rw[WH];simp only[Oper.uponIn];exact zct hN hw WS h rfl ⟨wr.heap.size,z1a hw _,rfl⟩
   ·exact h.elim
  ·exact h.elim
 case h_4 t x y ho=>
  have hdn:=hnd t x y ho
  split at h
  ·rename_i ty id off v ht hx hy;exact MO hdn hN hw WS hT ho ht (Y4 hf.fit hp hx) (QU hf.fit hp hy) h
  ·rename_i ty id i m v ht hx hy;exact MO hdn hN hw WS hT ho ht (Y4 hf.fit hp hx) (QU hf.fit hp hy) h
  ·rename_i ty ob n v ht hx hy;exact MO hdn hN hw WS hT ho ht (Y4 hf.fit hp hx) (QU hf.fit hp hy) h
  ·rename_i ty ob v ht hx hy;exact MO hdn hN hw WS hT ho ht (Y4 hf.fit hp hx) (QU hf.fit hp hy) h
  ·exact h.elim
 case h_5 f args ts ho=>
  split at h
  ·rename_i rks vs hef hvs;have hv:=XG hf.fit hp hvs;have ea:args.map a.eval=vs.toArray:=by rw[<-hv,<-Array.toList_map,Array.toArray_toList]
   have kV:C.pm=false:=by
    cases hp:C.pm with
    | false=>rfl
    | true=>rw[hp] at h; exact h.elim
   rw[kV] at h;simp only[cond_false] at h;rw[zmn (Rt f rks hef) args ts a ho,ea];simp only[Oper.uponIn];refine⟨λhx=>(by simp[Vo,Fence.wide] at hx),PI ((Jv.out hw (h wr hw.ext hw.lt)).mono λe w' he=>?_)⟩;obtain⟨r,rfl,hk,hp⟩:=UA he;obtain⟨h1,h2⟩:=YD hp;exact hN.go S.cK _ _ (.v r) r ⟨λ_ _ h=>h,λ_ _ cs h=>⟨cs,h⟩,λid hi=>⟨hi,rfl⟩⟩ rfl rfl WS.cK (hw.age hk) (λhp=>by rw[kV] at hp; cases hp) rfl h2 h1
  ·exact h.elim
 case h_6 bi args ts ho=>
  split at h
  ·rename_i vs hvs;have hv:=XG hf.fit hp hvs;have ea:args.map a.eval=vs.toArray:=by rw[<-hv,<-Array.toList_map,Array.toArray_toList]
   have kV:C.pm=false:=by
    cases hp:C.pm with
    | false=>rfl
    | true=>rw[hp] at h; exact h.elim
   rw[kV] at h;simp only[cond_false] at h;obtain⟨r,w',WH,hk,hp⟩:=UA (Jv.out hw (h wr hw.ext hw.lt))
   have uN:(execOp a.eval o).run C.P wr=.ok (.value r) w':=by
    rw[<-WH];simp only[execOp,ho,resolve,Sem.run_bind,Sem.run_pure,Result.andThen_ok,invoke,ea];rfl
   rw[uN];obtain⟨h1,h2⟩:=YD hp;exact hN.go S.cK _ _ (.v r) r ⟨λ_ _ h=>h,λ_ _ cs h=>⟨cs,h⟩,λid hi=>⟨hi,rfl⟩⟩ rfl rfl WS.cK (hw.age hk) (λhp=>by rw[kV] at hp; cases hp) rfl h2 h1
  ·exact h.elim
 case h_7 t args ts ho=>
  split at h
  ·rename_i v vs rks hv0 hvs hrk;have hv1:=QU hf.fit hp hv0;have hv:=XG hf.fit hp hvs;have ea:args.map a.eval=vs.toArray:=by rw[<-hv,<-Array.toList_map,Array.toArray_toList]
   have kV:C.pm=false:=by
    cases hp:C.pm with
    | false=>rfl
    | true=>rw[hp] at h; exact h.elim
   rw[kV] at h;simp only[cond_false] at h
   have hgo:∀(e:Ending) (w':Wo),(HW rks λr=>e=.returned r/\Q9 S.B wr w'/\E7 C S.cK o.dst (.un (.v r)) λS'=>K S' w')->(match e with
     | .returned v=>N (a.put o.dst v) w'
     | .panicked chain=>Q (.panic chain) a w'
     | .outgrown=>LetsOut Q):=λe w' he=>by
    obtain⟨r,rfl,hk,hp⟩:=UA he;obtain⟨h1,h2⟩:=YD hp;exact hN.go S.cK _ _ (.v r) r ⟨λ_ _ h=>h,λ_ _ cs h=>⟨cs,h⟩,λid hi=>⟨hi,rfl⟩⟩ rfl rfl WS.cK (hw.age hk) (λhp=>by rw[kV] at hp; cases hp) rfl h2 h1
   rcases Jv.out hw (h wr hw.ext hw.lt) with ⟨f,as0,WH,hc⟩ | ⟨l,f,tmps,asg,body,WH,hc⟩
   ·have uN:(execOp a.eval o).run C.P wr=.ok (.enter f as0) wr:=by
     rw[<-WH];simp only[execOp,ho,resolve,za9,ea,hv1]
    rw[uN];simp only[Oper.uponIn];exact⟨λhx=>(by simp[Vo,Fence.wide] at hx),PI (hc.mono λe w' he=>by have:=hgo e w' he; cases e <;> exact this)⟩
   ·have uN:(execOp a.eval o).run C.P wr=.ok (.round l f tmps asg body) wr:=by
     rw[<-WH];simp only[execOp,ho,resolve,za9,ea,hv1]
    rw[uN];simp only[Oper.uponIn];exact⟨λhx=>(by simp[Vo,Fence.wide] at hx),zg8 (hc.mono λe w' he=>by have:=hgo e w' he; cases e <;> exact this)⟩
  ·exact h.elim
 case h_8 rc m args ts ho=>
  split at h
  ·rename_i v vs rks hv0 hvs hrk;have hv1:=QU hf.fit hp hv0;have hv:=XG hf.fit hp hvs;have ea:args.map a.eval=vs.toArray:=by rw[<-hv,<-Array.toList_map,Array.toArray_toList]
   have kV:C.pm=false:=by
    cases hp:C.pm with
    | false=>rfl
    | true=>rw[hp] at h; exact h.elim
   rw[kV] at h;simp only[cond_false] at h;obtain⟨f,as0,WH,hc⟩:=Jv.out hw (h wr hw.ext hw.lt)
   have uN:(execOp a.eval o).run C.P wr=.ok (.enter f as0) wr:=by
    rw[<-WH];simp only[execOp,ho,resolve,Sem.run_bind,Sem.run_pure,Result.andThen_ok,zzs,ea,hv1]
   rw[uN];simp only[Oper.uponIn];refine⟨λhx=>(by simp[Vo,Fence.wide] at hx),PI (hc.mono λe w' he=>?_)⟩;obtain⟨r,rfl,hk,hp⟩:=UA he;obtain⟨h1,h2⟩:=YD hp;exact hN.go S.cK _ _ (.v r) r ⟨λ_ _ h=>h,λ_ _ cs h=>⟨cs,h⟩,λid hi=>⟨hi,rfl⟩⟩ rfl rfl WS.cK (hw.age hk) (λhp=>by rw[kV] at hp; cases hp) rfl h2 h1
  ·exact h.elim
 case h_9 it ho=>
  split at h
  ·rename_i ob hx;have fR:=QU hf.fit hp hx
   have kV:C.pm=false:=by
    cases hp:C.pm with
    | false=>rfl
    | true=>rw[hp] at h; exact h.elim
   rw[kV] at h;simp only[cond_false] at h;obtain⟨b,s,pos,rfl,hb,hh,h1,h2⟩:=h wr hw.ext hw.lt;have hg:(getObj b).run C.P wr=.ok (.stringIter s pos) wr:=by simp[getObj,Sem.run,hh]
   by_cases IT:pos<s.size
   ·have SY:(setObj b (.stringIter s (pos+(Utf8.decode s pos).2))).run C.P wr=.ok () (Ma wr b s (pos+(Utf8.decode s pos).2)):=by
     simp[setObj,Sem.run,hh,Ma]
    have WH:(execOp a.eval o).run C.P wr=.ok (.value (.tuple #[.bool true,.int .i64 pos,.int .i32 (Utf8.decode s pos).1])) (Ma wr b s (pos+(Utf8.decode s pos).2)):=by
     simp[execOp,ho,fR,Instr.next,hg,IT,SY,goInt]
    rw[WH];simp only[Oper.uponIn];obtain⟨g1,g2⟩:=YD (h2 IT)
    have hk:Q9 S.B wr (Ma wr b s (pos+(Utf8.decode s pos).2)):=λx hx=>by
     have fH:b≠x:=λe=>hb (e▸hx)
     simp only[Ma];rw[Array.getElem?_setIfInBounds_ne fH]
    exact hN.go S.cK _ _ (.v _) _ ⟨λ_ _ h=>h,λ_ _ cs h=>⟨cs,h⟩,λid hi=>⟨hi,rfl⟩⟩ rfl rfl WS.cK (hw.age hk) (λhp=>by rw[kV] at hp; cases hp) rfl g2 g1
   ·have WH:(execOp a.eval o).run C.P wr=.ok (.value (.tuple #[.bool false])) wr:=by
     simp[execOp,ho,fR,Instr.next,hg,IT]
    rw[WH];simp only[Oper.uponIn];obtain⟨g1,g2⟩:=YD (h1 (Nat.le_of_not_lt IT));exact hN.go S.cK _ _ (.v _) _ ⟨λ_ _ h=>h,λ_ _ cs h=>⟨cs,h⟩,λid hi=>⟨hi,rfl⟩⟩ rfl rfl WS.cK (hw.age λ_ _=>rfl) (λhp=>by rw[kV] at hp; cases hp) rfl g2 g1
  ·exact h.elim
 case h_10=>
  split at h
  ·rename_i xs rk u f hpr
   split at h
   ·rename_i vs hvs;have hv:=XG hf.fit hp hvs
    have kV:C.pm=false:=by
     cases hp:C.pm with
     | false=>rfl
     | true=>rw[hp] at h; exact h.elim
    rw[kV] at h;simp only[cond_false] at h;have h:=h wr hw.ext hw.lt
    cases u with
    | true=>
     simp only[cond_true] at h
     split at h
     ·rename_i hd;obtain⟨w',hr,hk,hK⟩:=h;rw[<-hv] at hr;rw[zdm hpr a.eval hr];simp only[if_true,Oper.uponIn];exact hN.go S.cK _ _ (.v undef) undef ⟨λ_ _ h=>h,λ_ _ cs h=>⟨cs,h⟩,λid hi=>⟨hi,rfl⟩⟩ rfl rfl WS.cK (hw.age hk) (λhp=>by rw[kV] at hp; cases hp) rfl (λx hx=>by rw[hd] at hx; cases hx) (by rw[hd]; exact hK)
     ·exact h.elim
    | false=>
     simp only[cond_false] at h;obtain⟨r,w',hr,hk,hp⟩:=UA h;rw[<-hv] at hr;rw[zdm hpr a.eval hr];simp only[Bool.false_eq_true,if_false,Oper.uponIn];obtain⟨h1,h2⟩:=YD hp;exact hN.go S.cK _ _ (.v r) r ⟨λ_ _ h=>h,λ_ _ cs h=>⟨cs,h⟩,λid hi=>⟨hi,rfl⟩⟩ rfl rfl WS.cK (hw.age hk) (λhp=>by rw[kV] at hp; cases hp) rfl h2 h1
   ·exact h.elim
  ·exact h.elim
theorem znt{G:Prop->Prop}{d:TD}{op:BinOp}{a b:Va}{K:Va->Prop}(h:zk7 G d op a b K):∃v,K v:=by
 have kk:∀{p:Prop} [Decidable p] {A:Prop},(bif decide p then A else False)->A:=λ{p _ A} h=>by
  by_cases hk:p
  ·simpa[hk] using h
  ·simp[hk] at h
 unfold zk7 at h
 split at h <;> first
  | exact h.elim
  | exact⟨_,h⟩
  | exact⟨_,h.2⟩
  | exact⟨_,(kk h).2⟩
  | exact⟨_,kk h⟩
theorem zj7{a b:Operand}{cb:Bool}{x y:Va}{K:Va->Prop}(h:FJ a b cb x y K):∃v,K v:=by
 unfold FJ at h
 split at h <;> first | exact h.elim | exact⟨_,h⟩
theorem zk9{C:Uw}{S:St}{w:Wo}{ops:Array Oper}{o:Oper}{pc:List (Nat×Bool)}{K:EV->MB->Prop}(h:z2e C S w ops o pc K):∃e fact,K e fact:=by
 unfold z2e at h
 split at h
 case h_3=>
  split at h
  ·split at h
   ·split at h
    ·exact⟨_,_,h⟩
    ·exact h.elim
   ·split at h
    ·exact⟨_,_,h⟩
    ·exact h.elim
   ·split at h
    ·obtain⟨v,h⟩:=zj7 h; exact⟨_,_,h⟩
    ·exact h.elim
  ·exact h.elim
 case h_5=>
  split at h
  ·rename_i ty u v ht hu hv
   cases hb:z25 ty.d _ C.wr with
   | true=>
    rw[hb] at h;simp only[cond_true] at h;obtain⟨v,h⟩:=MF h;exact⟨_,_,h.2⟩
   | false=>
    rw[hb] at h;simp only[cond_false] at h;obtain⟨v,h⟩:=znt h;exact⟨_,_,h⟩
  ·exact h.elim
 case h_14=>
  (repeat' split at h) <;> first
   | exact h.elim
   | (obtain⟨l,_,h⟩:=N6 h; obtain⟨u,_,h⟩:=DK h; exact⟨_,_,h.2⟩)
 case h_19=>
  split at h
  ·obtain⟨l,_,h⟩:=OY h
   split at h
   ·exact⟨_,_,h.2⟩
   ·exact h.elim
  ·rename_i ty ob ht hx
   cases hk:ty.ks.isEmpty with
   | true=>rw[hk] at h; exact h.elim
   | false=>
    rw[hk] at h;obtain⟨l,_,h⟩:=OY h
    split at h
    ·exact⟨_,_,h.2⟩
    ·exact h.elim
  ·(repeat' split at h) <;> first
    | exact h.elim
    | exact⟨_,_,h⟩
  ·(repeat' split at h) <;> first
    | exact h.elim
    | (obtain⟨v,h⟩:=MF h; exact⟨_,_,h.2⟩)
  ·exact h.elim
 case h_21=>
  (repeat' split at h) <;> first
   | exact h.elim
   | (obtain⟨v,h⟩:=UA h; exact⟨_,_,h.2⟩)
 case h_16=>
  split at h
  ·rename_i ty v ht hx
   cases ho':ty.d.AP8 with
   | true=>rw[ho'] at h; exact h.elim
   | false=>rw[ho'] at h; exact⟨_,_,h⟩
  ·exact h.elim
 case h_17=>
  (repeat' split at h) <;> first
   | exact h.elim
   | (obtain⟨v,h⟩:=UA h; exact⟨_,_,h.2⟩)
 all_goals
  (repeat' split at h) <;> first
   | exact h.elim
   | exact⟨_,_,h⟩
   | exact⟨_,_,h.2⟩
   | (obtain⟨v,h⟩:=MF h; exact⟨_,_,h.2⟩)
def Dw(o:Oper):Bool:=
 match o.op,o.dst with
 | .store _ _ _,some _=>true
 | .defer _,_=>true
 | _,_=>false
def z0r(dn:Nat->Bool)(o:Oper):Bool:=
 match o.guard with
 | some (j,_)=>dn j
 | none=>true
def zqb(S:St)(ops:Array Oper)(o:Oper):Bool:=match o.guard with
 | none=>false
 | some (j,_)=>match (ops[j]?).bind (·.dst) with
  | some d=>match S.F.get d with
   | some (.gd _ _ .no)=>true
   | _=>false
  | none=>false
def BC(S:St)(ops:Array Oper)(pc:List (Nat×Bool))(o:Oper):Bool:=zqb S ops o||o.op.operands.toList.any λx=>match zd6 S pc x with
 | some .no=>true
 | _=>false
theorem Dy{n:Nat}{S:St}{ops:Array Oper}{a:Act}(hf:A4 n S ops a){pc:List (Nat×Bool)}{o:Oper}(pM:zoj S ops o=some pc)(h:BC S ops pc o=true):¬E5 ops a pc:=λhp=>by
 unfold BC at h;rcases Bool.or_eq_true_iff.1 h with h | h
 ·unfold zqb at h
  split at h
  ·cases h
  ·rename_i j want hg
   split at h
   ·rename_i d hd
    split at h
    ·rename_i r vT hv;unfold zoj at pM;rw[hg] at pM;simp only[hd,hv] at pM
     cases hr:Nat.beq r S.r with
     | false=>rw[hr] at pM; cases pM
     | true=>
      rw[hr] at pM;simp only[cond_true,I1] at pM;subst pM;exact((hf.fits d _ hv (Ic hr)).1 λp hm=>hp p (I2 _ hm)).elim
    ·cases h
   ·cases h
 ·obtain⟨x,_,hx⟩:=List.any_eq_true.1 h
  split at hx
  ·rename_i hv;exact(Y4 hf hp hv).elim
  ·cases hx
def zbr(C:Uw)(ops:Array Oper)(dn:Nat->Bool)(o:Oper)(S:St)(w:Wo)(K:MB->St->Wo->Prop):Prop:=
 bif z0r dn o && !Dw o then
  match zoj S ops o with
  | none=>False
  | some pc=>bif BC S ops pc o then E7 C S o.dst (zgt S pc .no) λS'=>K none S' w else bif F9 C o.op then (match pc with
   | []=>z1v C S w o [] (K none)
   | pc=>bif zs0 S ops pc then HN S ops pc (z1v C S w o pc (K none))/\(HN S ops pc False->E7 C S o.dst (zgt S pc .no) λS'=>K none S' w) else False)
   else z2e C S w ops o pc λe f=>E7 C S o.dst (zgt S pc e) λS'=>K f S' w
 else False
structure zzq (C:Uw) (S:St) (w:Wo) (ops:Array Oper) (D:Nat->Prop) (o:Oper) (a:Act) (S':St) (w':Wo) (a':Act) (Wu:Wo):Prop where
 fit:MT C.n S' ops D a'
 rel:Zl S' w' Wu
 wf:Lx S'
 fr:MU S S'
 r:S'.r=S.r
 put:∃v,a'=a.put o.dst v
 pm:C.pm=true->w'=w/\S'.old=S.old
theorem zok{S:St}{ops:Array Oper}{D:Nat->Prop}{n:Nat}{a:Act}(hf:MT n S ops D a){o:Oper}{pc:List (Nat×Bool)}(h:zoj S ops o=some pc)(hg:∀j b,o.guard=some (j,b)->D j):∀p∈pc,D p.1:=by
 unfold zoj at h
 split at h
 ·simp only[I1] at h; subst h; intro p hp; cases hp
 ·rename_i j want hgd
  split at h
  ·rename_i d hd
   split at h
   ·simp only[I1] at h; subst h;intro p hp;simp only[IA] at hp;subst hp;exact hg j want hgd
   ·rename_i r vT b hv
    cases hr:Nat.beq r S.r with
    | false=>rw[hr] at h; cases h
    | true=>
     rw[hr] at h;simp only[cond_true,I1] at h; subst h;intro p hp;rcases Ij.1 hp with rfl | hp
     ·exact hg j want hgd
     ·have:=Ic hr;subst this;exact hf.dn d vT _ hv p hp
   ·rename_i r vT hv
    cases hr:Nat.beq r S.r with
    | false=>rw[hr] at h; cases h
    | true=>
     rw[hr] at h;simp only[cond_true,I1] at h; subst h;intro p hp;rcases Ij.1 hp with rfl | hp
     ·exact hg j want hgd
     ·have:=Ic hr;subst this;exact hf.dn d vT _ hv p hp
   ·cases h
  ·cases h
structure zpk (C:Uw):Prop where
 T:zto C.P C.T
 pf:∀f ks,znl C.pf f=some ks->OI C.P f
 ef:∀f ks,znl C.ef f=some ks->OI C.P f
 mixed:C.P.follows .mixedOrders=true
theorem zbs{C:Uw}(E:zpk C){ops:Array Oper}{D D':Nat->Prop}{dn:Nat->Bool}{i:Nat}{o:Oper}{S:St}{w wr:Wo}{a:Act}{K:MB->St->Wo->Prop}{N:Act->Wo->Prop}{Q:Exit->Act->Wo->Prop}(hu:FZ ops=true)(ho:ops[i]? = some o)(hi:¬D i)(hD:∀j,D j->ztp ops j)(hDD:∀j,D j->D' j)(hdn:∀j,dn j=true->ztp ops j->D j)(hf:MT C.n S ops D a)(hw:Zl S w wr)(WS:Lx S)(hN:∀f S' w' a' Wu,K f S' w'->zzq C S w ops D' o a S' w' a' Wu->N a' Wu)(h:zbr C ops dn o S w K) :
  if Region.wanted o (yielded ops a.tmps) then o.wpIn (Vo C.rd) 0 C.P a wr N Q else N (a.put o.dst undef) wr:=by
 unfold zbr at h
 cases hb:(z0r dn o && !Dw o) with
 | false=>rw[hb] at h; exact h.elim
 | true=>
  rw[hb] at h;simp only[cond_true] at h;simp only[A',IC] at hb
  have hg:∀j b,o.guard=some (j,b)->D j:=λj b hgd=>by
   refine hdn j ?_ ⟨o,by rw[Array.mem_toList_iff]; exact Array.mem_of_getElem? ho,b,hgd⟩;have:=hb.1;unfold z0r at this;rw[hgd] at this;exact this
  split at h
  ·exact h.elim
  ·rename_i pc pM;have AT0:=zok hf pM hg;have pS:=GK hf.fit pM
   cases hdd:BC S ops pc o with
   | true=>
    rw[hdd] at h;simp only[cond_true] at h;have hp:=Dy hf.fit pM hdd;rw[C' (λwK=>hp (pS.1 wK))];obtain⟨h1,h2⟩:=YD h;exact hN _ _ _ _ _ h1 ⟨hf.put hu ho hi hD hDD AT0 h2 ⟨λhp'=>Is hp' hp,λ_=>rfl⟩,hw.cG _ _,WS.cG _ _,(MU.refl S).cG _ _,by cases o.dst <;> rfl,⟨undef,rfl⟩,λ_=>⟨rfl,by cases o.dst <;> rfl⟩⟩
   | false=>
   rw[hdd] at h;simp only[cond_false] at h
   cases he:F9 C o.op with
   | true=>
    rw[he] at h;simp only[cond_true] at h
    have run:E5 ops a pc->z1v C S w o pc (K none)->o.wpIn (Vo C.rd) 0 C.P a wr N Q:=λC30 h=>by
     refine zr6 E.T E.ef hf hw WS C30 ⟨λS1 w' Wu e v h1 h2 h3 h4 h5 h9 h6 h7 h8=>?_⟩ h (λt x y hs=>?_)
     ·refine hN none _ _ _ _ h8 ⟨?_,h5.cG _ _,h4.cG _ _,h1.cG _ _,by cases o.dst <;> exact h3,⟨v,rfl⟩,λhp=>by cases o.dst <;> exact h9 hp⟩;have hf1:MT C.n S1 ops D a:=hf.mono h1.B h2 h3;exact hf1.put (pc:=[]) hu ho hi hD hDD (λp hp=>by cases hp) h7 ⟨λ_=>h6,λhn=>Is (λp hp=>by cases hp) hn⟩
     ·have:=hb.2;unfold Dw at this;rw[hs] at this
      cases hd:o.dst with
      | none=>rfl
      | some d=>rw[hd] at this; cases this
    split at h
    ·have wK:Region.wanted o (yielded ops a.tmps)=true:=pS.2 (λp hp=>by cases hp);rw[E' wK];exact run (λp hp=>by cases hp) h
    ·cases hpo:zs0 S ops pc with
     | false=>rw[hpo] at h; exact h.elim
     | true=>
      rw[hpo] at h;simp only[cond_true] at h
      by_cases hp:E5 ops a pc
      ·rw[E' (pS.2 hp)];exact run hp (j8 hf.fit hp h.1)
      ·rw[C' (λwK=>hp (pS.1 wK))];obtain⟨h1,h2⟩:=YD (h.2 (zjg hf.fit hpo hp));exact hN _ _ _ _ _ h1 ⟨hf.put hu ho hi hD hDD AT0 h2 ⟨λhp'=>Is hp' hp,λ_=>rfl⟩,hw.cG _ _,WS.cG _ _,(MU.refl S).cG _ _,by cases o.dst <;> rfl,⟨undef,rfl⟩,λ_=>⟨rfl,by cases o.dst <;> rfl⟩⟩
   | false=>
    rw[he] at h;simp only[cond_false] at h
    by_cases hp:E5 ops a pc
    ·rw[E' (pS.2 hp)];obtain⟨e,fact,v,hK,CM0,lK,hq⟩:=zg6 E.T E.pf hf.fit hp h;obtain⟨h1,h2⟩:=YD hK;refine B2 (C:=Zl S w) (K:=λa'=>a'=a.put o.dst v) hw (λa' w' hw' ha'=>?_) ⟨v,λWu hw'=>hq S w a rfl (λ_ _ h=>h) lK Wu hw',rfl⟩;subst ha';exact hN _ _ _ _ _ h1 ⟨hf.put hu ho hi hD hDD AT0 h2 ⟨λ_=>CM0,λhn=>Is hp hn⟩,hw'.cG _ _,WS.cG _ _,(MU.refl S).cG _ _,by cases o.dst <;> rfl,⟨v,rfl⟩,λ_=>⟨rfl,by cases o.dst <;> rfl⟩⟩
    ·rw[C' (λwK=>hp (pS.1 wK))];obtain⟨e,fact,hK⟩:=zk9 h;obtain⟨h1,h2⟩:=YD hK;exact hN _ _ _ _ _ h1 ⟨hf.put hu ho hi hD hDD AT0 h2 ⟨λhp'=>Is hp' hp,λ_=>rfl⟩,hw.cG _ _,WS.cG _ _,(MU.refl S).cG _ _,by cases o.dst <;> rfl,⟨undef,rfl⟩,λ_=>⟨rfl,by cases o.dst <;> rfl⟩⟩
def zut(C:Uw)(ops:Array Oper):List Oper->Nat->St->Wo->(St->Wo->Prop)->Prop
 | [],_,S,w,K=>K S w
 | o::rest,k,S,w,K=>zbr C ops (λj=>Nat.blt j k) o S w λ_ S' w'=>zut C ops rest (k+1) S' w' K
def Gf:List Oper->List Nat
 | []=>[]
 | o::r=>match o.dst with
  | some d=>d::Gf r
  | none=>Gf r
def Df(ds:List Nat)(a a':Act):Prop:=a'.defers=a.defers/\a'.tmps.size=a.tmps.size/\∀i,i∉ds->a'.tmps.getD i undef=a.tmps.getD i undef
theorem Df.refl(ds:List Nat)(a:Act):Df ds a a:=⟨rfl,rfl,λ_ _=>rfl⟩
theorem Df.trans{ds:List Nat}{a b c:Act}(h:Df ds a b)(k:Df ds b c):Df ds a c:=⟨k.1.trans h.1,k.2.1.trans h.2.1,λi hi=>(k.2.2 i hi).trans (h.2.2 i hi)⟩
theorem Df.mono{ds es:List Nat}{a b:Act}(h:Df ds a b)(hs:∀x∈ds,x∈es):Df es a b:=⟨h.1,h.2.1,λi hi=>h.2.2 i (λhx=>hi (hs i hx))⟩
theorem Df.put(a:Act)(d:Option Tmp)(v:Va)(ds:List Nat)(h:∀x,d=some x->x∈ds):Df ds a (a.put d v):=by
 cases d with
 | none=>exact Df.refl _ _
 | some d=>
  refine⟨rfl,by simp[Act.put],λi hi=>?_⟩;have:d≠i:=λe=>hi (e▸h d rfl)
  simp only[Act.put,Array.getD_eq_getD_getElem?];rw[Array.getElem?_setIfInBounds_ne this]
theorem NS{C:Uw}(E:zpk C){ops:Array Oper}(hu:FZ ops=true){K:St->Wo->Prop}{Q:Exit->Act->Wo->Prop}{ds:List Nat}{S0:St}{w0:Wo}{a0:Act}(hds:∀x∈Gf ops.toList,x∈ds)(hQ:∀S' w' a' Wu,K S' w'->MT C.n S' ops (λj=>j<ops.size/\ztp ops j) a'->Zl S' w' Wu->Lx S'->MU S0 S'->S'.r=S0.r->Df ds a0 a'->(C.pm=true->w'=w0/\S'.old=S0.old)->Q .normal a' Wu) :
  ∀(l:List Oper) (k:Nat) (S:St) (w wr:Wo) (a:Act),(∀j,l[j]? = ops[k+j]?)->k+l.length=ops.size->zut C ops l k S w K->MT C.n S ops (λj=>j<k/\ztp ops j) a->Zl S w wr->Lx S->MU S0 S->S.r=S0.r->Df ds a0 a->(C.pm=true->w=w0/\S.old=S0.old)->
   wpListIn (Vo C.rd) 0 C.P ops Q l a wr
 | [],k,S,w,wr,a,_,hk,h,hf,hw,WS,wB,hr,hfa,kV=>by
  have:k=ops.size:=by simpa using hk
  subst this;exact hQ S w a wr h hf hw WS wB hr hfa kV
 | o::rest,k,S,w,wr,a,hl,hk,h,hf,hw,WS,wB,hr,hfa,kV=>by
  have ho:ops[k]? = some o:=by simpa using (hl 0).symm
  have hod:∀x,o.dst=some x->x∈ds:=λx hx=>by
   refine hds x ?_;have hm:o∈ops.toList:=by rw[Array.mem_toList_iff]; exact Array.mem_of_getElem? ho
   clear hk hl h;generalize ops.toList=q at hm
   induction q with
   | nil=>cases hm
   | cons y q ih=>
    simp only[Gf];rcases Ij.1 hm with rfl | hm
    ·rw[hx]; exact Ia ..
    ·split
     ·exact I2 _ (ih hm)
     ·exact ih hm
  have cZ:=zbs E (i:=k) (D':=λj=>j<k+1/\ztp ops j) (N:=λa' w'=>wpListIn (Vo C.rd) 0 C.P ops Q rest a' w') (Q:=Q) hu ho (λhd=>Nat.lt_irrefl _ hd.1) (λj hj=>hj.2) (λj hj=>⟨Nat.lt_succ_of_lt hj.1,hj.2⟩)
   (λj h1 h2=>⟨Il h1,h2⟩) hf hw WS (λf S' w' a' Wu hK hL=>by
    obtain⟨v,rfl⟩:=hL.put;exact NS E hu hds hQ rest (k+1) S' w' Wu _ (λj=>by have:=hl (j+1); simpa[Nat.add_assoc,Nat.add_comm 1 j] using this) (by simp at hk; omega) hK hL.fit hL.rel hL.wf (wB.trans hL.fr) (hL.r.trans hr) (hfa.trans (Df.put a o.dst v ds hod)) (λhp=>⟨(hL.pm hp).1.trans (kV hp).1,(hL.pm hp).2.trans (kV hp).2⟩)) h
  unfold wpListIn
  by_cases hwt:Region.wanted o (yielded ops a.tmps)=true
  ·rw[E' hwt] at cZ ⊢;exact cZ
  ·rw[C' hwt] at cZ ⊢;exact⟨λ_ _=>trivial,cZ⟩
theorem zxv{C:Uw}{ops:Array Oper}{dn:Nat->Bool}{o:Oper}{S:St}{w:Wo}{K:MB->St->Wo->Prop}(h:zbr C ops dn o S w K):∀c,o.op≠.defer c:=λc hc=>by
 unfold zbr at h;have:Dw o=true:=by simp[Dw,hc]
 rw[this] at h;simp at h
def UO(ops:Array Oper)(o:Oper)(a:Act):Option (Sem Next):=if Region.wanted o (yielded ops a.tmps) then some (execOp a.eval o) else none
def YS(P:Program)(R:Wo->Prop)(s:Option (Sem Next))(v:Va):Prop:=
 match s with
 | some s=>∀w,R w->Oper.quietUpon P R w v (s.run P w)
 | none=>v=undef
def C7(P:Program)(o:Oper)(a:Act)(w:Wo)(N:Va->Wo->Prop):Prop:=
 match (execOp a.eval o).run P w with
 | .ok (.value v) w'=>N v w'
 | .ok .skip w'=>N undef w'
 | .ok (.enter f args) w'=>Calls P f args w' λe lN=>∃v,e=.returned v/\N v lN
 | .ok (.row row args) w'=>Rows P row args w' λv lN=>N v lN
 | .ok (.round l f tmps asg body) w'=>RoundIn Fence.wide 0 P l f tmps asg body w' λe lN=>∃v,e=.returned v/\N v lN
 | _=>False
def T0:List Oper->List Nat->List Nat
 | [],acc=>acc
 | o::r,acc=>T0 r (acc++[o.after.toList.foldl (λs e=>if Region.binds .any e then s ||| 2 ^ e.on ||| acc.getD e.on 0 else s) 0])
def zic(M:List Nat)(i j:Nat):Bool := !(M.getD j 0).testBit i
def Ha(P:Program)(ops:Array Oper)(un:Nat->Nat->Bool)(Q:Act->(Wo->Prop)->Prop):Nat->Array Bool->List (Nat×Option (Sem Next)×Va)->Act->(Wo->Prop)->Prop
 | 0,Ro,_,a,R=>Region.ready .any ops Ro=[]/\Q a R
 | n+1,Ro,Pd,a,R=>(Region.ready .any ops Ro=[]->Q a R)/\∀i∈Region.ready .any ops Ro,∀o,ops[i]? = some o->
   (∃v,YS P R (UO ops o a) v/\Ha P ops un Q n (Ro.setIfInBounds i true) ((i,UO ops o a,v)::Pd) (a.put o.dst v) R) \/
   (Region.wanted o (yielded ops a.tmps)=true/\∀w,R w->C7 P o a w λv w'=>∃R':Wo->Prop,R' w'/\(∀p∈Pd,un p.1 i=true->YS P R' p.2.1 p.2.2)/\
    Ha P ops un Q n (Ro.setIfInBounds i true) Pd (a.put o.dst v) R')
section
variable {P:Program}{ops:Array Oper}{un:Nat->Nat->Bool}{Q:Act->(Wo->Prop)->Prop}
theorem BM{o:Oper}{a:Act}{w:Wo}{N N':Va->Wo->Prop}(h:∀v w,N v w->N' v w)(hh:C7 P o a w N):C7 P o a w N':=by
 unfold C7 at *;generalize (execOp a.eval o).run P w=r at *
 cases r with
 | ok n w'=>
  cases n <;> dsimp only at hh ⊢
  case value v=>exact h _ _ hh
  case skip=>exact h _ _ hh
  case enter f args=>exact hh.mono λe lN ⟨v,he,hn⟩=>⟨v,he,h _ _ hn⟩
  case row row args=>exact hh.mono λv lN hn=>h _ _ hn
  case round l f tmps asg body=>exact hh.mono λe lN ⟨v,he,hn⟩=>⟨v,he,h _ _ hn⟩
  all_goals exact hh
 | halt x w'=>exact hh
theorem zxt{o:Oper}{a:Act}{w:Wo}{N:Va->Wo->Prop}{K:Act->Wo->Prop}{Q':Exit->Act->Wo->Prop}{r:Option Nat}(hh:C7 P o a w N)(h:∀v w',N v w'->K (a.put o.dst v) w'):o.wpIn (Vo r) 0 P a w K Q':=by
 refine zpf (λc hc=>by unfold C7 at hh; rcases zhx (P:=P) (ρ:=a.eval) hc w with ⟨d,w',hr⟩ | ⟨x,w',hr⟩ <;> (rw[hr] at hh; exact hh)) ?_;unfold C7 at hh;generalize (execOp a.eval o).run P w=r at *
 cases r with
 | ok n w'=>
  cases n <;> dsimp only at hh <;> simp only[Oper.uponIn]
  case value v=>exact h _ _ hh
  case skip=>exact h _ _ hh
  case enter f args=>exact⟨λhx=>(by simp[Vo,Fence.wide] at hx),PI (hh.mono λe lN ⟨v,he,hn⟩=>by subst he; exact h _ _ hn)⟩
  case row row args=>exact⟨λhx=>(by simp[Vo,Fence.wide] at hx),zuu (hh.mono λv lN hn=>h _ _ hn)⟩
  case round l f tmps asg body=>exact⟨λhx=>(by simp[Vo,Fence.wide] at hx),zg8 (hh.mono λe lN ⟨v,he,hn⟩=>by subst he; exact h _ _ hn)⟩
 | halt x w'=>exact hh.elim
theorem zns{o:Oper}{a:Act}{w:Wo}{K:Act->Wo->Prop}{r:Option Nat}(hd:∀c,o.op≠.defer c)(hh:o.wpIn (Vo r) 0 P a w K λ_ _ _=>False)(hp:∀a' w',K a' w'->∃v,a'=a.put o.dst v):C7 P o a w λv w'=>K (a.put o.dst v) w':=by
 have hh:=z1q hd hh;unfold C7;generalize (execOp a.eval o).run P w=r at *
 cases r with
 | ok n w'=>
  cases n <;> simp only[Oper.uponIn] at hh ⊢
  case value v=>exact hh
  case skip=>exact hh
  case defer d=>
   obtain⟨v,hv⟩:=hp _ _ hh;have h1:(({ a with defers:=d::a.defers }:Act).put o.dst undef).defers=(a.put o.dst v).defers:=by rw[hv]
   have h2:∀(b:Act) (x:Option Tmp) (u:Va),(b.put x u).defers=b.defers:=λb x u=>by cases x <;> rfl
   rw[h2,h2] at h1;have:=congrArg List.length h1;simp at this
  case enter f args=>
   exact(zp6 hh.2).mono λe lN he=>by
    cases e with
    | returned v=>exact⟨v,rfl,he⟩
    | panicked c=>exact he.elim
    | outgrown=>obtain⟨_,_,he⟩:=he; exact he.elim
  case row row args=>exact λc cs=>(let ⟨v,w1,h1,h2⟩:=hh.2 c cs (zbx _ _); ⟨v,w1,h1,StepsIn.steps h2⟩)
  case round l f tmps asg body=>
   refine⟨trivial,λc cs _=>?_⟩;obtain⟨e,lN,he,hs⟩:=hh.2.2 c cs (zbx _ _);refine⟨e,lN,?_,hs⟩
   cases e with
   | returned v=>exact⟨v,rfl,he⟩
   | panicked c=>exact he.elim
   | outgrown=>obtain⟨_,_,he⟩:=he; exact he.elim
 | halt x w'=>cases x <;> simp only[Oper.uponIn] at hh
theorem Ef:∀{n:Nat} {Ro:Array Bool} {Pd Pd':List (Nat×Option (Sem Next)×Va)} {a:Act} {R:Wo->Prop},(∀p∈Pd',p∈Pd)->Ha P ops un Q n Ro Pd a R->Ha P ops un Q n Ro Pd' a R
 | 0,_,_,_,_,_,_,h=>h
 | n+1,Ro,Pd,Pd',a,R,hs,h=>⟨h.1,λi hi o ho=>by
  rcases h.2 i hi o ho with ⟨v,h1,h2⟩ | ⟨h1,h2⟩
  ·refine .inl ⟨v,h1,Ef (λp hp=>?_) h2⟩;rcases Ij.1 hp with rfl | hp
   ·exact Ia ..
   ·exact I2 _ (hs p hp)
  ·exact .inr ⟨h1,λw hw=>BM (λv w' ⟨R',h3,h4,h5⟩=>⟨R',h3,λp hp=>h4 p (hs p hp),Ef hs h5⟩) (h2 w hw)⟩⟩
theorem Lc{r:Option Nat}{Q':Exit->Act->Wo->Prop}(hQ:∀a R w,Q a R->R w->Q' .normal a w):∀(n:Nat) (Ro:Array Bool) (Pd:List (Nat×Option (Sem Next)×Va)) (a:Act) (R:Wo->Prop) (w:Wo),R w->Ha P ops un Q n Ro Pd a R->wpAnyIn (Vo r) 0 P .any ops Q' n Ro a w
 | 0,_,_,_,_,_,hw,h=>⟨h.1,hQ _ _ _ h.2 hw⟩
 | n+1,Ro,Pd,a,R,w,hw,h=>⟨λh0=>hQ _ _ _ (h.1 h0) hw,λi hi=>by
  obtain⟨_,o,ho,_⟩:=mem_ready.1 hi;unfold wpOpIn;simp only[ho];rcases h.2 i hi o ho with ⟨v,h1,h2⟩ | ⟨h1,h2⟩
  ·unfold UO at h1
   by_cases hwt:Region.wanted o (yielded ops a.tmps)=true
   ·rw[E' hwt] at h1 ⊢;exact B2 (C:=R) (K:=λa'=>a'=a.put o.dst v) hw (λa' w' hw' ha'=>by subst ha'; exact Lc hQ n _ _ _ R w' hw' h2) ⟨v,λw' hw'=>h1 w' hw',rfl⟩
   ·rw[C' hwt] at h1 ⊢;rw[show v=undef from h1] at h2;exact⟨λ_ _=>trivial,Lc hQ n _ _ _ R w hw h2⟩
  ·rw[E' h1];exact(zxt (h2 w hw) λv w' ⟨R',h3,_,h5⟩=>Lc hQ n _ _ _ R' w' h3 h5)⟩
theorem zs7{oi oj:Oper}{a:Act}{v:Va}(hap:oi.apart ops oj=true)(hsj:∀cs b,oj.op≠.select cs b):UO ops oj (a.put oi.dst v)=UO ops oj a:=by
 obtain⟨h1,_,_⟩:=Oper.apart_spec hap;unfold UO;rw[wanted_put oj a oi.dst v h1,execOp_put oj hsj a oi.dst v h1]
theorem zup{oi oj:Oper}{a:Act}{v:Va}{w:Wo}{N:Va->Wo->Prop}(hap:oi.apart ops oj=true)(hsj:∀cs b,oj.op≠.select cs b)(h:C7 P oj (a.put oi.dst v) w N):C7 P oj a w N:=by
 obtain⟨h1,_,_⟩:=Oper.apart_spec hap;unfold C7 at *;rw[execOp_put oj hsj a oi.dst v h1] at h;exact h
theorem za4{x y:Oper}(h:x.apart ops y=true):∀d,y.dst=some d->d∉x.looksAt ops:=(Oper.apart_spec h).2.2
def Dd(ops:Array Oper)(Ro:Array Bool):Prop:=∀j o,ops[j]? = some o->Ro.getD j true=true->∀e∈o.after,Region.binds .any e=true->Ro.getD e.on false=true
theorem zo9(BS6:∀(j:Nat) (o:Oper) cs b,ops[j]? = some o->o.op≠.select cs b)(hun:∀Ro i j,Dd ops Ro->i∈Region.ready .any ops Ro->j∈Region.ready .any ops Ro->i≠j->un i j=true){i:Nat}{oi:Oper}{v:Va}(hi:ops[i]? = some oi) :
  ∀(n:Nat) (Ro:Array Bool) (Pd:List (Nat×Option (Sem Next)×Va)) (a:Act) (R:Wo->Prop),Dd ops Ro->
   (∀j oj,ops[j]? = some oj->j≠i->Ro.getD j true=false->(∀e∈oj.after,Region.binds .any e=true->e.on≠i)->oi.apart ops oj=true)->
   i∈Region.ready .any ops Ro->YS P R (UO ops oi a) v->
   Ha P ops un Q n (Ro.setIfInBounds i true) ((i,UO ops oi a,v)::Pd) (a.put oi.dst v) R->Ha P ops un Q (n+1) Ro Pd a R:=by
 intro n
 induction n with
 | zero=>
  intro Ro Pd a R sK tQ hr hy H;refine⟨λh=>(by rw[h] at hr; cases hr),λj hj oj hoj=>?_⟩
  by_cases hji:j=i
  ·subst hji; rw[hi] at hoj; cases hoj; exact .inl ⟨v,hy,H⟩
  ·have:=ready_mono hj hji;rw[H.1] at this;cases this
 | succ n ih=>
  intro Ro Pd a R sK tQ hr hy H;refine⟨λh=>(by rw[h] at hr; cases hr),λj hj oj hoj=>?_⟩
  by_cases hji:j=i
  ·subst hji; rw[hi] at hoj; cases hoj; exact .inl ⟨v,hy,H⟩
  ·obtain⟨B81,oj',Cd8,pN⟩:=mem_ready.1 hj;rw[hoj] at Cd8; cases Cd8
   have C24:∀e∈oj.after,Region.binds .any e=true->e.on≠i:=λe he hb heq=>by
    have h1:=pN e he hb;have h0:=(mem_ready.1 hr).1;rw[heq] at h1;rcases Nat.lt_or_ge i Ro.size with h' | h'
    ·simp[h'] at h0 h1; rw[h0] at h1; cases h1
    ·simp[Array.getElem?_eq_none h'] at h1
   have hap:=tQ j oj hoj hji B81 C24;have hsj:=λcs b=>BS6 j oj cs b hoj
   have hsi:=λcs b=>BS6 i oi cs b hi
   have BR3:Dd ops (Ro.setIfInBounds j true):=λk ok hk tE e he hb=>by
    by_cases iA:j=k
    ·subst iA; rw[hoj] at hk; cases hk;exact getD_set_true (pN e he hb)
    ·rw[getD_set_ne true iA] at tE;exact getD_set_true (sK k ok hk tE e he hb)
   have Bw1:∀k ok,ops[k]? = some ok->k≠i->(Ro.setIfInBounds j true).getD k true=false->
     (∀e∈ok.after,Region.binds .any e=true->e.on≠i)->oi.apart ops ok=true:=λk ok hk hki hun lA=>by
    refine tQ k ok hk hki ?_ lA
    by_cases iA:j=k
    ·subst iA; exact B81
    ·rw[getD_set_ne true iA] at hun; exact hun
   have hr':=ready_mono hr (Ne.symm hji)
   have B88:∀u,UO ops oi (a.put oj.dst u)=UO ops oi a:=λu=>by
    unfold UO;rw[wanted_put oi a oj.dst u (za4 hap),execOp_put oi hsi a oj.dst u (za4 hap)]
   have CD9:∀u,(a.put oi.dst v).put oj.dst u=(a.put oj.dst u).put oi.dst v:=λu=>Act.put_comm a v u (Oper.apart_spec hap).2.1
   rcases H.2 j (ready_mono hj hji) oj hoj with ⟨u,h1,h2⟩ | ⟨h1,h2⟩
   ·rw[zs7 hap hsj] at h1 h2;refine .inl ⟨u,h1,ih _ _ _ R BR3 Bw1 hr' (by rw[B88 u]; exact hy) ?_⟩;rw[B88 u,<-CD9 u,Array.setIfInBounds_comm _ _ hji]
    exact Ef (λp hp=>by
     simp only[Ij] at hp ⊢;rcases hp with h | h | h
     ·exact .inr (.inl h)
     ·exact .inl h
     ·exact .inr (.inr h)) h2
   ·refine .inr ⟨?_,λw hw=>zup hap hsj (BM (λu w' ⟨R',h3,h4,h5⟩=>⟨R',h3,λp hp=>h4 p (I2 _ hp),?_⟩) (h2 w hw))⟩
    ·rw[wanted_put oj a oi.dst v (Oper.apart_spec hap).1] at h1; exact h1
    ·have hyi:YS P R' (UO ops oi a) v:=h4 _ (Ia ..) (hun Ro i j sK hr hj (Ne.symm hji));refine ih _ _ _ R' BR3 Bw1 hr' (by rw[B88 u]; exact hyi) ?_;rw[B88 u,<-CD9 u,Array.setIfInBounds_comm _ _ hji];exact h5
end
theorem zby{acc:List Nat}{i:Nat}:∀(l:List Edge) (s:Nat),(l.foldl (λs e=>if Region.binds .any e then s ||| 2 ^ e.on ||| acc.getD e.on 0 else s) s).testBit i=true->
  s.testBit i=true\/∃e∈l,Region.binds .any e=true/\(e.on=i\/(acc.getD e.on 0).testBit i=true)
 | [],s,h=>.inl h
 | e::l,s,h=>by
  rcases zby l _ h with h1 | ⟨e',he',hb,h2⟩
  ·by_cases hb:Region.binds .any e=true
   ·simp only[E' hb] at h1;simp only[Nat.testBit_or,Iv] at h1;rcases h1 with (h1 | h1) | h1
    ·exact .inl h1
    ·refine .inr ⟨e,Ia ..,hb,.inl ?_⟩;rw[Nat.testBit_two_pow] at h1
     simpa using h1
    ·exact .inr ⟨e,Ia ..,hb,.inr h1⟩
   ·simp only[C' hb] at h1;exact .inl h1
  ·exact .inr ⟨e',I2 _ he',hb,h2⟩
theorem EK:∀(l:List Oper) (acc:List Nat) (pre:List Oper),acc.length=pre.length->
  (∀(j:Nat) (o:Oper),pre[j]? = some o->∀i,(acc.getD j 0).testBit i=true->∃e∈o.after.toList,Region.binds .any e=true/\(e.on=i\/(e.on<j/\(acc.getD e.on 0).testBit i=true)))->
  ∀(j:Nat) (o:Oper),(pre++l)[j]? = some o->∀i,((T0 l acc).getD j 0).testBit i=true->∃e∈o.after.toList,Region.binds .any e=true/\(e.on=i\/(e.on<j/\((T0 l acc).getD e.on 0).testBit i=true))
 | [],acc,pre,hl,h,j,o,ho,i,hb=>by
  simp only[List.append_nil] at ho;exact h j o ho i hb
 | o'::l,acc,pre,hl,h,j,o,ho,i,hb=>by
  have Cx7:pre++o'::l=(pre++[o'])++l:=Qs;rw[Cx7] at ho;simp only[T0] at hb ⊢;refine EK l _ (pre++[o']) (by simp[hl]) (λj o ho i hb=>?_) j o ho i hb
  by_cases hj:j<pre.length
  ·rw[Iq hj] at ho;rw[List.getD_eq_getElem?_getD,Iq Qo,<-List.getD_eq_getElem?_getD] at hb;obtain⟨e,he,fQ,h2⟩:=h j o ho i hb;refine⟨e,he,fQ,?_⟩;rcases h2 with h2 | ⟨h2,h3⟩
   ·exact .inl h2
   ·refine .inr ⟨h2,?_⟩;rw[List.getD_eq_getElem?_getD,Iq Qo,<-List.getD_eq_getElem?_getD];exact h3
  ·have hj':j=pre.length:=by
    have:j<(pre++[o']).length:=(I9.1 ho).1;simp at this; omega
   subst hj';simp only[List.getElem?_concat_length,I1] at ho;subst ho;rw[<-hl] at hb;rw[List.getD_eq_getElem?_getD,List.getElem?_concat_length] at hb;simp only[Option.getD_some] at hb;rcases zby _ _ hb with h1 | ⟨e,he,fQ,h2⟩
   ·simp at h1
   ·refine⟨e,he,fQ,?_⟩;rcases h2 with h2 | h2
    ·exact .inl h2
    ·have IT:e.on<acc.length:=by
      rcases Nat.lt_or_ge e.on acc.length with h' | h'
      ·exact h'
      ·rw[List.getD_eq_getElem?_getD,List.getElem?_eq_none h'] at h2; simp at h2
     refine .inr ⟨Qo,?_⟩;rw[List.getD_eq_getElem?_getD,Iq IT,<-List.getD_eq_getElem?_getD];exact h2
theorem zm3{ops:Array Oper}(Ro:Array Bool)(i j:Nat)(sK:Dd ops Ro)(hi:i∈Region.ready .any ops Ro)(hj:j∈Region.ready .any ops Ro)(_:i≠j):zic (T0 ops.toList []) i j=true:=by
 unfold zic;rw[IC];rw[Bool.eq_false_iff];intro hb;have CG1:=EK ops.toList [] [] rfl (λj o ho=>by simp at ho);simp only[List.nil_append] at CG1;have uM:=(mem_ready.1 hi).1
 have no:Ro.getD i false≠true:=λh=>by
  rcases Nat.lt_or_ge i Ro.size with h' | h'
  ·simp[h'] at h uM; rw[h] at uM; cases uM
  ·simp[Array.getElem?_eq_none h'] at h
 have key:∀k:Nat,∀o,ops[k]? = some o->(∀e∈o.after,Region.binds .any e=true->Ro.getD e.on false=true)->((T0 ops.toList []).getD k 0).testBit i=true->False:=by
  intro k
  induction k using Nat.strongRecOn with
  | _ k ih=>
   intro o ho pN hb;obtain⟨e,he,fQ,h2⟩:=CG1 k o (by simpa using ho) i hb;have he':e∈o.after:=by rw[<-Array.mem_toList_iff]; exact he
   have hl:=pN e he' fQ;rcases h2 with h2 | ⟨h2,h3⟩
   ·rw[h2] at hl; exact no hl
   ·have IT:e.on<ops.size:=Nat.lt_trans h2 (Array.getElem?_eq_some_iff.1 ho).1;have hoe:ops[e.on]? = some ops[e.on]:=Array.getElem?_eq_getElem IT;refine ih e.on h2 _ hoe (sK e.on _ hoe ?_) h3;rcases Nat.lt_or_ge e.on Ro.size with h' | h'
    ·simp[h'] at hl ⊢; exact hl
    ·simp[Array.getElem?_eq_none h'] at hl
 obtain⟨_,o,ho,pN⟩:=mem_ready.1 hj;exact key j o ho pN hb
def DH(C:Uw)(ops:Array Oper):List Nat->Option Nat
 | []=>none
 | i::r=>match ops[i]? with
  | some o=>bif F9 C o.op then DH C ops r else some i
  | none=>DH C ops r
theorem Gi{C:Uw}{ops:Array Oper}:∀{l:List Nat} {i:Nat},DH C ops l=some i->i∈l/\∃o,ops[i]? = some o/\F9 C o.op=false
 | [],_,h=>by cases h
 | j::r,i,h=>by
  simp only[DH] at h
  split at h
  ·rename_i o ho
   cases he:F9 C o.op with
   | true=>
    rw[he] at h;obtain⟨h1,h2⟩:=Gi h;exact⟨I2 _ h1,h2⟩
   | false=>
    rw[he] at h;simp only[cond_false,I1] at h;subst h;exact⟨Ia ..,o,ho,he⟩
  ·obtain⟨h1,h2⟩:=Gi h;exact⟨I2 _ h1,h2⟩
def Nv(M:List Nat)(i:Nat)(S:St)(w:Wo):List (Nat×zd8)->Prop->Prop
 | [],A=>A
 | (j,f)::r,A=>bif zic M j i then f S w/\Nv M i S w r A else Nv M i S w r A
theorem L5{M:List Nat}{i:Nat}{S:St}{w:Wo}:∀{l:List (Nat×zd8)} {A:Prop},Nv M i S w l A->A/\∀p∈l,zic M p.1 i=true->p.2 S w
 | [],A,h=>⟨h,λp hp=>by cases hp⟩
 | (j,f)::r,A,h=>by
  simp only[Nv] at h
  cases hu:zic M j i with
  | true=>
   rw[hu] at h;obtain⟨h1,h2⟩:=h;obtain⟨h3,h4⟩:=L5 h2;refine⟨h3,λp hp hpu=>?_⟩;rcases Ij.1 hp with rfl | hp
   ·exact h1
   ·exact h4 p hp hpu
  | false=>
   rw[hu] at h;obtain⟨h3,h4⟩:=L5 (A:=A) h;refine⟨h3,λp hp hpu=>?_⟩;rcases Ij.1 hp with rfl | hp
   ·rw[hu] at hpu; cases hpu
   ·exact h4 p hp hpu
def znr(l:List Nat)(A:Nat->Prop):Prop:=
 match l with
 | []=>True
 | [i]=>A i
 | i::r=>A i/\znr r A
theorem zbp:∀{l:List Nat} {A:Nat->Prop},znr l A->∀i∈l,A i
 | [],_,_,_,hi=>by cases hi
 | [j],A,h,i,hi=>by simp only[IA] at hi; subst hi; exact h
 | j::k::r,A,h,i,hi=>by
  rcases Ij.1 hi with rfl | hi
  ·exact h.1
  ·exact zbp h.2 i hi
def zqu(i:Nat)(f:MB)(vU:List (Nat×zd8)):List (Nat×zd8):=
 match f with
 | some f=>(i,f)::vU
 | none=>vU
def DG(C:Uw)(ops:Array Oper)(M:List Nat):Nat->Array Bool->List (Nat×zd8)->St->Wo->(St->Wo->Prop)->Prop
 | 0,Ro,_,S,w,K=>match Region.ready .any ops Ro with
  | []=>K S w
  | _=>False
 | n+1,Ro,vU,S,w,K=>match Region.ready .any ops Ro with
  | []=>K S w
  | rs=>match DH C ops rs with
   | some i=>match ops[i]? with
    | some o=>bif Region.free .any ops Ro i then zbr C ops (λj=>Ro.getD j false) o S w λf S' w'=>DG C ops M n (Ro.setIfInBounds i true) (zqu i f vU) S' w' K else False
    | none=>False
   | none=>znr rs λi=>match ops[i]? with
    | some o=>zbr C ops (λj=>Ro.getD j false) o S w λ_ S' w'=>Nv M i S' w' vU (DG C ops M n (Ro.setIfInBounds i true) vU S' w' K)
    | none=>False
theorem znu{C:Uw}(E:zpk C){ops:Array Oper}{D D':Nat->Prop}{dn:Nat->Bool}{i:Nat}{o:Oper}{S:St}{w:Wo}{a:Act}{K:MB->St->Wo->Prop}(hu:FZ ops=true)(ho:ops[i]? = some o)(hi:¬D i)(hD:∀j,D j->ztp ops j)(hDD:∀j,D j->D' j)(hdn:∀j,dn j=true->ztp ops j->D j)(hf:MT C.n S ops D a)(WS:Lx S)(he:F9 C o.op=false)(h:zbr C ops dn o S w K) :
  ∃f v S',K f S' w/\MT C.n S' ops D' (a.put o.dst v)/\Lx S'/\MU S S'/\S'.r=S.r/\S'.old=S.old/\(∀w wr,Zl S w wr↔Zl S' w wr)/\YS C.P (Zl S w) (UO ops o a) v/\
   (∀(uL:St) (lN:Wo),MU S uL->zn4 f uL lN->YS C.P (Zl uL lN) (UO ops o a) v):=by
 unfold zbr at h
 cases hb:(z0r dn o && !Dw o) with
 | false=>rw[hb] at h; exact h.elim
 | true=>
  rw[hb] at h;simp only[cond_true] at h;simp only[A',IC] at hb
  have hg:∀j b,o.guard=some (j,b)->D j:=λj b hgd=>by
   refine hdn j ?_ ⟨o,by rw[Array.mem_toList_iff]; exact Array.mem_of_getElem? ho,b,hgd⟩;have:=hb.1;unfold z0r at this;rw[hgd] at this;exact this
  split at h
  ·exact h.elim
  ·rename_i pc pM;have AT0:=zok hf pM hg;have pS:=GK hf.fit pM
   have vQ:∀{sv:SV} (w wr:Wo),Zl S w wr↔Zl (S.cG o.dst sv) w wr:=λ{sv} w wr=>by
    cases o.dst
    ·exact Iff.rfl
    ·exact⟨λh=>⟨h.ext,h.loc,h.len,h.oI,h.fresh⟩,λh=>⟨h.ext,h.loc,h.len,h.oI,h.fresh⟩⟩
   cases hdd:BC S ops pc o with
   | true=>
    rw[hdd] at h;simp only[cond_true] at h;have hp:=Dy hf.fit pM hdd;have wK:¬Region.wanted o (yielded ops a.tmps)=true:=λwK=>hp (pS.1 wK)
    obtain⟨h1,h2⟩:=YD h;have hs:UO ops o a=none:=by unfold UO; rw[C' wK]
    refine⟨none,undef,_,h1,hf.put hu ho hi hD hDD AT0 h2 ⟨λhp'=>Is hp' hp,λ_=>rfl⟩,WS.cG _ _,(MU.refl S).cG _ _,by cases o.dst <;> rfl,by cases o.dst <;> rfl,vQ,?_,λuL lN wB hfc=>?_⟩ <;> (rw[hs]; rfl)
   | false=>
   rw[hdd] at h;rw[he] at h;simp only[cond_false] at h
   by_cases hp:E5 ops a pc
   ·have wK:=pS.2 hp;obtain⟨e,fact,v,hK,CM0,lK,hq⟩:=zg6 E.T E.pf hf.fit hp h;obtain⟨h1,h2⟩:=YD hK;refine⟨fact,v,_,h1,hf.put hu ho hi hD hDD AT0 h2 ⟨λ_=>CM0,λhn=>Is hp hn⟩,WS.cG _ _,(MU.refl S).cG _ _,by cases o.dst <;> rfl,by cases o.dst <;> rfl,vQ,?_,λuL lN wB hfc=>?_⟩
    ·unfold UO; rw[E' wK]; exact λwr hw=>hq S w a rfl (λ_ _ h=>h) lK wr hw
    ·unfold UO; rw[E' wK]; exact λwr hw=>hq uL lN a rfl wB.B hfc wr hw
   ·have wK:¬Region.wanted o (yielded ops a.tmps)=true:=λwK=>hp (pS.1 wK)
    obtain⟨e,fact,hK⟩:=zk9 h;obtain⟨h1,h2⟩:=YD hK;have hs:UO ops o a=none:=by unfold UO; rw[C' wK]
    refine⟨fact,undef,_,h1,hf.put hu ho hi hD hDD AT0 h2 ⟨λhp'=>Is hp' hp,λ_=>rfl⟩,WS.cG _ _,(MU.refl S).cG _ _,by cases o.dst <;> rfl,by cases o.dst <;> rfl,vQ,?_,λuL lN wB hfc=>?_⟩ <;> (rw[hs]; rfl)
def zus(C:Uw)(ops:Array Oper)(draw:Bool)(S:St)(w:Wo)(K:St->Wo->Prop):Prop:=
 bif FZ ops then
  (bif draw then
   (bif Region.noSelect ops then DG C ops (T0 ops.toList []) ops.size (Array.replicate ops.size false) [] { S with r:=S.r+1 } w λS' w'=>K { S' with r:=S'.r+1 } w' else False)
  else zut C ops ops.toList 0 { S with r:=S.r+1 } w λS' w'=>K { S' with r:=S'.r+1 } w')
 else False
structure TB (n:Nat) (S:St) (a:Act):Prop where
 size:a.tmps.size=n
 fits:∀i x,S.F.get i=some (.un x)->EV.den S x (a.tmps.getD i undef)
 old:∀i r pc x,S.F.get i=some (.gd r pc x)->r<S.r
theorem TB.enter{n:Nat}{S:St}{a:Act}(h:TB n S a)(ops:Array Oper)(D:Nat->Prop):MT n { S with r:=S.r+1 } ops D a:=
 ⟨⟨h.size,λi s hs=>by
  cases s with
  | un x=>exact EV.gZ (S:=S) (λ_ _ h=>h) (h.fits i x hs)
  | gd r pc x=>intro hr; have:=h.old i r pc x hs; simp only at hr; omega⟩,λi pc x hx=>by have:=h.old i _ pc x hx; simp only at this; omega,λi r pc x hx=>by have:=h.old i r pc x hx; show r<=S.r+1; omega⟩
theorem MT.leave{n:Nat}{S:St}{ops:Array Oper}{D:Nat->Prop}{a:Act}(h:MT n S ops D a):TB n { S with r:=S.r+1 } a:=
 ⟨h.fit.size,λi x hx=>EV.gZ (S:=S) (λ_ _ h=>h) (h.fit.fits i (.un x) hx),λi r pc x hx=>Nat.lt_succ_of_le (h.st i r pc x hx)⟩
theorem zr7{C:Uw}{ops:Array Oper}{D D':Nat->Prop}{dn:Nat->Bool}{i:Nat}{o:Oper}{S:St}{w:Wo}{a:Act}{K:MB->St->Wo->Prop}(hu:FZ ops=true)(ho:ops[i]? = some o)(hi:¬D i)(hD:∀j,D j->ztp ops j)(hDD:∀j,D j->D' j)(hdn:∀j,dn j=true->ztp ops j->D j)(hf:MT C.n S ops D a)(WS:Lx S)(he:F9 C o.op=true)(wK:¬Region.wanted o (yielded ops a.tmps)=true)(h:zbr C ops dn o S w K) :
  ∃S',K none S' w/\MT C.n S' ops D' (a.put o.dst undef)/\Lx S'/\MU S S'/\S'.r=S.r/\S'.old=S.old/\(∀w wr,Zl S w wr↔Zl S' w wr):=by
 unfold zbr at h
 cases hb:(z0r dn o && !Dw o) with
 | false=>rw[hb] at h; exact h.elim
 | true=>
  rw[hb] at h;simp only[cond_true] at h;simp only[A',IC] at hb
  have hg:∀j b,o.guard=some (j,b)->D j:=λj b hgd=>by
   refine hdn j ?_ ⟨o,by rw[Array.mem_toList_iff]; exact Array.mem_of_getElem? ho,b,hgd⟩;have:=hb.1;unfold z0r at this;rw[hgd] at this;exact this
  split at h
  ·exact h.elim
  ·rename_i pc pM;have AT0:=zok hf pM hg;have pS:=GK hf.fit pM
   have vQ:∀{sv:SV} (w wr:Wo),Zl S w wr↔Zl (S.cG o.dst sv) w wr:=λ{sv} w wr=>by
    cases o.dst
    ·exact Iff.rfl
    ·exact⟨λh=>⟨h.ext,h.loc,h.len,h.oI,h.fresh⟩,λh=>⟨h.ext,h.loc,h.len,h.oI,h.fresh⟩⟩
   cases hdd:BC S ops pc o with
   | true=>
    rw[hdd] at h;simp only[cond_true] at h;have hp:=Dy hf.fit pM hdd;obtain⟨h1,h2⟩:=YD h;exact⟨_,h1,hf.put hu ho hi hD hDD AT0 h2 ⟨λhp'=>Is hp' hp,λ_=>rfl⟩,WS.cG _ _,(MU.refl S).cG _ _,by cases o.dst <;> rfl,by cases o.dst <;> rfl,vQ⟩
   | false=>
   rw[hdd] at h;simp only[cond_false] at h;rw[he] at h;simp only[cond_true] at h
   split at h
   ·exact Is (pS.2 (λp hp=>by cases hp)) wK
   ·cases hpo:zs0 S ops pc with
    | false=>rw[hpo] at h; exact h.elim
    | true=>
     rw[hpo] at h;simp only[cond_true] at h;have hp:¬E5 ops a pc:=λhp=>wK (pS.2 hp)
     obtain⟨h1,h2⟩:=YD (h.2 (zjg hf.fit hpo hp));exact⟨_,h1,hf.put hu ho hi hD hDD AT0 h2 ⟨λhp'=>Is hp' hp,λ_=>rfl⟩,WS.cG _ _,(MU.refl S).cG _ _,by cases o.dst <;> rfl,by cases o.dst <;> rfl,vQ⟩
theorem Gh{C:Uw}{ops:Array Oper}:∀{l:List Nat},DH C ops l=none->∀i∈l,∀o,ops[i]? = some o->F9 C o.op=true
 | [],_,i,hi,_,_=>by cases hi
 | j::r,h,i,hi,o,ho=>by
  simp only[DH] at h
  split at h
  ·rename_i o' ho'
   cases he:F9 C o'.op with
   | false=>rw[he] at h; cases h
   | true=>
    rw[he] at h;rcases Ij.1 hi with rfl | hi
    ·rw[ho'] at ho; cases ho; exact he
    ·exact Gh h i hi o ho
  ·rename_i ho';rcases Ij.1 hi with rfl | hi
   ·rw[ho'] at ho; cases ho
   ·exact Gh h i hi o ho
theorem zi7{ops:Array Oper}{i:Nat}{o:Oper}(ho:ops[i]? = some o):∀x,o.dst=some x->x∈Gf ops.toList:=λx hx=>by
 have hm:o∈ops.toList:=by rw[Array.mem_toList_iff]; exact Array.mem_of_getElem? ho
 generalize ops.toList=q at hm
 induction q with
 | nil=>cases hm
 | cons y q ih=>
  simp only[Gf];rcases Ij.1 hm with rfl | hm
  ·rw[hx]; exact Ia ..
  ·split
   ·exact I2 _ (ih hm)
   ·exact ih hm
def DL(ops:Array Oper)(Ro:Array Bool)(j:Nat):Prop:=Ro.getD j false=true/\ztp ops j
def PQ(C:Uw)(ops:Array Oper)(K:St->Wo->Prop)(S0:St)(w0:Wo)(a0:Act)(ds:List Nat)(a:Act)(R:Wo->Prop):Prop:=
 ∃S' w',K S' w'/\TB C.n { S' with r:=S'.r+1 } a/\Lx S'/\MU S0 S'/\S'.r=S0.r/\Df ds a0 a/\(C.pm=true->w'=w0/\S'.old=S0.old)/\R=Zl S' w'
theorem Pz{C:Uw}(E:zpk C){ops:Array Oper}(hu:FZ ops=true)(BS6:Region.noSelect ops=true){K:St->Wo->Prop}{S0:St}{w0:Wo}{a0:Act}{ds:List Nat}(hds:∀x∈Gf ops.toList,x∈ds) :
  ∀(n:Nat) (Ro:Array Bool) (vU:List (Nat×zd8)) (Pd:List (Nat×Option (Sem Next)×Va)) (S:St) (w:Wo) (a:Act),DG C ops (T0 ops.toList []) n Ro vU S w K->Dd ops Ro->
   MT C.n S ops (DL ops Ro) a->Lx S->MU S0 S->S.r=S0.r->Df ds a0 a->(C.pm=true->w=w0/\S.old=S0.old)->
   (∀p∈Pd,(∃f:zd8,(p.1,f)∈vU/\∀(uL:St) (lN:Wo),MU S uL->f uL lN->YS C.P (Zl uL lN) p.2.1 p.2.2)\/(∀(uL:St) (lN:Wo),MU S uL->YS C.P (Zl uL lN) p.2.1 p.2.2))->
   Ha C.P ops (zic (T0 ops.toList [])) (PQ C ops K S0 w0 a0 ds) n Ro Pd a (Zl S w)
 | 0,Ro,vU,Pd,S,w,a,h,sK,hf,WS,wB,hr,hfa,kV,hpd=>by
  simp only[DG] at h
  split at h
  ·rename_i hrd;exact⟨hrd,S,w,h,hf.leave,WS,wB,hr,hfa,kV,rfl⟩
  ·exact h.elim
 | n+1,Ro,vU,Pd,S,w,a,h,sK,hf,WS,wB,hr,hfa,kV,hpd=>by
  simp only[DG] at h
  split at h
  ·rename_i hrd;exact⟨λ_=>⟨S,w,h,hf.leave,WS,wB,hr,hfa,kV,rfl⟩,λi hi=>by rw[hrd] at hi; cases hi⟩
  ·rename_i hrd
   split at h
   ·rename_i i hi;obtain⟨him,o',ho',he⟩:=Gi hi
    split at h
    ·rename_i o ho;rw[ho] at ho'; cases ho'
     cases tQ:Region.free .any ops Ro i with
     | false=>rw[tQ] at h; exact h.elim
     | true=>
      rw[tQ] at h;simp only[cond_true] at h;obtain⟨hun,_,_,pN⟩:=mem_ready.1 him
      have hni:¬DL ops Ro i:=λhd=>by
       have h1:=hd.1;rcases Nat.lt_or_ge i Ro.size with h' | h'
       ·simp[h'] at h1 hun; rw[h1] at hun; cases hun
       ·simp[Array.getElem?_eq_none h'] at h1
      obtain⟨f,v,S',hK,hf',A77,rK,hr',Bw7,vQ,hys,hyf⟩:=znu E (i:=i) (D':=DL ops (Ro.setIfInBounds i true)) hu ho hni (λj hj=>hj.2) (λj hj=>⟨getD_set_true hj.1,hj.2⟩) (λj h1 h2=>⟨h1,h2⟩) hf WS he h
      have BR3:Dd ops (Ro.setIfInBounds i true):=λk ok hk tE e he hb=>by
       by_cases hik:i=k
       ·subst hik;rw[ho] at hk; cases hk;obtain⟨_,o2,ho2,CZ5⟩:=mem_ready.1 him;rw[ho] at ho2; cases ho2;exact getD_set_true (CZ5 e he hb)
       ·rw[getD_set_ne true hik] at tE;exact getD_set_true (sK k ok hk tE e he hb)
      have heq:Zl S w=Zl S' w:=funext λwr=>propext (vQ w wr)
      refine zo9 (λj o cs b hj=>Region.noSelect_spec BS6 j o cs b hj) (λRo i j h1 h2 h3 h4=>zm3 Ro i j h1 h2 h3 h4) ho n Ro Pd a (Zl S w) sK (λj oj hj hji B81 lA=>Region.free_spec ho tQ j oj hj hji B81 lA) him hys ?_;rw[heq];refine Pz E hu BS6 hds n _ (zqu i f vU) _ S' w _ hK BR3 hf' A77 (wB.trans rK) (hr'.trans hr) (hfa.trans (Df.put a _ v ds λx hx=>hds x (zi7 ho x hx))) (λhp=>⟨(kV hp).1,Bw7.trans (kV hp).2⟩) λp hp=>?_
      rcases Ij.1 hp with rfl | hp
      ·cases f with
       | none=>exact .inr λuL lN hs=>hyf uL lN (rK.trans hs) trivial
       | some f=>exact .inl ⟨f,Ia ..,λuL lN hs hfc=>hyf uL lN (rK.trans hs) hfc⟩
      ·rcases hpd p hp with ⟨f',hm,hs'⟩ | hs'
       ·refine .inl ⟨f',?_,λuL lN hs hfc=>hs' uL lN (rK.trans hs) hfc⟩
        cases f with
        | none=>exact hm
        | some f=>exact I2 _ hm
       ·exact .inr λuL lN hs=>hs' uL lN (rK.trans hs)
    ·exact h.elim
   ·rename_i AS9;refine⟨λh0=>Is h0 (by assumption),λi hi o ho=>?_⟩;have h1:=zbp h i hi;rw[ho] at h1;simp only at h1;have he:=Gh AS9 i hi o ho;obtain⟨hun,o2,ho2,pN⟩:=mem_ready.1 hi;rw[ho] at ho2; cases ho2
    have hni:¬DL ops Ro i:=λhd=>by
     have h1:=hd.1;rcases Nat.lt_or_ge i Ro.size with h' | h'
     ·simp[h'] at h1 hun; rw[h1] at hun; cases hun
     ·simp[Array.getElem?_eq_none h'] at h1
    have BR3:Dd ops (Ro.setIfInBounds i true):=λk ok hk tE e he hb=>by
     by_cases hik:i=k
     ·subst hik;rw[ho] at hk; cases hk;exact getD_set_true (pN e he hb)
     ·rw[getD_set_ne true hik] at tE;exact getD_set_true (sK k ok hk tE e he hb)
    by_cases wK:Region.wanted o (yielded ops a.tmps)=true
    case neg=>
     obtain⟨S',hK,hf',A77,rK,hr',Bw7,vQ⟩:=zr7 (i:=i) (D':=DL ops (Ro.setIfInBounds i true)) hu ho hni (λj hj=>hj.2) (λj hj=>⟨getD_set_true hj.1,hj.2⟩) (λj h1 h2=>⟨h1,h2⟩) hf WS he wK h1;obtain⟨hev,_⟩:=L5 hK;have heq:Zl S w=Zl S' w:=funext λwr=>propext (vQ w wr)
     have hs0:UO ops o a=none:=by unfold UO; rw[C' wK]
     refine .inl ⟨undef,by rw[hs0]; rfl,?_⟩;rw[heq];refine Pz E hu BS6 hds n _ vU _ S' w _ hev BR3 hf' A77 (wB.trans rK) (hr'.trans hr) (hfa.trans (Df.put a _ _ ds λx hx=>hds x (zi7 ho x hx))) (λhp=>⟨(kV hp).1,Bw7.trans (kV hp).2⟩) λp hp=>?_
     rcases Ij.1 hp with rfl | hp
     ·exact .inr λuL lN hs=>by rw[hs0]; rfl
     ·rcases hpd p hp with ⟨f',hm,hs'⟩ | hs'
      ·exact .inl ⟨f',hm,λuL lN hs hfc=>hs' uL lN (rK.trans hs) hfc⟩
      ·exact .inr λuL lN hs=>hs' uL lN (rK.trans hs)
    refine .inr ⟨wK,λwr vR=>?_⟩
    have cZ:=zbs E (i:=i) (D':=DL ops (Ro.setIfInBounds i true))
     (N:=λa' w'=>(∃v,a'=a.put o.dst v)/\∃S' lN,Nv (T0 ops.toList []) i S' lN vU (DG C ops (T0 ops.toList []) n (Ro.setIfInBounds i true) vU S' lN K)/\zzq C S w ops (DL ops (Ro.setIfInBounds i true)) o a S' lN a' w') (Q:=λ_ _ _=>False)
     hu ho hni (λj hj=>hj.2) (λj hj=>⟨getD_set_true hj.1,hj.2⟩) (λj h1 h2=>⟨h1,h2⟩) hf vR WS (λf S' w' a' Wu hK hL=>⟨hL.put,S',w',hK,hL⟩) h1
    rw[E' wK] at cZ;refine BM (λv w' hN=>?_) (zns (zxv h1) cZ λa' w' hN=>hN.1);obtain⟨_,S',lN,hpo,hL⟩:=hN;obtain⟨hev,CM2⟩:=L5 hpo;refine⟨Zl S' lN,hL.rel,λp hp hpu=>?_,Pz E hu BS6 hds n _ vU Pd S' lN _ hev BR3 hL.fit hL.wf (wB.trans hL.fr) (hL.r.trans hr) (hfa.trans (Df.put a o.dst v ds λx hx=>hds x (zi7 ho x hx))) (λhp=>⟨(hL.pm hp).1.trans (kV hp).1,(hL.pm hp).2.trans (kV hp).2⟩) λp hp=>?_⟩
    ·rcases hpd p hp with ⟨f',hm,hs'⟩ | hs'
     ·exact hs' S' lN hL.fr (CM2 _ hm hpu)
     ·exact hs' S' lN hL.fr
    ·rcases hpd p hp with ⟨f',hm,hs'⟩ | hs'
     ·exact .inl ⟨f',hm,λuL w3 hs hfc=>hs' uL w3 (hL.fr.trans hs) hfc⟩
     ·exact .inr λuL w3 hs=>hs' uL w3 (hL.fr.trans hs)
structure Y2 where
 vN:List (Nat×CK)
 WK:List (Nat×List CK)
 oQ:List Nat
 aY:List (TypeId×List CK):=[]
 ptr:List (Nat×Nat):=[]
def X3:Code->List Nat
 | .region _ ops _=>Gf ops.toList
 | .seq a b=>X3 a++X3 b
 | .cond _ a b=>X3 a++X3 b
 | .block _ b=>X3 b
 | .loop b=>X3 b
 | .scope b=>X3 b
 | _=>[]
def Fm:Code->Option Nat
 | .region id _ _=>some id
 | .seq a b=>match Fm a with
  | some k=>some k
  | none=>Fm b
 | .cond _ a b=>match Fm a with
  | some k=>some k
  | none=>Fm b
 | .block _ b=>Fm b
 | .loop b=>Fm b
 | .scope b=>Fm b
 | _=>none
def zob:CK->Va->Bool
 | .int k,.int k' _=>decide (k=k')
 | .bool,.bool _=>true
 | .str,.string _=>true
 | .slice,.slice _ _ _=>true
 | .ptr,.pointer _=>true
 | .fn,.func _ _ _=>true
 | .iface,_=>true
 | .map,_=>true
 | .other,_=>true
 | _,_=>false
def z17:CK->(Va->Prop)->Prop
 | .int k,K=>∀n:Int,K (.int k n)
 | .bool,K=>∀b:Bool,K (.bool b)
 | .str,K=>∀s:ByteArray,K (.string s)
 | .slice,K=>∀(o:OA) (l c:Nat),K (.slice o l c)
 | .ptr,K=>∀o:OA,K (.pointer o)
 | .fn,K=>∀(f:Fn) (a c:Array Va),K (.func f a c)
 | _,K=>∀v:Va,K v
def EJ:List CK->(List Va->Prop)->Prop
 | [],K=>K []
 | k::r,K=>z17 k λv=>EJ r λl=>K (v::l)
theorem zty{k:CK}{K:Va->Prop}(h:z17 k K){v:Va}(hv:zob k v=true):K v:=by
 cases k <;> cases v <;> simp only[zob] at hv <;> first
  | exact h _
  | exact h _ _ _
  | (cases hv; done)
  | (simp only[Ik] at hv; subst hv; exact h _)
def Ua:List CK->List Va->Bool
 | [],[]=>true
 | k::r,v::l=>zob k v&&Ua r l
 | _,_=>false
theorem TY:∀{ks:List CK} {K:List Va->Prop} {vs:List Va},EJ ks K->Ua ks vs=true->K vs
 | [],_,[],h,_=>h
 | k::r,K,v::l,h,hk=>by
  simp only[Ua,A'] at hk;exact TY (K:=λl=>K (v::l)) (zty (K:=λv=>EJ r λl=>K (v::l)) h hk.1) hk.2
 | [],_,_::_,_,hk=>by simp[Ua] at hk
 | _::_,_,[],_,hk=>by simp[Ua] at hk
def H6(S:St):List (Nat×CK)->Option (List Va)
 | []=>some []
 | (i,_)::r=>match S.F.get i with
  | some (.un e)=>match zzr S e,H6 S r with
   | some x,some l=>some (x::l)
   | _,_=>none
  | _=>none
def KH(S:St):List (Nat×List CK)->Option (List Va)
 | []=>some []
 | (id,ks)::r=>match S.L[id]?,KH S r with
  | some (_,cs),some l=>bif Nat.beq cs.length ks.length then some (cs++l) else none
  | _,_=>none
def Y2.ks(sp:Y2):List CK:=sp.vN.map (·.2)++sp.WK.flatMap (·.2)
def zb5(S:St)(sp:Y2)(K:List Va->Prop):Prop:=
 match H6 S sp.vN,KH S sp.WK with
 | some xs,some ys=>bif Ua sp.ks (xs++ys) then K (xs++ys) else False
 | _,_=>False
def zhd(F:PT SV):List Nat->PT SV
 | []=>.leaf
 | i::r=>match F.get i with
  | some (.un e)=>PT.set 12 (zhd F r) i (.un e)
  | _=>zhd F r
def zq5(F:PT SV):List (Nat×CK)->List Va->PT SV
 | (i,_)::r,v::vs=>PT.set 12 (zq5 F r vs) i (.un (.v v))
 | _,_=>F
def V8(L:List (TypeId×List Va)):List (Nat×List CK)->List Va->List (TypeId×List Va)
 | [],_=>L
 | (id,ks)::r,vs=>match L[id]? with
  | some (t,_)=>V8 (L.set id (t,vs.take ks.length)) r (vs.drop ks.length)
  | none=>V8 L r (vs.drop ks.length)
def Da(S:St)(sp:Y2):List Nat:=(List.range S.L.length).filter λid => !Kb (sp.WK.map (·.1)) id
def YC(S:St)(sp:Y2)(vs:List Va):St:=
 { S with F:=zq5 (zhd S.F sp.oQ) sp.vN (vs.take sp.vN.length),L:=V8 S.L sp.WK (vs.drop sp.vN.length),lk:=Da S sp }
def zcz:List Nat->Bool
 | []=>true
 | x::r => !Kb r x&&zcz r
def ztd(S:St)(sp:Y2)(ds:List Nat):Bool:=
 (sp.oQ.all λi => !Kb ds i&&Nat.blt i 4000)&&(sp.vN.all λp=>Nat.blt p.1 4000 && !Kb sp.oQ p.1)&&zcz (sp.vN.map (·.1))&&zcz (sp.WK.map (·.1))&&(sp.WK.all λp=>match S.L[p.1]? with
  | some (_,cs)=>Nat.beq cs.length p.2.length && !Kb S.lk p.1
  | none=>false)
def Y2.nks(sp:Y2):List CK:=sp.aY.flatMap (·.2)
def zpo:Nat->(List Nat->Prop)->Prop
 | 0,K=>K []
 | n+1,K=>∀b:Nat,zpo n λl=>K (b::l)
theorem Bv:∀{n:Nat} {K:List Nat->Prop} {bs:List Nat},zpo n K->bs.length=n->K bs
 | 0,_,[],h,_=>h
 | n+1,K,b::l,h,hl=>Bv (K:=λl=>K (b::l)) (h b) (by simpa using hl)
 | 0,_,_::_,_,hl=>by simp at hl
 | _+1,_,[],_,hl=>by simp at hl
def GG:List (TypeId×List CK)->List Va->List (TypeId×List Va)
 | [],_=>[]
 | (t,ks)::r,vs=>(t,vs.take ks.length)::GG r (vs.drop ks.length)
def zhl(S:St):Nat->List (TypeId×List CK)->Option (List Va)
 | _,[]=>some []
 | n,(t,ks)::r=>match S.L[n]?,zhl S (n+1) r with
  | some (t',cs),some l=>bif Nat.beq t' t&&Nat.beq cs.length ks.length then some (cs++l) else none
  | _,_=>none
def zhs(S:St)(n k:Nat)(l:List (Nat×Nat)):Bool:=l.all λp=>Nat.blt p.1 4000&&Nat.blt p.2 k&&match S.F.get p.1 with
 | some (.un (.loc id 0))=>Nat.beq id (n+p.2)
 | _=>false
def zq4(F:PT SV)(n:Nat):List (Nat×Nat)->PT SV
 | []=>F
 | (i,j)::r=>PT.set 12 (zq4 F n r) i (.un (.loc (n+j) 0))
def HZ(S:St)(sp:Y2)(vs zs:List Va)(bs:List Nat):St:=
 { F:=zq4 (YC S sp vs).F S.L.length sp.ptr,L:=(YC S sp vs).L++GG sp.aY zs,B:=S.B++bs,old:=S.old,lk:=S.lk,r:=S.r }
def zqd(S S':St)(sp:Y2)(K:List Va->List Nat->Prop):Prop:=
 match zhl S' S.L.length sp.aY with
 | some zs=>bif Ua sp.nks zs&&zhs S' S.L.length sp.aY.length sp.ptr then zb5 S' sp λvs=>K (vs++zs) ((S'.B.drop S.B.length).take sp.aY.length) else False
 | none=>False
def z2g(sps:List (Nat×Y2))(b:Code):Option Y2:=match sps with
 | []=>none
 | _=>match Fm b with
  | some k=>znl sps (k+1000000)
  | none=>none
def sW(S:St)(c:Operand)(x:Bool):St:=
 match c with
 | .tmp t=>bif Nat.blt t 4000 then { S with F:=PT.set 12 S.F t (.un (.kb x)) } else S
 | _=>S
def B7(C:Uw)(sps:List (Nat×Y2)):Code->St->Wo->(Exit->St->Wo->Prop)->Prop
 | .skip,S,w,K=>K .normal S w
 | .label _,S,w,K=>K .normal S w
 | .region _ ops d,S,w,K=>zus C ops d S w (K .normal)
 | .seq a b,S,w,K=>match z2g sps b with
  | none=>B7 C sps a S w λe S' w'=>match e with
   | .normal=>B7 C sps b S' w' K
   | e=>K e S' w'
  | some sp=>bif ztd S sp (X3 a) then
    bif C.pm then
     ∃lJ:List Va->List Nat->Prop,(B7 C sps a { S with lk:=Da S sp } w λe S' w'=>match e with
       | .normal=>zqd S S' sp lJ
       | e=>K e { S' with lk:=S.lk } w')/\
      EJ sp.ks λvs=>EJ sp.nks λzs=>zpo sp.aY.length λbs=>lJ (vs++zs) bs->B7 C sps b (HZ S sp vs zs bs) w K
    else
     ∃lJ:List Va->List Nat->Wo->Prop,(B7 C sps a { S with lk:=Da S sp } w λe S' w'=>match e with
       | .normal=>∀wr,Q0 S'.bs w' wr->(∀b∈S'.B,b<wr.heap.size)->zqd S S' sp λvs bs=>lJ vs bs wr
       | e=>K e { S' with lk:=S.lk } w')/\
      EJ sp.ks λvs=>EJ sp.nks λzs=>zpo sp.aY.length λbs=>∀w1,(∀b∈S.B++bs,b<w1.heap.size)->lJ (vs++zs) bs w1->B7 C sps b (HZ S sp vs zs bs).cK w1 K
   else False
 | .cond c a b,S,w,K=>match zd6 S [] c with
  | some (.kb true)=>B7 C sps a S w K
  | some (.kb false)=>B7 C sps b S w K
  | some (.v (.bool x))=>(x=true->B7 C sps a (sW S c true) w K)/\(x=false->B7 C sps b (sW S c false) w K)
  | _=>False
 | .block id b,S,w,K=>B7 C sps b S w λe S' w'=>match e with
  | .exit id'=>bif Nat.beq id' id then K .normal S' w' else K e S' w'
  | e=>K e S' w'
 | .scope b,S,w,K=>B7 C sps b S w λe S' w'=>match e with
  | .goto _=>False
  | e=>K e S' w'
 | .exit id,S,w,K=>K (.exit id) S w
 | .ret,S,w,K=>K .ret S w
 | .loop b,S,w,K=>match Fm b with
  | none=>False
  | some key=>match znl sps key with
   | none=>False
   | some sp=>bif ztd S sp (X3 b) then
     bif C.pm then
      ∃(JH:List Va->Prop) (μ:List Va->Nat),zb5 S sp JH/\EJ sp.ks λvs=>JH vs->B7 C sps b (YC S sp vs) w λe S' w'=>match e with
       | .normal=>zb5 S' sp λvs'=>JH vs'/\μ vs'<μ vs
       | e=>K e { S' with lk:=S.lk } w'
     else
      ∃(JH:List Va->Wo->Prop) (μ:List Va->Wo->Nat),(∀wr,Q0 S.bs w wr->(∀b∈S.B,b<wr.heap.size)->zb5 S sp λvs=>JH vs wr)/\
       EJ sp.ks λvs=>∀w1,(∀b∈S.B,b<w1.heap.size)->JH vs w1->B7 C sps b (YC S.cK sp vs) w1 λe S' w'=>match e with
       | .normal=>∀wr,Q0 S'.bs w' wr->(∀b∈S'.B,b<wr.heap.size)->zb5 S' sp λvs'=>JH vs' wr/\μ vs' wr<μ vs w1
       | e=>K e { S' with lk:=S.lk } w'
    else False
 | _,_,_,_=>False
structure PL (C:Uw) (S:St) (w:Wo) (ds:List Nat) (a:Act) (S':St) (w':Wo) (a':Act) (Wu:Wo):Prop where
 fit:TB C.n S' a'
 rel:Zl S' w' Wu
 wf:Lx S'
 fr:MU S S'
 fra:Df ds a a'
 pm:C.pm=true->w'=w/\S'.old=S.old
theorem PL.refl{C:Uw}{S:St}{w wr:Wo}{a:Act}(ds:List Nat)(h1:TB C.n S a)(h2:Zl S w wr)(h3:Lx S):PL C S w ds a S w a wr:=⟨h1,h2,h3,MU.refl S,Df.refl _ _,λ_=>⟨rfl,rfl⟩⟩
theorem PL.trans{C:Uw}{S S1 S2:St}{w w1 w2 J' O':Wo}{ds es fs:List Nat}{a a1 a2:Act}(h:PL C S w ds a S1 w1 a1 J')(k:PL C S1 w1 es a1 S2 w2 a2 O')(hd:∀x∈ds,x∈fs)(he:∀x∈es,x∈fs):PL C S w fs a S2 w2 a2 O':=
 ⟨k.fit,k.rel,k.wf,h.fr.trans k.fr,(h.fra.mono hd).trans (k.fra.mono he),λhp=>⟨(k.pm hp).1.trans (h.pm hp).1,(k.pm hp).2.trans (h.pm hp).2⟩⟩
theorem PL.mono{C:Uw}{S S1:St}{w w1 J':Wo}{ds fs:List Nat}{a a1:Act}(h:PL C S w ds a S1 w1 a1 J')(hd:∀x∈ds,x∈fs):PL C S w fs a S1 w1 a1 J':=
 ⟨h.fit,h.rel,h.wf,h.fr,h.fra.mono hd,h.pm⟩
theorem zk8{C:Uw}(E:zpk C){id:Nat}{ops:Array Oper}{d:Bool}{S:St}{w wr:Wo}{a:Act}{K:St->Wo->Prop}{Q:Exit->Act->Wo->Prop}(h:zus C ops d S w K)(hf:TB C.n S a)(hw:Zl S w wr)(WS:Lx S)(hQ:∀S' w' a' Wu,K S' w'->PL C S w (Gf ops.toList) a S' w' a' Wu->Q .normal a' Wu):(Code.region id ops d).wpIn (Vo C.rd) 0 C.P Q a wr:=by
 unfold zus at h
 cases hu:FZ ops with
 | false=>rw[hu] at h; exact h.elim
 | true=>
  rw[hu] at h;simp only[cond_true] at h;have vQ:∀{S1:St} {w1 J':Wo},Zl S1 w1 J'->Zl { S1 with r:=S1.r+1 } w1 J':=λh=>⟨h.ext,h.loc,h.len,h.oI,h.fresh⟩
  have Cg3:Lx { S with r:=S.r+1 }:=⟨WS.old,WS.lk⟩
  cases d with
  | false=>
   simp only[cond_false] at h;refine wpIn_region_list ?_
   refine NS E hu (S0:={ S with r:=S.r+1 }) (w0:=w) (a0:=a) (ds:=Gf ops.toList) (λx hx=>hx) (λS' w' a' Wu hK hf' hw' A77 rK hr' CM1 CN4=>?_) ops.toList 0 _ w wr a (λj=>by simp) Qs h
    (hf.enter ops _) (vQ hw) Cg3 (MU.refl _) rfl (Df.refl _ _) (λ_=>⟨rfl,rfl⟩)
   exact hQ _ _ _ _ hK ⟨hf'.leave,vQ hw',⟨A77.old,A77.lk⟩,⟨rK.B,rK.ty,rK.lk⟩,CM1,CN4⟩
  | true=>
   simp only[cond_true] at h
   cases hs:Region.noSelect ops with
   | false=>rw[hs] at h; exact h.elim
   | true=>
    rw[hs] at h;simp only[cond_true] at h
    have hp:=Pz E hu hs (S0:={ S with r:=S.r+1 }) (w0:=w) (a0:=a) (ds:=Gf ops.toList) (λx hx=>hx) ops.size (Array.replicate ops.size false) [] [] _ w a h
     (λj o _ hl=>by
      rcases Nat.lt_or_ge j ops.size with h' | h'
      ·simp[h'] at hl
      ·rename_i ho; rw[Array.getElem?_eq_none h'] at ho; cases ho)
     (hf.enter ops _) Cg3 (MU.refl _) rfl (Df.refl _ _) (λ_=>⟨rfl,rfl⟩) (λp hp=>by cases hp)
    refine wpIn_region_any E.mixed (Lc (λa' R w' hPQ hR=>?_) ops.size _ [] a (Zl { S with r:=S.r+1 } w) { wr with drawn:=wr.drawn+1 } ?_ hp)
    ·obtain⟨S',w1,hK,hf',A77,rK,hr',CM1,CN4,rfl⟩:=hPQ;exact hQ _ _ _ _ hK ⟨hf',vQ hR,⟨A77.old,A77.lk⟩,⟨rK.B,rK.ty,rK.lk⟩,CM1,CN4⟩
    ·exact⟨hw.ext.drawn _,hw.loc,hw.len,hw.oI,hw.fresh⟩
theorem N5{F:PT SV}:∀{l:List Nat} {i:Nat} {sv:SV},(∀x∈l,x<4000)->(zhd F l).get i=some sv->i∈l/\F.get i=some sv/\∃e,sv=.un e
 | [],i,sv,_,h=>by simp[zhd,PT.get] at h
 | k::r,i,sv,hl,h=>by
  have hr:∀x∈r,x<4000:=λx hx=>hl x (I2 _ hx)
  simp only[zhd] at h
  split at h
  ·rename_i e he;rw[PT.lS _ 12 _ _ _ (by have h1:=hl k (Ia ..); show @LT.lt Nat _ (k+1) (2 ^ 12); omega)] at h
   by_cases hk:k=i
   ·subst hk;rw[E' rfl] at h;simp only[I1] at h;subst h;exact⟨Ia ..,he,e,rfl⟩
   ·rw[C' hk] at h;obtain⟨h1,h2,h3⟩:=N5 hr h;exact⟨I2 _ h1,h2,h3⟩
  ·obtain⟨h1,h2,h3⟩:=N5 hr h;exact⟨I2 _ h1,h2,h3⟩
theorem zh2{F:PT SV}:∀{vN:List (Nat×CK)} {vs:List Va} {i:Nat} {sv:SV},(∀p∈vN,p.1<4000)->(zq5 F vN vs).get i=some sv->
  (∃(j:Nat) (k:CK) (v:Va),vN[j]? = some (i,k)/\vs[j]? = some v/\sv=.un (.v v))\/F.get i=some sv
 | [],vs,i,sv,_,h=>.inr h
 | (a,k)::r,[],i,sv,_,h=>.inr h
 | (a,k)::r,v::vs,i,sv,hl,h=>by
  have hr:∀p∈r,p.1<4000:=λx hx=>hl x (I2 _ hx)
  simp only[zq5] at h;rw[PT.lS _ 12 _ _ _ (by have h1:=hl (a,k) (Ia ..); show @LT.lt Nat _ (a+1) (2 ^ 12); simp only at h1; omega)] at h
  by_cases hk:a=i
  ·subst hk;rw[E' rfl] at h;simp only[I1] at h;exact .inl ⟨0,k,v,rfl,rfl,h.symm⟩
  ·rw[C' hk] at h;rcases zh2 hr h with ⟨j,k',v',h1,h2,h3⟩ | h1
   ·exact .inl ⟨j+1,k',v',by simpa using h1,by simpa using h2,h3⟩
   ·exact .inr h1
theorem UM{S:St}:∀{vN:List (Nat×CK)} {xs:List Va},H6 S vN=some xs->xs.length=vN.length/\∀(j i:Nat) (k:CK) (v:Va),vN[j]? = some (i,k)->xs[j]? = some v->∃e,S.F.get i=some (.un e)/\zzr S e=some v
 | [],xs,h=>by simp only[H6,I1] at h; subst h; exact⟨rfl,λj i k v hj=>by simp at hj⟩
 | (a,k)::r,xs,h=>by
  simp only[H6] at h
  split at h
  ·rename_i e he
   split at h
   ·rename_i x l hx hl;simp only[I1] at h; subst h;obtain⟨h1,h2⟩:=UM hl;refine⟨by simp[h1],λj i k' v hj hv=>?_⟩
    cases j with
    | zero=>
     simp only[Ig,I1,Prod.mk.injEq] at hj hv;obtain⟨rfl,rfl⟩:=hj;subst hv;exact⟨e,he,hx⟩
    | succ j=>exact h2 j i k' v (by simpa using hj) (by simpa using hv)
   ·cases h
  ·cases h
theorem NZ:∀{l:List Nat},zcz l=true->l.Nodup
 | [],_=>List.nodup_nil
 | x::r,h=>by
  simp only[zcz,A',IC] at h;exact List.nodup_cons.2 ⟨Ku h.1,NZ h.2⟩
theorem KC{S':St}:∀{WK:List (Nat×List CK)} {L:List (TypeId×List Va)} {ys:List Va},(WK.map (·.1)).Nodup->KH S' WK=some ys->(∀(id:Nat) (t:TypeId) (cs:List Va),L[id]? = some (t,cs)->∃nL,S'.L[id]? = some (t,nL))->
  (V8 L WK ys).length=L.length/\
  (∀(id:Nat),id∉WK.map (·.1)->(V8 L WK ys)[id]? = L[id]?)/\
  (∀(id:Nat) (t:TypeId) (cs:List Va),id∈WK.map (·.1)->(V8 L WK ys)[id]? = some (t,cs)->S'.L[id]? = some (t,cs))
 | [],L,ys,_,_,_=>⟨rfl,λ_ _=>rfl,λid t cs h=>by cases h⟩
 | (a,ks)::r,L,ys,hnd,hv,hty=>by
  have B85:=List.nodup_cons.1 (by simpa using hnd:(a::r.map (·.1)).Nodup);simp only[KH] at hv
  split at hv
  ·rename_i t' nL l ha hl
   cases hb:Nat.beq nL.length ks.length with
   | false=>rw[hb] at hv; cases hv
   | true=>
    rw[hb] at hv;simp only[cond_true,I1] at hv;subst hv;have hlen:nL.length=ks.length:=Ic hb;have ht:(nL++l).take ks.length=nL:=by rw[<-hlen]; exact List.take_left
    have hdr:(nL++l).drop ks.length=l:=by rw[<-hlen]; exact List.drop_left
    simp only[V8]
    cases hLa:L[a]? with
    | none=>
     simp only[hdr];obtain⟨h1,h2,h3⟩:=KC (L:=L) B85.2 hl hty;refine⟨h1,λid bE=>h2 id (λh=>bE (I2 _ h)),λid t cs bE hc=>?_⟩;rcases Ij.1 bE with rfl | bE
     ·rw[h2 _ B85.1] at hc;rw[hLa] at hc; cases hc
     ·exact h3 id t cs bE hc
    | some q=>
     obtain⟨t0,c0⟩:=q;simp only[ht,hdr];have IT:a<L.length:=(I9.1 hLa).1;obtain⟨cs1,dE⟩:=hty a t0 c0 hLa;rw[ha] at dE;simp only[I1,Prod.mk.injEq] at dE;obtain⟨rfl,rfl⟩:=dE
     obtain⟨h1,h2,h3⟩:=KC (L:=L.set a (t',nL)) B85.2 hl (λid t cs hc=>by
      by_cases he:a=id
      ·subst he;rw[List.getElem?_set_self IT] at hc;cases hc;exact⟨_,ha⟩
      ·rw[List.getElem?_set_ne he] at hc;exact hty id t cs hc)
     refine⟨by rw[h1]; simp,λid bE=>?_,λid t cs bE hc=>?_⟩
     ·rw[h2 id (λh=>bE (I2 _ h))];exact List.getElem?_set_ne (λe=>bE (by subst e; exact Ia ..))
     ·rcases Ij.1 bE with rfl | bE
      ·rw[h2 _ B85.1] at hc;rw[List.getElem?_set_self IT] at hc;cases hc;exact ha
      ·exact h3 id t cs bE hc
  ·cases hv
structure El (S:St) (sp:Y2) (ds:List Nat):Prop where
 oQ:∀i∈sp.oQ,i∉ds/\i<4000
 vN:∀p∈sp.vN,p.1<4000
 nd:(sp.WK.map (·.1)).Nodup
 WK:∀id∈sp.WK.map (·.1),id∉S.lk
theorem zdu{S:St}{sp:Y2}{ds:List Nat}(h:ztd S sp ds=true):El S sp ds:=by
 simp only[ztd,A',List.all_eq_true,IC] at h;obtain⟨⟨⟨⟨h1,h2⟩,_⟩,h4⟩,h5⟩:=h;refine⟨λi hi=>⟨Ku (h1 i hi).1,Il (h1 i hi).2⟩,λp hp=>Il (h2 p hp).1,NZ h4,λid bE=>?_⟩;obtain⟨p,hp,rfl⟩:=List.mem_map.1 bE;have:=h5 p hp
 split at this
 ·simp only[A',IC] at this;exact Ku this.2
 ·cases this
theorem PJ{S:St}{sp:Y2}{id:Nat}:id∈Da S sp↔id<S.L.length/\id∉sp.WK.map (·.1):=by
 unfold Da;simp only[List.mem_filter,List.mem_range,IC];refine and_congr_right λ_=>?_
 constructor
 ·exact Ku
 ·intro h;rw[Bool.eq_false_iff];intro hb;simp only[Kb,List.any_eq_true] at hb;obtain⟨y,hy,he⟩:=hb;exact h (Ic he▸hy)
theorem zb2{n:Nat}{S S':St}{sp:Y2}{ds:List Nat}(hs:El S sp ds){a a':Act}(hf:TB n S a)(hf':TB n S' a')(hfa:Df ds a a'){xs ys:List Va}(hx:H6 S' sp.vN=some xs):TB n (YC S sp (xs++ys)) a':=by
 obtain⟨hxl,hxg⟩:=UM hx;have htk:(xs++ys).take sp.vN.length=xs:=by rw[<-hxl]; exact List.take_left
 have AM7:∀i sv,(YC S sp (xs++ys)).F.get i=some sv->(∃(j:Nat) (k:CK) (v:Va),sp.vN[j]? = some (i,k)/\xs[j]? = some v/\sv=.un (.v v))\/(i∈sp.oQ/\S.F.get i=some sv/\∃e,sv=.un e):=λi sv h=>by
  simp only[YC,htk] at h;rcases zh2 (λp hp=>hs.vN p hp) h with h1 | h1
  ·exact .inl h1
  ·exact .inr (N5 (λx hx=>(hs.oQ x hx).2) h1)
 refine⟨hf'.size,λi x h=>?_,λi r pc x h=>?_⟩
 ·rcases AM7 i _ h with ⟨j,k,v,h1,h2,h3⟩ | ⟨h1,h2,_⟩
  ·obtain⟨e,he,hv⟩:=hxg j i k v h1 h2;have:=CU hv (hf'.fits i e he);cases h3;exact this
  ·have h3:=hf.fits i x h2;rw[<-hfa.2.2 i (hs.oQ i h1).1] at h3;exact EV.gZ (S:=S) (λ_ _ h=>h) h3
 ·rcases AM7 i _ h with ⟨j,k,v,h1,h2,h3⟩ | ⟨h1,h2,e,h3⟩ <;> cases h3
theorem zh8{l m:List Nat}{k:Nat}(hk:k<=l.length)(h:∀(i b:Nat),l[i]? = some b->m[i]? = some b):m.take k=l.take k:=by
 apply List.ext_getElem?
 intro i;rw[List.getElem?_take,List.getElem?_take]
 by_cases hi:i<k
 ·rw[E' hi,E' hi];have hl:i<l.length:=Nat.lt_of_lt_of_le hi hk;rw[h i l[i] (Im hl),Im hl]
 ·rw[C' hi,C' hi]
theorem zb3{S S':St}{sp:Y2}{w w' wr Wu:Wo}{ds:List Nat}(hs:El S sp ds)(hw:Zl S w wr)(hw':Zl S' w' Wu)(hB:∀(id b:Nat),S.B[id]? = some b->S'.B[id]? = some b)(hty:∀(id:Nat) (t:TypeId) (cs:List Va),S.L[id]? = some (t,cs)->∃nL,S'.L[id]? = some (t,nL))(hlk:∀id,id<S.L.length->id∉sp.WK.map (·.1)->S'.L[id]? = S.L[id]?){xs ys:List Va}(hxl:xs.length=sp.vN.length)(hy:KH S' sp.WK=some ys) :
  (YC S sp (xs++ys)).L.length=S.L.length/\∀(id:Nat) (t:TypeId) (cs:List Va),(YC S sp (xs++ys)).L[id]? = some (t,cs)->∃b,S.B[id]? = some b/\Wu.heap[b]? = some (Obj.cells cs.toArray t (0,0)):=by
 have hdr:(xs++ys).drop sp.vN.length=ys:=by rw[<-hxl]; exact List.drop_left
 obtain⟨h1,h2,h3⟩:=KC (L:=S.L) hs.nd hy hty;have hL:(YC S sp (xs++ys)).L=V8 S.L sp.WK ys:=by simp only[YC,hdr]
 rw[hL];refine⟨h1,λid t cs hc=>?_⟩;have bE:id<S.L.length:=by rw[<-h1]; exact(I9.1 hc).1
 have hb:S.B[id]? = some (S.B[id]'(by rw[<-hw.len]; exact bE)):=Im _
 have hS':S'.L[id]? = some (t,cs):=by
  by_cases hm:id∈sp.WK.map (·.1)
  ·exact h3 id t cs hm hc
  ·rw[h2 id hm] at hc;rw[hlk id bE hm]; exact hc
 obtain⟨b',iO,hh⟩:=hw'.loc id t cs hS';rw[hB _ _ hb] at iO;cases iO;exact⟨_,hb,hh⟩
theorem Ko{S:St}{sp:Y2}{K:List Va->Prop}(h:zb5 S sp K):∃xs ys,H6 S sp.vN=some xs/\KH S sp.WK=some ys/\Ua sp.ks (xs++ys)=true/\K (xs++ys):=by
 unfold zb5 at h
 split at h
 ·rename_i xs ys hx hy
  cases hk:Ua sp.ks (xs++ys) with
  | false=>rw[hk] at h; exact h.elim
  | true=>rw[hk] at h; exact⟨xs,ys,hx,hy,hk,h⟩
 ·exact h.elim
theorem zlp{S S':St}{sp:Y2}{ds:List Nat}(hs:El S sp ds)(WS:Lx S){vs:List Va}(hL:(YC S sp vs).L.length=S.L.length)(hLt:∀(id:Nat) (t:TypeId) (cs:List Va),S.L[id]? = some (t,cs)->∃nL,(YC S sp vs).L[id]? = some (t,nL))(hLk:∀id,id∉sp.WK.map (·.1)->(YC S sp vs).L[id]? = S.L[id]?)(wB:MU (YC S sp vs) S'):MU S { S' with lk:=S.lk }/\(∀id,id<S.L.length->id∉sp.WK.map (·.1)->S'.L[id]? = S.L[id]?):=by
 have h2:∀id,id<S.L.length->id∉sp.WK.map (·.1)->S'.L[id]? = S.L[id]? := λid bE hm=>by
  have:=wB.lk id (PJ.2 ⟨bE,hm⟩);rw[this.2,hLk id hm]
 refine⟨⟨λid b hb=>wB.B id b hb,λid t cs hc=>?_,λid bE=>⟨bE,h2 id (WS.lk id bE) (λhm=>hs.WK id hm bE)⟩⟩,h2⟩;obtain⟨cs1,h1⟩:=hLt id t cs hc;exact wB.ty id t cs1 h1
theorem zhm{S:St}:∀{l:List (TypeId×List CK)} {n:Nat} {zs:List Va},zhl S n l=some zs->(GG l zs).length=l.length/\(∀j,j<l.length->n+j<S.L.length)/\∀j,(GG l zs)[j]? = if j<l.length then S.L[n+j]? else none
 | [],n,zs,h=>⟨rfl,λj hj=>Is hj (Nat.not_lt_zero j),λj=>by simp[GG]⟩
 | (t,ks)::r,n,zs,h=>by
  simp only[zhl] at h
  split at h
  ·rename_i t' cs l hL hl
   cases hb:Nat.beq t' t&&Nat.beq cs.length ks.length with
   | false=>rw[hb] at h; cases h
   | true=>
    rw[hb] at h;simp only[cond_true,I1] at h;subst h;simp only[A'] at hb;have h1:=Ic hb.1;have h2:=Ic hb.2;subst h1;obtain⟨g1,g2,g3⟩:=zhm hl;have ht:(cs++l).take ks.length=cs:=by rw[<-h2]; exact List.take_left
    have hdr:(cs++l).drop ks.length=l:=by rw[<-h2]; exact List.drop_left
    simp only[GG,ht,hdr];refine⟨by simp[g1],λj hj=>?_,λj=>?_⟩
    ·cases j with
     | zero=>exact(I9.1 hL).1
     | succ j=>have:=g2 j (by simpa using hj); omega
    ·cases j with
     | zero=>simp[hL]
     | succ j=>
      have:=g3 j;simp only[List.getElem?_cons_succ,List.length_cons];rw[this];have e:n+1+j=n+(j+1):=Qo;rw[e]
      by_cases hj:j<r.length
      ·rw[E' hj,E' Qo]
      ·rw[C' hj,C' Qo]
  ·cases h
theorem zor{S:St}{n k:Nat}{l:List (Nat×Nat)}(h:zhs S n k l=true):∀p∈l,p.1<4000/\p.2<k/\S.F.get p.1=some (.un (.loc (n+p.2) 0)):=λp hp=>by
 simp only[zhs,List.all_eq_true,A'] at h;obtain⟨⟨h1,h2⟩,h3⟩:=h p hp;refine⟨Il h1,Il h2,?_⟩
 split at h3
 ·rename_i id bE;rw[bE,Ic h3]
 ·cases h3
theorem Nx{F:PT SV}{n:Nat}:∀{l:List (Nat×Nat)} {i:Nat} {sv:SV},(∀p∈l,p.1<4000)->(zq4 F n l).get i=some sv->(∃j,(i,j)∈l/\sv=.un (.loc (n+j) 0))\/F.get i=some sv
 | [],i,sv,_,h=>.inr h
 | (a,j)::r,i,sv,hl,h=>by
  have hr:∀p∈r,p.1<4000:=λx hx=>hl x (I2 _ hx)
  simp only[zq4] at h;rw[PT.lS _ 12 _ _ _ (by have h1:=hl (a,j) (Ia ..); show @LT.lt Nat _ (a+1) (2 ^ 12); simp only at h1; omega)] at h
  by_cases hk:a=i
  ·subst hk;rw[E' rfl] at h;simp only[I1] at h;exact .inl ⟨j,Ia ..,h.symm⟩
  ·rw[C' hk] at h;rcases Nx hr h with ⟨q,h1,h2⟩ | h1
   ·exact .inl ⟨q,I2 _ h1,h2⟩
   ·exact .inr h1
theorem zhb{S S':St}{sp:Y2}{K:List Va->List Nat->Prop}(h:zqd S S' sp K):∃xs ys zs,H6 S' sp.vN=some xs/\KH S' sp.WK=some ys/\zhl S' S.L.length sp.aY=some zs/\Ua sp.ks (xs++ys)=true/\Ua sp.nks zs=true/\zhs S' S.L.length sp.aY.length sp.ptr=true/\
  K (xs++ys++zs) ((S'.B.drop S.B.length).take sp.aY.length):=by
 unfold zqd at h
 split at h
 ·rename_i zs hz
  cases hb:Ua sp.nks zs&&zhs S' S.L.length sp.aY.length sp.ptr with
  | false=>rw[hb] at h; exact h.elim
  | true=>
   rw[hb] at h;simp only[cond_true] at h;simp only[A'] at hb;obtain⟨xs,ys,h1,h2,h3,h4⟩:=Ko h;exact⟨xs,ys,zs,h1,h2,hz,h3,hb.1,hb.2,h4⟩
 ·exact h.elim
theorem zs4{l m:List Nat}(h:∀(i b:Nat),l[i]? = some b->m[i]? = some b):m.take l.length=l:=by
 have:=zh8 (I8 l.length) h;rw[this,List.take_length]
theorem zqe{n:Nat}{S S':St}{sp:Y2}{w w' wr Wu:Wo}{ds:List Nat}{a a':Act}(hs:El S sp ds)(hf:TB n S a)(hw:Zl S w wr)(WS:Lx S)(hf':TB n S' a')(hw':Zl S' w' Wu)(hfa:Df ds a a')(wB:MU { S with lk:=Da S sp } S'){xs ys zs:List Va}(hx:H6 S' sp.vN=some xs)(hy:KH S' sp.WK=some ys)(hz:zhl S' S.L.length sp.aY=some zs)(hp:zhs S' S.L.length sp.aY.length sp.ptr=true) :
  ((S'.B.drop S.B.length).take sp.aY.length).length=sp.aY.length/\(∀b∈S.B++(S'.B.drop S.B.length).take sp.aY.length,b∈S'.B)/\
  TB n (HZ S sp (xs++ys) zs ((S'.B.drop S.B.length).take sp.aY.length)) a'/\Lx (HZ S sp (xs++ys) zs ((S'.B.drop S.B.length).take sp.aY.length))/\MU S (HZ S sp (xs++ys) zs ((S'.B.drop S.B.length).take sp.aY.length))/\
  Zl (HZ S sp (xs++ys) zs ((S'.B.drop S.B.length).take sp.aY.length)).cK Wu Wu/\(w'=w->S'.old=S.old->Zl (HZ S sp (xs++ys) zs ((S'.B.drop S.B.length).take sp.aY.length)) w Wu):=by
 obtain⟨n1,n2,n3⟩:=zhm hz;have hB:∀(id b:Nat),S.B[id]? = some b->S'.B[id]? = some b:=wB.B;have Ce1:=zs4 hB;have Cc5:=hw.len;have C15:=hw'.len
 have hk:S.B.length+sp.aY.length<=S'.B.length:=by
  rcases Nat.eq_zero_or_pos sp.aY.length with h0 | h0
  ·have:S.B.length<=S'.B.length:=by
    have:=congrArg List.length Ce1;rw[List.length_take] at this;omega
   omega
  ·have:=n2 (sp.aY.length-1) Qo;omega
 have hbl:((S'.B.drop S.B.length).take sp.aY.length).length=sp.aY.length:=by rw[List.length_take,List.length_drop]; omega
 have hGB:S.B++(S'.B.drop S.B.length).take sp.aY.length=S'.B.take (S.B.length+sp.aY.length):=by
  rw[List.take_add,Ce1]
 have BC2:∀(id b:Nat),id<S.B.length+sp.aY.length->S'.B[id]? = some b->(S.B++(S'.B.drop S.B.length).take sp.aY.length)[id]? = some b:=λid b bE hb=>by
  rw[hGB,List.getElem?_take,E' bE]; exact hb
 have CK4:∀(id b:Nat),(S.B++(S'.B.drop S.B.length).take sp.aY.length)[id]? = some b->S'.B[id]? = some b:=λid b hb=>by
  rw[hGB,List.getElem?_take] at hb
  split at hb
  ·exact hb
  ·cases hb
 obtain⟨t1,t2⟩:=KC (L:=S.L) hs.nd hy wB.ty;have hlk:∀id,id<S.L.length->id∉sp.WK.map (·.1)->S'.L[id]? = S.L[id]? := λid bE hm=>(wB.lk id (PJ.2 ⟨bE,hm⟩)).2
 have hxl:=(UM hx).1;obtain⟨g1,g2⟩:=zb3 hs hw hw' hB wB.ty hlk hxl hy;have hhf:=zb2 (ys:=ys) hs hf hf' hfa hx;have hdr:(xs++ys).drop sp.vN.length=ys:=by rw[<-hxl]; exact List.drop_left
 have hL:(YC S sp (xs++ys)).L=V8 S.L sp.WK ys:=by simp only[YC,hdr]
 have hpp:=zor hp
 have CM3:TB n (HZ S sp (xs++ys) zs ((S'.B.drop S.B.length).take sp.aY.length)) a':=by
  have Cd3:∀(id b:Nat),(YC S sp (xs++ys)).B[id]? = some b->(HZ S sp (xs++ys) zs ((S'.B.drop S.B.length).take sp.aY.length)).B[id]? = some b:=λid b hb=>by
   have iO:S.B[id]? = some b:=hb;exact BC2 id b (by have:=(I9.1 iO).1; omega) (hB id b iO)
  refine⟨hhf.size,λi x h=>?_,λi r pc x h=>?_⟩
  ·rcases Nx (λp hp=>(hpp p hp).1) h with ⟨j,h1,h2⟩ | h1
   ·obtain⟨_,hj,hF⟩:=hpp (i,j) h1;have hd:=hf'.fits i _ hF;cases h2;obtain⟨b,hb,hv⟩:=hd;exact⟨b,BC2 _ _ (by simp only at hj; omega) hb,hv⟩
   ·exact EV.gZ (S:=YC S sp (xs++ys)) Cd3 (hhf.fits i x h1)
  ·rcases Nx (λp hp=>(hpp p hp).1) h with ⟨j,h1,h2⟩ | h1
   ·cases h2
   ·exact hhf.old i r pc x h1
 have oN:∀(id:Nat) (t:TypeId) (cs:List Va),((YC S sp (xs++ys)).L++GG sp.aY zs)[id]? = some (t,cs)->∃b,(S.B++(S'.B.drop S.B.length).take sp.aY.length)[id]? = some b/\Wu.heap[b]? = some (Obj.cells cs.toArray t (0,0)):=λid t cs hc=>by
  by_cases bE:id<S.L.length
  ·rw[Iq (by rw[g1]; exact bE)] at hc;obtain⟨b,h1,h2⟩:=g2 id t cs hc;exact⟨b,BC2 id b Qo (hB id b h1),h2⟩
  ·rw[List.getElem?_append_right (by rw[g1]; omega),g1,n3] at hc
   split at hc
   ·rename_i IT;have e:S.L.length+(id-S.L.length)=id:=Qo;rw[e] at hc;obtain⟨b,h1,h2⟩:=hw'.loc id t cs hc;exact⟨b,BC2 id b Qo h1,h2⟩
   ·cases hc
 have hlen:((YC S sp (xs++ys)).L++GG sp.aY zs).length=(S.B++(S'.B.drop S.B.length).take sp.aY.length).length:=by
  rw[Ip,Ip,g1,n1,hbl,Cc5]
 have hnd:(S.B++(S'.B.drop S.B.length).take sp.aY.length).Nodup:=by
  rw[hGB]; exact hw'.oI.sublist (List.take_sublist _ _)
 refine⟨hbl,λb hb=>by rw[hGB] at hb; exact List.mem_of_mem_take hb,CM3,⟨?_,λid bE=>?_⟩,⟨λid b hb=>?_,λid t cs hc=>?_,λid bE=>⟨bE,?_⟩⟩,⟨?_,oN,hlen,hnd,λid b bE hb=>?_⟩,λe1 e2=>⟨?_,oN,hlen,hnd,λid b bE hb=>?_⟩⟩
 ·show S.old<=(S.B++(S'.B.drop S.B.length).take sp.aY.length).length;have:=WS.old;rw[Ip]; omega
 ·show id<((YC S sp (xs++ys)).L++GG sp.aY zs).length;have:=WS.lk id bE;rw[Ip,g1]; omega
 ·exact BC2 id b (by have:=(I9.1 hb).1; omega) (hB id b hb)
 ·have bE:id<S.L.length:=(I9.1 hc).1;obtain⟨u1,u2⟩:(∀(id:Nat) (t:TypeId) (cs:List Va),id∈sp.WK.map (·.1)->(V8 S.L sp.WK ys)[id]? = some (t,cs)->S'.L[id]? = some (t,cs))/\True:=⟨t2.2,trivial⟩;have IT:id<(V8 S.L sp.WK ys).length:=by rw[t1]; exact bE
  have hg:(V8 S.L sp.WK ys)[id]? = some (((V8 S.L sp.WK ys)[id]).1,((V8 S.L sp.WK ys)[id]).2):=Im IT;show ∃nL,((YC S sp (xs++ys)).L++GG sp.aY zs)[id]? = some (t,nL);rw[Iq (by rw[g1]; exact bE),hL]
  by_cases hm:id∈sp.WK.map (·.1)
  ·have h4:=u1 id _ _ hm hg;obtain⟨nL,h5⟩:=wB.ty id t cs hc;rw[h5] at h4;simp only[I1,Prod.mk.injEq] at h4;exact⟨((V8 S.L sp.WK ys)[id]).2,by rw[hg,<-h4.1]⟩
  ·exact⟨cs,by rw[t2.1 id hm]; exact hc⟩
 ·have IT:=WS.lk id bE;show ((YC S sp (xs++ys)).L++GG sp.aY zs)[id]? = S.L[id]?;rw[Iq (by rw[g1]; exact IT),hL,t2.1 id λhm=>hs.WK id hm bE]
 ·exact Q0.refl _ _
 ·have h1:id<(S.B++(S'.B.drop S.B.length).take sp.aY.length).length:=(I9.1 hb).1;have h2:(S.B++(S'.B.drop S.B.length).take sp.aY.length).length<=id:=bE;omega
 ·have hbs:(HZ S sp (xs++ys) zs ((S'.B.drop S.B.length).take sp.aY.length)).bs=S'.bs:=by
   show (S.B++(S'.B.drop S.B.length).take sp.aY.length).take S.old=S'.B.take S'.old;rw[e2];have h1:=WS.old;rw[hGB,List.take_take,Nat.min_eq_left Qo]
  rw[hbs,<-e1]; exact hw'.ext
 ·have h1:S'.B[id]? = some b:=CK4 id b hb;have:=hw'.fresh id b (by rw[e2]; exact bE) h1;rw[e1] at this;exact this
structure zxc (C:Uw) (S:St) (w:Wo) (ds:List Nat) (a:Act) (sp:Y2) (vs:List Va) (w1:Wo) (a':Act) (Wu:Wo):Prop where
 fit:TB C.n (YC S sp vs) a'
 rel:Zl (YC S sp vs) w1 Wu
 wf:Lx (YC S sp vs)
 fra:Df ds a a'
theorem zb4{S S':St}{sp:Y2}(hnd:(sp.WK.map (·.1)).Nodup)(hty:∀(id:Nat) (t:TypeId) (cs:List Va),S.L[id]? = some (t,cs)->∃nL,S'.L[id]? = some (t,nL)){xs ys:List Va}(hxl:xs.length=sp.vN.length)(hy:KH S' sp.WK=some ys) :
  (∀(id:Nat) (t:TypeId) (cs:List Va),S.L[id]? = some (t,cs)->∃nL,(YC S sp (xs++ys)).L[id]? = some (t,nL))/\(∀id,id∉sp.WK.map (·.1)->(YC S sp (xs++ys)).L[id]? = S.L[id]?):=by
 have hdr:(xs++ys).drop sp.vN.length=ys:=by rw[<-hxl]; exact List.drop_left
 obtain⟨h1,h2,h3⟩:=KC (L:=S.L) hnd hy hty;have hL:(YC S sp (xs++ys)).L=V8 S.L sp.WK ys:=by simp only[YC,hdr]
 rw[hL];refine⟨λid t cs hc=>?_,h2⟩;have bE:id<(V8 S.L sp.WK ys).length:=by rw[h1]; exact(I9.1 hc).1
 by_cases hm:id∈sp.WK.map (·.1)
 ·have hg:(V8 S.L sp.WK ys)[id]? = some (((V8 S.L sp.WK ys)[id]).1,((V8 S.L sp.WK ys)[id]).2):=Im bE;have h4:=h3 id _ _ hm hg;obtain⟨nL,h5⟩:=hty id t cs hc;rw[h5] at h4;simp only[I1,Prod.mk.injEq] at h4;exact⟨((V8 S.L sp.WK ys)[id]).2,by rw[hg,<-h4.1]⟩
 ·exact⟨cs,by rw[h2 id hm]; exact hc⟩
theorem Fy{n:Nat}{S:St}{a:Act}(hf:TB n S a){x:Operand}{e:EV}(hb:zd6 S [] x=some e):EV.den S e (a.eval x):=by
 have:=Y4 (ops:=#[]) (hf.enter #[] (λ_=>False)).fit (pc:=[]) (λp hp=>by cases hp) (S:={ S with r:=S.r+1 }) (x:=x) (e:=e) (by
  cases x with
  | tmp t=>
   simp only[zd6] at hb ⊢
   split at hb
   ·exact hb
   ·rename_i r vT y hg
    cases dJ:Nat.beq r S.r&&zdi vT [] with
    | false=>rw[dJ] at hb; cases hb
    | true=>
     simp only[A'] at dJ;have:=Ic dJ.1;have h2:=hf.old t r vT y hg;omega
   ·cases hb
  | const v=>exact hb
  | global g=>exact hb
  | func f=>exact hb)
 exact EV.gZ (S:={ S with r:=S.r+1 }) (λ_ _ h=>h) this
theorem zke(S:St)(c:Operand)(x:Bool):(sW S c x).L=S.L/\(sW S c x).B=S.B/\(sW S c x).old=S.old/\(sW S c x).lk=S.lk/\(sW S c x).r=S.r:=by
 unfold sW;split
 ·cases Nat.blt _ 4000 <;> exact⟨rfl,rfl,rfl,rfl,rfl⟩
 ·exact⟨rfl,rfl,rfl,rfl,rfl⟩
theorem TB.sW{n:Nat}{S:St}{a:Act}(hf:TB n S a){c:Operand}{x:Bool}(hc:a.eval c=.bool x):TB n (sW S c x) a:=by
 unfold YtnclplgaicdapaaGreatDoor.sW;split
 ·rename_i t
  cases hl:Nat.blt t 4000 with
  | false=>exact hf
  | true=>
   have IT:t<4000:=Il hl;have hg:∀i,(PT.set 12 S.F t (.un (.kb x))).get i=if t=i then some (.un (.kb x)) else S.F.get i:=λi=>PT.lS _ 12 S.F t i (by have h1 : @LT.lt Nat _ t 4000:=IT; show @LT.lt Nat _ (t+1) (2 ^ 12); omega)
   refine⟨hf.size,λi y hy=>?_,λi r pc y hy=>?_⟩
   ·have hy:(PT.set 12 S.F t (.un (.kb x))).get i=some (.un y):=hy;rw[hg i] at hy
    by_cases hti:t=i
    ·subst hti;rw[E' rfl] at hy;simp only[I1,SV.un.injEq] at hy;subst hy;exact hc
    ·rw[C' hti] at hy;exact EV.gZ (S:=S) (λ_ _ h=>h) (hf.fits i y hy)
   ·have hy:(PT.set 12 S.F t (.un (.kb x))).get i=some (.gd r pc y):=hy;rw[hg i] at hy
    by_cases hti:t=i
    ·rw[E' hti] at hy; cases hy
    ·rw[C' hti] at hy; exact hf.old i r pc y hy
 ·exact hf
theorem zmq{S:St}{w wr:Wo}{c:Operand}{x:Bool}(h:Zl S w wr):Zl (sW S c x) w wr:=by
 obtain⟨h1,h2,h3,h4,h5⟩:=zke S c x;refine⟨?_,?_,?_,?_,?_⟩
 ·unfold St.bs; rw[h2,h3]; exact h.ext
 ·rw[h1,h2]; exact h.loc
 ·rw[h1,h2]; exact h.len
 ·rw[h2]; exact h.oI
 ·rw[h2,h3]; exact h.fresh
theorem zq3{S:St}{c:Operand}{x:Bool}(h:Lx S):Lx (sW S c x):=by
 obtain⟨h1,h2,h3,h4,h5⟩:=zke S c x;exact⟨by rw[h2,h3]; exact h.old,by rw[h1,h4]; exact h.lk⟩
theorem zmp{C:Uw}{S:St}{w:Wo}{ds:List Nat}{a:Act}{S':St}{w':Wo}{a':Act}{Wu:Wo}{c:Operand}{x:Bool}(h:PL C (sW S c x) w ds a S' w' a' Wu):PL C S w ds a S' w' a' Wu:=by
 obtain⟨h1,h2,h3,h4,h5⟩:=zke S c x;refine⟨h.fit,h.rel,h.wf,⟨?_,?_,?_⟩,h.fra,?_⟩
 ·have:=h.fr.B; rw[h2] at this; exact this
 ·have:=h.fr.ty; rw[h1] at this; exact this
 ·have:=h.fr.lk; rw[h1,h4] at this; exact this
 ·have:=h.pm; rw[h3] at this; exact this
theorem Yl{C:Uw}(E:zpk C){sps:List (Nat×Y2)}:∀(c:Code) (S:St) (w wr:Wo) (a:Act) (K:Exit->St->Wo->Prop) (Q:Exit->Act->Wo->Prop),B7 C sps c S w K->TB C.n S a->Zl S w wr->Lx S->
  (∀e S' w' a' Wu,K e S' w'->PL C S w (X3 c) a S' w' a' Wu->Q e a' Wu)->c.wpIn (Vo C.rd) 0 C.P Q a wr
 | .skip,S,w,wr,a,K,Q,h,hf,hw,WS,hQ=>wpIn_skip (hQ _ _ _ _ _ h (PL.refl _ hf hw WS))
 | .label _,S,w,wr,a,K,Q,h,hf,hw,WS,hQ=>wpIn_label (hQ _ _ _ _ _ h (PL.refl _ hf hw WS))
 | .exit _,S,w,wr,a,K,Q,h,hf,hw,WS,hQ=>wpIn_exit (hQ _ _ _ _ _ h (PL.refl _ hf hw WS))
 | .ret,S,w,wr,a,K,Q,h,hf,hw,WS,hQ=>wpIn_ret (hQ _ _ _ _ _ h (PL.refl _ hf hw WS))
 | .region _ ops d,S,w,wr,a,K,Q,h,hf,hw,WS,hQ=>zk8 E h hf hw WS λS' w' a' Wu hK he=>hQ _ _ _ _ _ hK he
 | .seq x y,S,w,wr,a,K,Q,h,hf,hw,WS,hQ=>by
  have A96:∀z∈X3 x,z∈X3 (.seq x y):=λz hz=>Ib _ hz
  have Bk5:∀z∈X3 y,z∈X3 (.seq x y):=λz hz=>Iy _ hz
  simp only[B7] at h
  split at h
  ·refine wpIn_seq (Yl E x S w wr a _ _ h hf hw WS λe S' w' a' Wu hK he=>?_)
   cases e with
   | normal=>exact Yl E y S' w' Wu a' _ _ hK he.fit he.rel he.wf λe2 S2 w2 a2 O' gV aE=>hQ _ _ _ _ _ gV (he.trans aE A96 Bk5)
   | _=>exact hQ _ _ _ _ _ hK (he.mono A96)
  ·rename_i sp _
   cases hok:ztd S sp (X3 x) with
   | false=>rw[hok] at h; exact h.elim
   | true=>
    rw[hok] at h;simp only[cond_true] at h;have hs:=zdu hok;have hf0:TB C.n { S with lk:=Da S sp } a:=⟨hf.size,hf.fits,hf.old⟩;have hw0:Zl { S with lk:=Da S sp } w wr:=⟨hw.ext,hw.loc,hw.len,hw.oI,hw.fresh⟩;have Cg2:Lx { S with lk:=Da S sp }:=⟨WS.old,λid bE=>(PJ.1 bE).1⟩
    have out:∀{S':St} {w':Wo} {a':Act} {Wu:Wo},PL C { S with lk:=Da S sp } w (X3 x) a S' w' a' Wu->PL C S w (X3 (.seq x y)) a { S' with lk:=S.lk } w' a' Wu:=λ{S' w' a' Wu} he=>by
     have f1:MU S { S' with lk:=S.lk }:=⟨he.fr.B,he.fr.ty,λid bE=>⟨bE,(he.fr.lk id (PJ.2 ⟨WS.lk id bE,λhm=>hs.WK id hm bE⟩)).2⟩⟩
     exact⟨⟨he.fit.size,he.fit.fits,he.fit.old⟩,⟨he.rel.ext,he.rel.loc,he.rel.len,he.rel.oI,he.rel.fresh⟩,⟨he.wf.old,λid bE=>by
      obtain⟨nL,hc'⟩:=f1.ty id (S.L[id]'(WS.lk id bE)).1 (S.L[id]'(WS.lk id bE)).2 (Im _);exact(I9.1 hc').1⟩,f1,he.fra.mono A96,he.pm⟩
    cases kV:C.pm with
    | true=>
     rw[kV] at h;simp only[cond_true] at h;obtain⟨lJ,h1,h2⟩:=h;refine wpIn_seq (Yl E x _ w wr a _ _ h1 hf0 hw0 Cg2 λe S' w' a' Wu hK he=>?_)
     cases e with
     | normal=>
      obtain⟨xs,ys,zs,g1,g2,g3,g4,g5,g6,g7⟩:=zhb hK;obtain⟨j1,j2,j3,j4,j5,j6,j7⟩:=zqe hs hf hw WS he.fit he.rel he.fra he.fr g1 g2 g3 g6;obtain⟨p1,p2⟩:=he.pm kV;refine Yl E y _ w Wu a' _ _ (Bv (TY (TY h2 g4) g5) j1 g7) j3 (j7 p1 p2) j4 λe2 S2 w2 a2 O' gV aE=>hQ _ _ _ _ _ gV ⟨aE.fit,aE.rel,aE.wf,j5.trans aE.fr,(he.fra.mono A96).trans (aE.fra.mono Bk5),λhp=>aE.pm hp⟩
     | _=>exact hQ _ _ _ _ _ hK (out he)
    | false=>
     rw[kV] at h;simp only[cond_false] at h;obtain⟨lJ,h1,h2⟩:=h;refine wpIn_seq (Yl E x _ w wr a _ _ h1 hf0 hw0 Cg2 λe S' w' a' Wu hK he=>?_)
     cases e with
     | normal=>
      obtain⟨xs,ys,zs,g1,g2,g3,g4,g5,g6,g7⟩:=zhb (hK Wu he.rel.ext he.rel.lt);obtain⟨j1,j2,j3,j4,j5,j6,j7⟩:=zqe hs hf hw WS he.fit he.rel he.fra he.fr g1 g2 g3 g6;refine Yl E y _ Wu Wu a' _ _ (Bv (TY (TY h2 g4) g5) j1 Wu (λb hb=>he.rel.lt b (j2 b hb)) g7) ⟨j3.size,j3.fits,j3.old⟩ j6 ⟨I8 _,j4.lk⟩ λe2 S2 w2 a2 O' gV aE=>hQ _ _ _ _ _ gV ⟨aE.fit,aE.rel,aE.wf,j5.trans ⟨aE.fr.B,aE.fr.ty,aE.fr.lk⟩,(he.fra.mono A96).trans (aE.fra.mono Bk5),λhp=>by rw[kV] at hp; cases hp⟩
     | _=>exact hQ _ _ _ _ _ hK (out he)
 | .cond c x y,S,w,wr,a,K,Q,h,hf,hw,WS,hQ=>by
  simp only[B7] at h
  split at h
  ·rename_i hb;have hc:a.eval c=.bool true:=Fy hf hb;refine wpIn_cond_split hc (λhb=>?_) (λhb=>by cases hb);exact Yl E x S w wr a _ _ h hf hw WS λe S' w' a' Wu hK he=>hQ _ _ _ _ _ hK (he.mono λz hz=>Ib _ hz)
  ·rename_i hb;have hc:a.eval c=.bool false:=Fy hf hb;refine wpIn_cond_split hc (λhb=>by cases hb) (λhb=>?_);exact Yl E y S w wr a _ _ h hf hw WS λe S' w' a' Wu hK he=>hQ _ _ _ _ _ hK (he.mono λz hz=>Iy _ hz)
  ·rename_i b hb;have hc:a.eval c=.bool b:=Fy hf hb;refine wpIn_cond_split hc (λhb=>?_) (λhb=>?_)
   ·subst hb;exact Yl E x (sW S c true) w wr a _ _ (h.1 rfl) (hf.sW hc) (zmq hw) (zq3 WS) λe S' w' a' Wu hK he=>hQ _ _ _ _ _ hK ((zmp he).mono λz hz=>Ib _ hz)
   ·subst hb;exact Yl E y (sW S c false) w wr a _ _ (h.2 rfl) (hf.sW hc) (zmq hw) (zq3 WS) λe S' w' a' Wu hK he=>hQ _ _ _ _ _ hK ((zmp he).mono λz hz=>Iy _ hz)
  ·exact h.elim
 | .scope b,S,w,wr,a,K,Q,h,hf,hw,WS,hQ=>by
  refine HT (Yl E b S w wr a _ _ h hf hw WS λe S' w' a' Wu hK he=>?_)
  cases e with
  | goto l=>exact hK.elim
  | _=>exact hQ _ _ _ _ _ hK he
 | .block id b,S,w,wr,a,K,Q,h,hf,hw,WS,hQ=>by
  refine wpIn_block (Yl E b S w wr a _ _ h hf hw WS λe S' w' a' Wu hK he=>?_)
  cases e with
  | exit id'=>
   simp only[Exit.inBlock]
   dsimp only at hK
   cases hb:Nat.beq id' id with
   | true=>
    rw[hb] at hK;rw[E' (Ic hb)];exact hQ _ _ _ _ _ hK he
   | false=>
    rw[hb] at hK;rw[C' (λe=>by rw[e,Nat.beq_refl] at hb; cases hb)];exact hQ _ _ _ _ _ hK he
  | _=>exact hQ _ _ _ _ _ hK he
 | .loop b,S,w,wr,a,K,Q,h,hf,hw,WS,hQ=>by
  simp only[B7] at h
  split at h
  ·exact h.elim
  ·rename_i key DU4
   split at h
   ·exact h.elim
   ·rename_i sp hsp
    cases hok:ztd S sp (X3 b) with
    | false=>rw[hok] at h; exact h.elim
    | true=>
     rw[hok] at h;simp only[cond_true] at h;have hs:=zdu hok
     cases kV:C.pm with
     | true=>
      rw[kV] at h;simp only[cond_true] at h;obtain⟨JH,μ,Bw4,pN⟩:=h
      have mk:∀(S':St) (a':Act) (Wu:Wo) (xs ys:List Va),TB C.n S' a'->Zl S' w Wu->S'.old=S.old->Df (X3 b) a a'->(∀(id b:Nat),S.B[id]? = some b->S'.B[id]? = some b)->
        (∀(id:Nat) (t:TypeId) (cs:List Va),S.L[id]? = some (t,cs)->∃nL,S'.L[id]? = some (t,nL))->(∀id,id<S.L.length->id∉sp.WK.map (·.1)->S'.L[id]? = S.L[id]?)->
        H6 S' sp.vN=some xs->KH S' sp.WK=some ys->zxc C S w (X3 b) a sp (xs++ys) w a' Wu:=by
       intro S' a' Wu xs ys h1 h2 h3 h4 h5 h6 h7 h8 h9;obtain⟨g1,g2⟩:=zb3 hs hw h2 h5 h6 h7 (UM h8).1 h9;refine⟨zb2 hs hf h1 h4 h8,⟨?_,g2,by rw[g1]; exact hw.len,hw.oI,hw.fresh⟩,⟨WS.old,λid bE=>by rw[g1]; exact(PJ.1 bE).1⟩,h4⟩;have hbs:S'.bs=S.bs:=by unfold St.bs; rw[h3]; exact zh8 WS.old h5
       have:=h2.ext;rw[hbs] at this;exact this
      obtain⟨xs,ys,hx,hy,hk,hI⟩:=Ko Bw4
      refine B1 (λn a' Wu=>∃xs ys S',μ (xs++ys)=n/\JH (xs++ys)/\Ua sp.ks (xs++ys)=true/\xs.length=sp.vN.length/\KH S' sp.WK=some ys/\(∀(id:Nat) (t:TypeId) (cs:List Va),S.L[id]? = some (t,cs)->∃nL,S'.L[id]? = some (t,nL))/\zxc C S w (X3 b) a sp (xs++ys) w a' Wu)
       (m:=μ (xs++ys)) ⟨xs,ys,S,rfl,hI,hk,(UM hx).1,hy,λ_ _ cs h=>⟨cs,h⟩,mk S a wr xs ys hf hw rfl (Df.refl _ _) (λ_ _ h=>h) (λ_ _ cs h=>⟨cs,h⟩) (λ_ _ _=>rfl) hx hy⟩ ?_
      rintro n a' Wu ⟨xs,ys,S',rfl,hI,hk,hxl,hyl,hty,hH⟩;obtain⟨t1,t2⟩:=zb4 hs.nd hty hxl hyl
      have hlen:(YC S sp (xs++ys)).L.length=S.L.length:=by
       have:=hH.rel.len;rw[this]; exact hw.len.symm
      refine Yl E b _ w Wu a' _ _ (TY pN hk hI) hH.fit hH.rel hH.wf λe S2 w2 a2 O' hK he=>?_
      obtain⟨f1,f2⟩:=zlp hs WS hlen t1 t2 he.fr;obtain⟨p1,p2⟩:=he.pm kV;subst p1
      cases e with
      | normal=>
       obtain⟨xs',ys',fR,hy',hk',hI',IT⟩:=Ko hK;refine⟨μ (xs'++ys'),IT,xs',ys',S2,rfl,hI',hk',(UM fR).1,hy',f1.ty,?_⟩;exact mk S2 a2 O' xs' ys' he.fit he.rel p2 (hH.fra.trans he.fra) f1.B f1.ty f2 fR hy'
      | _=>
       exact hQ _ _ _ _ _ hK ⟨⟨he.fit.size,he.fit.fits,he.fit.old⟩,⟨he.rel.ext,he.rel.loc,he.rel.len,he.rel.oI,he.rel.fresh⟩,
        ⟨he.wf.old,λid bE=>by
         obtain⟨nL,hc'⟩:=f1.ty id (S.L[id]'(WS.lk id bE)).1 (S.L[id]'(WS.lk id bE)).2 (Im _);exact(I9.1 hc').1⟩,f1,hH.fra.trans he.fra,λ_=>⟨rfl,p2⟩⟩
     | false=>
      rw[kV] at h;simp only[cond_false] at h;obtain⟨JH,μ,Bw4,pN⟩:=h
      have mk:∀(S':St) (w':Wo) (a':Act) (Wu:Wo) (xs ys:List Va),TB C.n S' a'->Zl S' w' Wu->Df (X3 b) a a'->(∀(id b:Nat),S.B[id]? = some b->S'.B[id]? = some b)->
        (∀(id:Nat) (t:TypeId) (cs:List Va),S.L[id]? = some (t,cs)->∃nL,S'.L[id]? = some (t,nL))->(∀id,id<S.L.length->id∉sp.WK.map (·.1)->S'.L[id]? = S.L[id]?)->
        H6 S' sp.vN=some xs->KH S' sp.WK=some ys->zxc C S.cK Wu (X3 b) a sp (xs++ys) Wu a' Wu:=by
       intro S' w' a' Wu xs ys h1 h2 h4 h5 h6 h7 h8 h9;obtain⟨g1,g2⟩:=zb3 hs hw h2 h5 h6 h7 (UM h8).1 h9;have hf1:=zb2 (ys:=ys) hs hf h1 h4 h8;refine⟨⟨hf1.size,hf1.fits,hf1.old⟩,⟨Q0.refl _ _,g2,by show (YC S sp (xs++ys)).L.length=_; rw[g1]; exact hw.len,hw.oI,λid b bE hb=>?_⟩,⟨I8 _,λid bE=>by show id<(YC S sp (xs++ys)).L.length; rw[g1]; exact(PJ.1 bE).1⟩,h4⟩;have:id<S.B.length:=(I9.1 hb).1;have DT8:S.B.length<=id:=bE;omega
      obtain⟨xs,ys,hx,hy,hk,hI⟩:=Ko (Bw4 wr hw.ext hw.lt)
      refine B1 (λn a' Wu=>∃xs ys S',μ (xs++ys) Wu=n/\JH (xs++ys) Wu/\Ua sp.ks (xs++ys)=true/\xs.length=sp.vN.length/\KH S' sp.WK=some ys/\(∀(id:Nat) (t:TypeId) (cs:List Va),S.L[id]? = some (t,cs)->∃nL,S'.L[id]? = some (t,nL))/\zxc C S.cK Wu (X3 b) a sp (xs++ys) Wu a' Wu)
       (m:=μ (xs++ys) wr) ⟨xs,ys,S,rfl,hI,hk,(UM hx).1,hy,λ_ _ cs h=>⟨cs,h⟩,mk S w a wr xs ys hf hw (Df.refl _ _) (λ_ _ h=>h) (λ_ _ cs h=>⟨cs,h⟩) (λ_ _ _=>rfl) hx hy⟩ ?_
      rintro n a' Wu ⟨xs,ys,S',rfl,hI,hk,hxl,hyl,hty,hH⟩;obtain⟨t1,t2⟩:=zb4 hs.nd hty hxl hyl
      have hlen:(YC S sp (xs++ys)).L.length=S.L.length:=by
       have:(YC S.cK sp (xs++ys)).L.length=S.B.length:=hH.rel.len;rw[<-hw.len] at this;exact this
      refine Yl E b _ Wu Wu a' _ _ (TY pN hk Wu hH.rel.lt hI) hH.fit hH.rel hH.wf λe S2 w2 a2 O' hK he=>?_
      have rK:MU (YC S sp (xs++ys)) S2:=⟨he.fr.B,he.fr.ty,he.fr.lk⟩;obtain⟨f1,f2⟩:=zlp hs WS hlen t1 t2 rK
      cases e with
      | normal=>
       obtain⟨xs',ys',fR,hy',hk',hI',IT⟩:=Ko (hK O' he.rel.ext he.rel.lt);refine⟨μ (xs'++ys') O',IT,xs',ys',S2,rfl,hI',hk',(UM fR).1,hy',f1.ty,?_⟩;exact mk S2 w2 a2 O' xs' ys' he.fit he.rel (hH.fra.trans he.fra) f1.B f1.ty f2 fR hy'
      | _=>
       exact hQ _ _ _ _ _ hK ⟨⟨he.fit.size,he.fit.fits,he.fit.old⟩,⟨he.rel.ext,he.rel.loc,he.rel.len,he.rel.oI,he.rel.fresh⟩,
        ⟨he.wf.old,λid bE=>by
         obtain⟨nL,hc'⟩:=f1.ty id (S.L[id]'(WS.lk id bE)).1 (S.L[id]'(WS.lk id bE)).2 (Im _);exact(I9.1 hc').1⟩,f1,hH.fra.trans he.fra,λhp=>by rw[kV] at hp; cases hp⟩
 | .rangeFunc _ _ _ _,_,_,_,_,_,_,h,_,_,_,_=>h.elim
 | .goto _,_,_,_,_,_,_,h,_,_,_,_=>h.elim
 | .refuse _,_,_,_,_,_,_,h,_,_,_,_=>h.elim
def zlr:List Va->Nat->PT SV
 | [],_=>.leaf
 | v::r,i=>PT.set 12 (zlr r (i+1)) i (.un (.v v))
theorem zg9:∀{l:List Va} {k i:Nat} {sv:SV},k+l.length<=4000->(zlr l k).get i=some sv->∃v,l[i-k]? = some v/\k<=i/\sv=.un (.v v)
 | [],k,i,sv,_,h=>by simp[zlr,PT.get] at h
 | v::r,k,i,sv,hl,h=>by
  simp only[zlr] at h;simp only[List.length_cons] at hl;rw[PT.lS _ 12 _ _ _ (by show @LT.lt Nat _ (k+1) (2 ^ 12); have e:(2:Nat) ^ 12=4096:=rfl; omega)] at h
  by_cases hk:k=i
  ·subst hk;rw[E' rfl] at h;simp only[I1] at h;exact⟨v,Qs,I8 _,h.symm⟩
  ·rw[C' hk] at h;obtain⟨u,h1,h2,h3⟩:=zg9 Qo h;refine⟨u,?_,Qo,h3⟩;have:i-k=(i-(k+1))+1:=Qo;rw[this]; simpa using h1
def DM(args:List Va):St:={ F:=zlr args 0,L:=[],B:=[],old:=0,lk:=[],r:=1 }
def zmi(C:Uw)(S:St)(w:Wo):List ResultVar->(List Va->Prop)->Prop
 | [],K=>K []
 | .tmp t::r,K=>match GL S [] (.tmp t) with
  | some v=>zmi C S w r λl=>K (v::l)
  | none=>False
 | .cell p t::r,K=>match C.T t,zd6 S [] (.tmp p) with
  | some ty,some (.loc id 0)=>match S.L[id]? with
   | some (_,cs)=>bif Nat.beq cs.length ty.ks.length then
     (match ty.val cs with
      | some v=>zmi C S w r λl=>K (v::l)
      | none=>False)
    else False
   | none=>False
  | some ty,some (.el o n)=>zla ty.ks λvs=>match ty.val vs with
   | some v=>Q1 S.bs w o n vs/\zmi C S w r λl=>K (v::l)
   | none=>False
  | _,_=>False
def zpb:List Va->Va
 | [v]=>v
 | l=>.tuple l.toArray
def zur(C:Uw)(sps:List (Nat×Y2))(args:List Va)(body:Code)(res:List ResultVar)(w:Wo)(R:Va->Wo->Prop):Prop:=
 B7 C sps body (DM args) w λe S w'=>match e with
  | .normal | .ret=>zmi C S w' res λl=>bif C.pm then R (zpb l) w' else ∀wr,Q0 S.bs w' wr->R (zpb l) wr
  | _=>False
theorem zwc{C:Uw}(E:zpk C){S:St}{w wr:Wo}{a:Act}(hf:TB C.n S a)(hw:Zl S w wr):∀{res:List ResultVar} {K:List Va->Prop},zmi C S w res K->
  ∃l,K l/\l.length=res.length/\(res.mapM (m:=Sem) fun
   | .tmp t=>pure (a.tmps.getD t undef)
   | .cell p t=>do loadVar t (<-asAddr (a.tmps.getD p undef))).run C.P wr=.ok l wr:=by
 have hd:∀{x:Operand} {e:EV},zd6 S [] x=some e->EV.den S e (a.eval x):=λ{x e} hb=>by
  have:=Y4 (ops:=#[]) (hf.enter #[] (λ_=>False)).fit (pc:=[]) (λp hp=>by cases hp) (S:={ S with r:=S.r+1 }) (x:=x) (e:=e) (by
   cases x with
   | tmp t=>
    simp only[zd6] at hb ⊢
    split at hb
    ·exact hb
    ·rename_i r vT y hg
     cases dJ:Nat.beq r S.r&&zdi vT [] with
     | false=>rw[dJ] at hb; cases hb
     | true=>
      simp only[A'] at dJ;have:=Ic dJ.1;have h2:=hf.old t r vT y hg;omega
    ·cases hb
   | const v=>exact hb
   | global g=>exact hb
   | func f=>exact hb)
  exact EV.gZ (S:={ S with r:=S.r+1 }) (λ_ _ h=>h) this
 intro res
 induction res with
 | nil=>intro K h; exact⟨[],h,rfl,Qs⟩
 | cons x r ih=>
  intro K h
  cases x with
  | tmp t=>
   simp only[zmi] at h
   split at h
   ·rename_i v hv;obtain⟨l,h1,h2,h3⟩:=ih h
    have hv':a.tmps.getD t undef=v:=by
     unfold GL at hv
     split at hv
     ·rename_i e he;exact CU hv (hd he)
     ·cases hv
    refine⟨v::l,h1,by simp[h2],?_⟩;simp only[List.mapM_cons,Sem.run_bind,Sem.run_pure,Result.andThen_ok,h3,hv']
   ·exact h.elim
  | cell p t=>
   simp only[zmi] at h
   split at h
   ·rename_i ty id ht he;obtain⟨b,hb,hx⟩:=hd he;simp only[Act.eval] at hx
    split at h
    ·rename_i t' cs hl
     cases hc:Nat.beq cs.length ty.ks.length with
     | false=>rw[hc] at h; exact h.elim
     | true=>
      rw[hc] at h;simp only[cond_true] at h
      split at h
      ·rename_i v hv;obtain⟨l,h1,h2,h3⟩:=ih h
       have hl2:=VL E.T ht hv (Ic hc) (a:=⟨b,0,none⟩) (w:=wr) (λj y hy=>by
        rw[Addr.add_lit,GE hw hl hb,Nat.zero_add]; exact hy)
       refine⟨v::l,h1,by simp[h2],?_⟩;have ha:(asAddr (a.tmps.getD p undef)).run C.P wr=.ok ⟨b,0,none⟩ wr:=by rw[hx]; rfl
       simp only[List.mapM_cons,Sem.run_bind,ha,Sem.run_pure,Result.andThen_ok,hl2,h3]
      ·exact h.elim
    ·exact h.elim
   ·rename_i ty o n ht he;obtain⟨ad,ho,hx⟩:=hd he;simp only[Act.eval] at hx;obtain⟨vs,hlen,h⟩:=OY h
    split at h
    ·rename_i v hv;obtain⟨hcx,h⟩:=h;obtain⟨l,h1,h2,h3⟩:=ih h;have hl2:=VL E.T ht hv hlen (a:=ad.add n) (w:=wr) (hcx.cells hw.ext ho);refine⟨v::l,h1,by simp[h2],?_⟩;have ha:(asAddr (a.tmps.getD p undef)).run C.P wr=.ok (ad.add n) wr:=by rw[hx]; rfl
     simp only[List.mapM_cons,Sem.run_bind,ha,Sem.run_pure,Result.andThen_ok,hl2,h3]
    ·exact h.elim
   ·exact h.elim
theorem NP{C:Uw}(E:zpk C){sps:List (Nat×Y2)}{f:FuncId}{fn:Func}{body:Code}{args:List Va}{w:Wo}{R:Va->Wo->Prop}(hf:C.P.funcs[f]? = some fn)(hb:fn.body=some body)(hn:fn.ntmps=C.n)(hargs:args.length<=C.n)(hn4:C.n<=4000)(hrd:C.rd=none)(h:zur C sps args body fn.results.toList w R):Calls C.P f args.toArray w λe w'=>∃v wv,e=.returned v/\(C.pm=true->wv=w/\Q0 [] w w')/\(C.pm=true->R v wv)/\(C.pm=false->R v w'):=by
 refine(callsIn_wide (n:=0)).1 (callsIn_of_wp hf hb trivial ?_);have hF:Vo C.rd=Fence.wide:=by rw[hrd]; rfl
 rw[<-hF]
 have CM3:TB C.n (DM args) { tmps:=args.toArray++Array.replicate (fn.ntmps-args.toArray.size) undef,defers:=[] }:=by
  have AM7:∀i sv,(DM args).F.get i=some sv->∃v,args[i]? = some v/\sv=.un (.v v):=λi sv hs=>by
   obtain⟨v,h1,_,h3⟩:=zg9 Qo hs;exact⟨v,by simpa using h1,h3⟩
  refine⟨by simp[hn]; omega,λi x hx=>?_,λi r pc x hx=>?_⟩
  ·obtain⟨v,h1,h2⟩:=AM7 i _ hx;cases h2;show _=v;rw[Array.getD_eq_getD_getElem?,Array.getElem?_append_left (by simpa using (I9.1 h1).1)];simp[h1]
  ·obtain⟨v,h1,h2⟩:=AM7 i _ hx;cases h2
 have vQ:Zl (DM args) w w:=⟨Q0.refl _ _,λid t cs hl=>by simp[DM] at hl,rfl,List.nodup_nil,λid b _ hb=>by simp[DM] at hb⟩;refine Yl E body (DM args) w w _ _ _ h CM3 vQ ⟨Ie _,λid bE=>by cases bE⟩ λe S w' a' Wu hK he=>?_
 have fin:zmi C S w' fn.results.toList (λl=>bif C.pm then R (zpb l) w' else ∀wr,Q0 S.bs w' wr->R (zpb l) wr)->a'.defers=[]/\∃v,(results fn a'.tmps).run C.P Wu=.ok v Wu/\∃v' wv,Ending.returned v=.returned v'/\(C.pm=true->wv=w/\Q0 [] w Wu)/\(C.pm=true->R v' wv)/\(C.pm=false->R v' Wu):=λhr=>by
  obtain⟨l,h1,h2,h3⟩:=zwc E he.fit he.rel hr;refine⟨he.fra.1,zpb l,?_,zpb l,w',rfl,λhp=>?_,λhp=>?_,λhp=>?_⟩
  ·simp only[results,Sem.run_bind,Array.mapM_eq_mapM_toList,Sem.run_map];refine(congrArg (λr:Result (List Va)=>(r.andThen λa w'=>Result.ok a.toArray w').andThen λvs w'=>(Pure.pure (if h:vs.size=1 then vs[0] else .tuple vs):Sem Va).run C.P w') h3).trans ?_;simp only[Result.andThen_ok,Sem.run_pure]
   congr 1
   cases l with
   | nil=>rfl
   | cons x r=>
    cases r with
    | nil=>rfl
    | cons y q=>simp[zpb]
  ·obtain⟨p1,p2⟩:=he.pm hp;refine⟨p1,?_⟩;have hx:=he.rel.ext;rw[<-p1];have hbs:S.bs=[]:=by unfold St.bs; rw[p2]; rfl
   rw[hbs] at hx;exact hx
  ·rw[hp] at h1; exact h1
  ·rw[hp] at h1; exact h1 Wu he.rel.ext
 cases e with
 | normal=>exact fin hK
 | ret=>exact fin hK
 | _=>exact hK.elim
theorem zot{C:Uw}(E:zpk C){sps:List (Nat×Y2)}{f:FuncId}{fn:Func}{body:Code}{args:List Va}{w:Wo}{bs:List Nat}{r:Va}(hf:C.P.funcs[f]? = some fn)(hb:fn.body=some body)(hn:fn.ntmps=C.n)(hargs:args.length<=C.n)(hn4:C.n<=4000)(kV:C.pm=true)(hrd:C.rd=none)(h:∀wr,Q0 bs w wr->zur C sps args body fn.results.toList wr λv _=>v=r):Q3 bs C.P f args.toArray w r:=λwr hx=>
 (NP E hf hb hn hargs hn4 hrd (h wr hx)).mono λe w' ⟨v,_,he,h1,h2,_⟩=>by
  have:=h2 kV;subst this;exact⟨he,(h1 kV).2⟩
theorem zr1{C:Uw}(E:zpk C){sps:List (Nat×Y2)}{f:FuncId}{fn:Func}{body:Code}{args:List Va}{w:Wo}{R:Va->Wo->Prop}(hf:C.P.funcs[f]? = some fn)(hb:fn.body=some body)(hn:fn.ntmps=C.n)(hargs:args.length<=C.n)(hn4:C.n<=4000)(kV:C.pm=false)(hrd:C.rd=none)(h:zur C sps args body fn.results.toList w R):Calls C.P f args.toArray w λe w'=>∃v,e=.returned v/\R v w':=
 (NP E hf hb hn hargs hn4 hrd h).mono λe w' ⟨v,_,he,_,_,h3⟩=>⟨v,he,h3 kV⟩
theorem V0{w:Wo}{b:Nat}{cs:Array Va}{t:TypeId}{fz:Nat×Nat}(h:w.heap[b]? = some (.cells cs t fz))(k:Nat):w.cell? ⟨b,k,none⟩=cs[k]? := by
 simp[World.cell?,h]
theorem JW{w:Wo}{b:Nat}{o:Obj}(h:w.heap[b]? = some o):b<w.heap.size:=by
 rcases Nat.lt_or_ge b w.heap.size with hl | hl
 ·exact hl
 ·rw[Array.getElem?_eq_none_iff.2 hl] at h; cases h
theorem VP{bs:List Nat}{w:Wo}{b k0:Nat}{cs:List Va}{t:TypeId}{fz:Nat×Nat}(h:w.heap[b]? = some (.cells cs.toArray t fz))(hb:b∉bs){k:Nat}{v:Va}(hk:cs[k0+k]? = some v):U0 bs w (some ⟨b,k0,none⟩) k v:=
 ⟨⟨b,k0,none⟩,rfl,hb,by rw[Addr.add_lit,V0 h]; simpa using hk⟩
theorem XZ{bs:List Nat}{w:Wo}{o:OA}{n:Nat}{v:Va}(h:U0 bs w o n v):Q1 bs w o n [v]:=h
theorem VQ{bs:List Nat}{w:Wo}{o:OA}:∀{n:Nat} {vs:List Va},(∀j v,vs[j]? = some v->U0 bs w o (n+j) v)->Q1 bs w o n vs
 | _,[],_=>trivial
 | n,[v],h=>h 0 v rfl
 | n,v::u::r,h=>⟨h 0 v rfl,VQ (vs:=u::r) λj x hj=>by
   have:=h (j+1) x (by simpa using hj);rw[show n+1+j=n+(j+1) by omega]; exact this⟩
theorem PN{bs:List Nat}{w:Wo}{b k0:Nat}{cs:List Va}{t:TypeId}{fz:Nat×Nat}(h:w.heap[b]? = some (.cells cs.toArray t fz))(hb:b∉bs){n:Nat}{vs:List Va}(hk:∀j v,vs[j]? = some v->cs[k0+(n+j)]? = some v):Q1 bs w (some ⟨b,k0,none⟩) n vs:=
 VQ λj v hj=>VP h hb (hk j v hj)
theorem Q1.ext{bs:List Nat}{w w':Wo}{o:OA}{n:Nat}{vs:List Va}(h:Q1 bs w o n vs)(hx:Q0 bs w w'):Q1 bs w' o n vs:=
 VQ λj v hj=>(h.get j v hj).ext hx
theorem Q1.less{bs cs:List Nat}{w:Wo}{o:OA}{n:Nat}{vs:List Va}(h:Q1 bs w o n vs)(hs:∀x∈cs,x∈bs):Q1 cs w o n vs:=
 VQ λj v hj=>(h.get j v hj).less hs
theorem QQ{bs:List Nat}{w w':Wo}{b:Nat}{o:Obj}(h:w.heap[b]? = some o)(hx:Q0 bs w w')(hb:b∉bs):w'.heap[b]? = some o:=by
 rw[hx.block b (JW h) hb]; exact h
theorem OD{w:Wo}{b k n:Nat}{cs vs:List Va}{t:TypeId}{fz:Nat×Nat}(h:w.heap[b]? = some (.cells cs.toArray t fz)):(R8 w (some ⟨b,k,none⟩) n vs).heap[b]? = some (.cells (zkf cs (k+n) vs).toArray t fz):=Eb vs w b k n cs t fz h
theorem zmx(bs:List Nat)(a:Addr):∀(vs:List Va) (w:Wo) (n:Nat),a.block∈bs->Q0 bs w (eI w a n vs)
 | [],w,n,_=>Q0.refl _ _
 | v::r,w,n,h=>((Q0.refl bs w).setCell (p:=a.add n) (.inr (by rw[Zu]; exact h)) v).trans (zmx bs a r _ _ h)
theorem Ub{bs:List Nat}{w:Wo}{o:OA}{n:Nat}{vs:List Va}(h:∀a,o=some a->a.block∈bs):Q0 bs w (R8 w o n vs):=by
 cases o with
 | none=>exact Q0.refl _ _
 | some a=>exact zmx bs a vs w n (h a rfl)
theorem MS{bs:List Nat}{w:Wo}{b k0 n k:Nat}{cs:List Va}{t:TypeId}(h:w.heap[b]? = some (.cells cs.toArray t (0,0)))(hb:b∉bs)(hk:k0+(n+k)<=cs.length):Yk bs w (some ⟨b,k0,none⟩) n k:=
 ⟨⟨b,k0,none⟩,rfl,hb,λj h1 h2=>by
  rw[Addr.add_lit,V0 h];refine⟨⟨cs[k0+j]' Qo,Qs⟩,?_⟩;simp[World.frozen?,h]⟩
theorem Q0.fresh{bs cs:List Nat}{w0 w w':Wo}(h:Q0 bs w0 w)(k:Q0 cs w w')(hc:∀x∈cs,w0.heap.size<=x\/x∈bs):Q0 bs w0 w':=
 ⟨k.os.trans h.os,k.tape.trans h.tape,k.output.trans h.output,IB h.size k.size,λi hi hb=>(k.block i (Nat.lt_of_lt_of_le hi h.size) (λhx=>by
  rcases hc i hx with h1 | h1
  ·omega
  ·exact hb h1)).trans (h.block i hi hb)⟩
theorem FK{bs:List Nat}{P:Program}{f:FuncId}{args:Array Va}{w:Wo}{v:Va}(h:∀wr,Q0 bs w wr->Calls P f args wr λe w'=>∃v0,e=.returned v0/\(v0=v/\Q0 [] wr w')):Q3 bs P f args w v:=
 λwr hx=>(h wr hx).mono λe w' ⟨v0,he,hv,fR⟩=>⟨by rw[he,hv],fR⟩
theorem L7{w:Wo}{o:OA}{n k:Nat}{vs:List Va}:R8 w (o.map (·.add n)) k vs=R8 w o (n+k) vs:=by
 cases o with
 | none=>rfl
 | some a=>
  simp only[Option.map_some,R8]
  induction vs generalizing w k with
  | nil=>rfl
  | cons v r ih=>
   simp only[eI];rw[Jc,ih];rfl
theorem B4{bs:List Nat}{w:Wo}{o:OA}{n k m:Nat}:Yk bs w (o.map (·.add n)) k m↔Yk bs w o (n+k) m:=by
 cases o with
 | none=>
  constructor <;> (rintro⟨a,ha,_⟩; cases ha)
 | some p=>
  constructor
  ·rintro⟨a,ha,hb,hc⟩;simp only[Option.map_some,I1] at ha;subst ha;refine⟨p,rfl,by rwa[Zu] at hb,λj h1 h2=>?_⟩;have:=hc (j-n) Qo Qo
   rwa[Jc,show n+(j-n)=j by omega] at this
  ·rintro⟨a,ha,hb,hc⟩;cases ha;refine⟨p.add n,rfl,by rwa[Zu],λj h1 h2=>?_⟩;rw[Jc];exact hc (n+j) Qo Qo
structure KL where
 floor:Int
 on:Bool
 v:Int
 w:Int
 sum:Int
 deriving DecidableEq,Inhabited
structure Js where
 IY:Int
 RJ:Int
 Sy:Int
 locals:List Int
 Ry:List Bool
 deriving DecidableEq,Inhabited
structure ZN where
 used:Bool
 parent:Int
 name:ByteArray
 weight:Int
 IE:Int
 period:Int
 next:Int
 sum:Int
 IN:Js
 IF:List KL
 deriving DecidableEq,Inhabited
structure MC where
 state:Int
 group:Int
 M':Int
 nice:Int
 mask:Int
 v:Int
 sum:Int
 used:Int
 load:Int
 deriving DecidableEq,Inhabited
structure Px where
 up:Bool
 cur:Int
 aA:Int
 busy:Int
 idle:Int
 deriving DecidableEq,Inhabited
structure Q7 where
 now:Int
 IE:List Px
 tasks:List MC
 ID:List ZN
 deriving DecidableEq,Inhabited
structure zxd where
 kind:Int
 pK:Int
 n:Int
 deriving DecidableEq,Inhabited
def gi{α:Type}[Inhabited α](l:List α)(i:Int):α:=l.getD i.toNat default
theorem zuw{α:Type}[Inhabited α](l:List α)(k:Nat):gi l (k:Int)=l.getD k default:=rfl
theorem U8{α:Type}[Inhabited α]{l:List α}{k:Nat}(h:k<l.length):gi l (k:Int)=l[k]:=by
 simp[zuw,List.getD_eq_getElem?_getD,h]
theorem zxy{α:Type}[Inhabited α]{l:List α}{k:Nat}(h:k<l.length):l[k]? = some (gi l (k:Int)):=by
 rw[U8 h]; simp[h]
theorem zn2{α:Type}[Inhabited α]{l:List α}{i:Int}(h0:0<=i)(h1:i<l.length):gi l i∈l:=by
 obtain⟨k,rfl⟩:=Int.eq_ofNat_of_zero_le h0;have:k<l.length:=Qo;rw[U8 this]; exact List.getElem_mem this
theorem zn1{α:Type}[Inhabited α]{l m:List α}(hl:l.length=m.length)(h:∀k:Nat,k<l.length->gi l (k:Int)=gi m (k:Int)):l=m:=by
 refine List.ext_getElem hl λk h1 h2=>?_
 have:=h k h1
 rwa[U8 h1,U8 h2] at this
theorem QI{α:Type}[Inhabited α](l:List α)(x:α){i j:Int}(h0:0<=i)(hi:i<(l.length:Int))(hj:0<=j):gi (l.set i.toNat x) j=if i=j then x else gi l j:=by
 obtain⟨k,rfl⟩:=Int.eq_ofNat_of_zero_le h0;obtain⟨q,rfl⟩:=Int.eq_ofNat_of_zero_le hj;simp only[zuw,Ih,List.getD_eq_getElem?_getD,List.getElem?_set]
 by_cases hkq:k=q
 ·subst hkq;have:k<l.length:=Qo;simp[this]
 ·have:¬((k:Int)=q):=Qo;simp[hkq,this]
def PS(s:KL):List Va:=[I s.floor,.bool s.on,I s.v,I s.w,I s.sum]
def Xa(t:MC):List Va:=[I t.state,I t.group,I t.M',I t.nice,I t.mask,I t.v,I t.sum,I t.used,I t.load]
def KU(c:Px):List Va:=[.bool c.up,I c.cur,I c.aA,I c.busy,I c.idle]
def zr2(o:zxd):List Va:=[I o.kind,I o.pK,I o.n]
def Jd(n:Int):List Va:=[I n]
def PR(b:Bool):List Va:=[.bool b]
structure MG where
 lO:OA
 lC:Nat
 dO:OA
 dC:Nat
 sO:OA
 sC:Nat
 deriving Inhabited
def Yt(g:ZN)(m:MG):List Va:=[.bool g.used,I g.parent,.string g.name,I g.weight,I g.IE,I g.period,I g.next,I g.sum,
 I g.IN.IY,I g.IN.RJ,I g.IN.Sy,.slice m.lO g.IN.locals.length m.lC,.slice m.dO g.IN.Ry.length m.dC,.slice m.sO g.IF.length m.sC]
def Rd{α:Type}[Inhabited α](enc:α->List Va)(z:Nat)(bs:List Nat)(w:Wo)(o:OA)(l:List α):Prop:=
 ∀i:Int,0<=i->i<(l.length:Int)->Q1 bs w o (Int.toNat i*z) (enc (gi l i))
theorem Rd.ext{α:Type}[Inhabited α]{enc:α->List Va}{z:Nat}{bs:List Nat}{w w':Wo}{o:OA}{l:List α}(h:Rd enc z bs w o l)(hx:Q0 bs w w'):Rd enc z bs w' o l:=
 λi h0 h1=>(h i h0 h1).ext hx
theorem Rd.less{α:Type}[Inhabited α]{enc:α->List Va}{z:Nat}{bs cs:List Nat}{w:Wo}{o:OA}{l:List α}(h:Rd enc z bs w o l)(hs:∀x∈cs,x∈bs):Rd enc z cs w o l:=
 λi h0 h1=>(h i h0 h1).less hs
theorem U0.wide{bs cs:List Nat}{w:Wo}{o:OA}{n:Nat}{v:Va}(h:U0 bs w o n v)(hs:∀x∈cs,x∈bs\/w.heap.size<=x):U0 cs w o n v:=by
 obtain⟨a,ho,hb,hc⟩:=h;refine⟨a,ho,λhx=>?_,hc⟩;have IT:=World.block_lt_of_cell? w _ hc;rw[Zu] at IT;rcases hs _ hx with h1 | h1
 ·exact hb h1
 ·omega
theorem Q1.wide{bs cs:List Nat}{w:Wo}{o:OA}{n:Nat}{vs:List Va}(h:Q1 bs w o n vs)(hs:∀x∈cs,x∈bs\/w.heap.size<=x):Q1 cs w o n vs:=
 VQ λj v hj=>(h.get j v hj).wide hs
theorem Rd.wide{α:Type}[Inhabited α]{enc:α->List Va}{z:Nat}{bs cs:List Nat}{w:Wo}{o:OA}{l:List α}(h:Rd enc z bs w o l)(hs:∀x∈cs,x∈bs\/w.heap.size<=x):Rd enc z cs w o l:=
 λi h0 h1=>(h i h0 h1).wide hs
theorem Q1.some{bs:List Nat}{w:Wo}{o:OA}{n:Nat}{v:Va}{r:List Va}(h:Q1 bs w o n (v::r)):o.isSome=true:=by
 obtain⟨a,rfl,_,_⟩:=h.get 0 v rfl;rfl
theorem Rd.ix{α:Type}[Inhabited α]{enc:α->List Va}{z:Nat}{bs:List Nat}{w:Wo}{o:OA}{l:List α}(h:Rd enc z bs w o l)(he:∀x,∃v r,enc x=v::r){i:Int}(h0:0<=i)(h1:i<(l.length:Int)):Ix o l.length i:=by
 obtain⟨v,r,e⟩:=he (gi l i);have:=h i h0 h1;rw[e] at this;exact⟨h0,h1,this.some⟩
theorem ZZ(x:KL):∃v r,PS x=v::r:=⟨_,_,rfl⟩
theorem QM(x:MC):∃v r,Xa x=v::r:=⟨_,_,rfl⟩
theorem ZT(x:Px):∃v r,KU x=v::r:=⟨_,_,rfl⟩
theorem Jy(x:Int):∃v r,Jd x=v::r:=⟨_,_,rfl⟩
theorem DF(x:Bool):∃v r,PR x=v::r:=⟨_,_,rfl⟩
abbrev zna:=Rd PS 5
abbrev ztn:=Rd Xa 9
abbrev z16:=Rd KU 5
abbrev znf:=Rd Jd 1
abbrev ztv:=Rd PR 1
structure Ld (bs:List Nat) (w:Wo) (o:OA) (gs:List ZN) (ms:Nat->MG):Prop where
 cells:∀i:Int,0<=i->i<(gs.length:Int)->Q1 bs w o (Int.toNat i*14) (Yt (gi gs i) (ms i.toNat))
 locals:∀i:Int,0<=i->i<(gs.length:Int)->znf bs w (ms i.toNat).lO (gi gs i).IN.locals
 Ry:∀i:Int,0<=i->i<(gs.length:Int)->ztv bs w (ms i.toNat).dO (gi gs i).IN.Ry
 IF:∀i:Int,0<=i->i<(gs.length:Int)->zna bs w (ms i.toNat).sO (gi gs i).IF
theorem Ld.ext{bs:List Nat}{w w':Wo}{o:OA}{gs:List ZN}{ms:Nat->MG}(h:Ld bs w o gs ms)(hx:Q0 bs w w'):Ld bs w' o gs ms:=
 ⟨λi a b=>(h.cells i a b).ext hx,λi a b=>(h.locals i a b).ext hx,λi a b=>(h.Ry i a b).ext hx,λi a b=>(h.IF i a b).ext hx⟩
theorem Ld.less{bs cs:List Nat}{w:Wo}{o:OA}{gs:List ZN}{ms:Nat->MG}(h:Ld bs w o gs ms)(hs:∀x∈cs,x∈bs):Ld cs w o gs ms:=
 ⟨λi a b=>(h.cells i a b).less hs,λi a b=>(h.locals i a b).less hs,λi a b=>(h.Ry i a b).less hs,λi a b=>(h.IF i a b).less hs⟩
theorem Ld.wide{bs cs:List Nat}{w:Wo}{o:OA}{gs:List ZN}{ms:Nat->MG}(h:Ld bs w o gs ms)(hs:∀x∈cs,x∈bs\/w.heap.size<=x):Ld cs w o gs ms:=
 ⟨λi a b=>(h.cells i a b).wide hs,λi a b=>(h.locals i a b).wide hs,λi a b=>(h.Ry i a b).wide hs,λi a b=>(h.IF i a b).wide hs⟩
theorem Ld.ix{bs:List Nat}{w:Wo}{o:OA}{gs:List ZN}{ms:Nat->MG}(h:Ld bs w o gs ms){i:Int}(h0:0<=i)(h1:i<(gs.length:Int)):Ix o gs.length i:=
 ⟨h0,h1,(h.cells i h0 h1).some⟩
def ZW(p:Nat)(vs:List Va):Int:=match vs[p]? with
 | some (.int _ i)=>i
 | _=>0
def zrw(I:Nat->Prop)(vs:List Va):Prop:=∃k:Nat,I k/\vs=[.int .i64 (k:Int)]
def Xg(n:Nat)(p:Nat)(vs:List Va):Nat:=((n:Int)+1-ZW p vs).toNat
theorem XB{B:(List Va->Prop)->(List Va->Nat)->Int->Prop}(n:Nat){si:Int}(s:Nat)(hs:si=s)(I:Nat->Prop)(h0:I s)(hB:∀k:Nat,I k->B (zrw I) (Xg n 0) (k:Int)) :
  ∃(IP:List Va->Prop) (mu:List Va->Nat),IP [.int .i64 si]/\∀i:Int,IP [.int .i64 i]->B IP mu i:=by
 refine⟨zrw I,Xg n 0,⟨s,h0,by rw[hs]⟩,?_⟩;rintro i ⟨k,hI,he⟩;simp only[I5,I6,true_and,and_true] at he;subst he;exact hB k hI
theorem QE{n k:Nat}{I:Nat->Prop}(hk:k<n)(hI:I (k+1)):zrw I [.int .i64 ((k:Int)+1)]/\Xg n 0 [.int .i64 ((k:Int)+1)]<Xg n 0 [.int .i64 (k:Int)]:=by
 refine⟨⟨k+1,hI,Qs⟩,?_⟩;simp only[Xg,ZW,Ig];omega
def zuj(I:Nat->Wo->Prop)(vs:List Va)(w:Wo):Prop:=∃k:Nat,I k w/\vs=[.int .i64 (k:Int)]
def Zs(n:Nat)(p:Nat)(vs:List Va)(_:Wo):Nat:=Xg n p vs
theorem XC{B:(List Va->Wo->Prop)->(List Va->Wo->Nat)->Int->Wo->Prop}{bs L:List Nat}{wv:Wo}(n:Nat){si:Int}(s:Nat)(hs:si=s)(I:Nat->Wo->Prop)(h0:∀wr,Q0 bs wv wr->(∀bq∈L,bq<wr.heap.size)->I s wr)(hB:∀(k:Nat) (w1:Wo),(∀bq∈L,bq<w1.heap.size)->I k w1->B (zuj I) (Zs n 0) (k:Int) w1) :
  ∃(IP:List Va->Wo->Prop) (mu:List Va->Wo->Nat),(∀wr,Q0 bs wv wr->(∀bq∈L,bq<wr.heap.size)->IP [.int .i64 si] wr)/\∀(i:Int) (w1:Wo),(∀bq∈L,bq<w1.heap.size)->IP [.int .i64 i] w1->B IP mu i w1:=by
 refine⟨zuj I,Zs n 0,λwr hx hq=>⟨s,h0 wr hx hq,by rw[hs]⟩,?_⟩;rintro i w1 hq ⟨k,hI,he⟩;simp only[I5,I6,true_and,and_true] at he;subst he;exact hB k w1 hq hI
theorem Qp{n k:Nat}{I:Nat->Wo->Prop}{wr w1:Wo}(hk:k<n)(hI:I (k+1) wr):zuj I [.int .i64 ((k:Int)+1)] wr/\Zs n 0 [.int .i64 ((k:Int)+1)] wr<Zs n 0 [.int .i64 (k:Int)] w1:=by
 refine⟨⟨k+1,hI,Qs⟩,?_⟩;simp only[Zs,Xg,ZW,Ig];omega
def zui(I:Int->Nat->Prop)(vs:List Va):Prop:=∃(x:Int) (k:Nat),I x k/\vs=[.int .i64 x,.int .i64 (k:Int)]
theorem P3{B:(List Va->Prop)->(List Va->Nat)->Int->Int->Prop}(n:Nat){xi si:Int}(s:Nat)(hs:si=s)(I:Int->Nat->Prop)(h0:I xi s)(hB:∀(x:Int) (k:Nat),I x k->B (zui I) (Xg n 1) x (k:Int)) :
  ∃(IP:List Va->Prop) (mu:List Va->Nat),IP [.int .i64 xi,.int .i64 si]/\∀(x i:Int),IP [.int .i64 x,.int .i64 i]->B IP mu x i:=by
 refine⟨zui I,Xg n 1,⟨xi,s,h0,by rw[hs]⟩,?_⟩;rintro x i ⟨x',k,hI,he⟩;simp only[I5,I6,true_and,and_true] at he;obtain⟨rfl,rfl⟩:=he;exact hB x k hI
theorem QK{n k:Nat}{I:Int->Nat->Prop}{x x':Int}(hk:k<n)(hI:I x' (k+1)):zui I [.int .i64 x',.int .i64 ((k:Int)+1)]/\Xg n 1 [.int .i64 x',.int .i64 ((k:Int)+1)]<Xg n 1 [.int .i64 x,.int .i64 (k:Int)]:=by
 refine⟨⟨x',k+1,hI,Qs⟩,?_⟩;simp only[Xg,ZW,Ig,List.getElem?_cons_succ];omega
theorem XF:maxLen<=9223372036854775807:=by simp[maxLen]
theorem zjm{k n:Nat}(h:(k:Int)<(n:Int))(hn:n<=maxLen):Ql .i64 ((k:Int)+1):=by
 have:=XF;exact⟨Qo,Qo⟩
end Go.Proofs.YtnclplgaicdapaaGreatDoor
