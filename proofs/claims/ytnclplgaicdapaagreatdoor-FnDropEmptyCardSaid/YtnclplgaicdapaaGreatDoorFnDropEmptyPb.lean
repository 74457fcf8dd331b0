/- Part 2 of what the law FnDropEmpty needs. -/
import Derived.Test.YtnclplgaicdapaaGreatDoorFnDropEmptyPa
import Derived.RangeFuncRecord
import Derived.OrdersIn
import Derived.TacticsIn
import Derived.Scope
set_option linter.unusedVariables false
set_option linter.unusedSimpArgs false
set_option maxRecDepth 100000
set_option maxHeartbeats 8000000
namespace Go.Proofs.YtnclplgaicdapaaGreatDoor
open Go.RowKit
def Gy(r:Option Nat):Fence:={ Fence.wide with round:=r }
theorem zgg(r:Option Nat)(n:Nat):(Gy r).room n:=fun d h=>by simp[Gy,Fence.wide] at h
theorem PU{r:Option Nat}{n:Nat}{P:Program}{f:FuncId}{args:Array Va}{w:Wo}{R:Ending->Wo->Prop}(h:Calls P f args w R):CallsIn (Gy r) n P f args w R:=(callsIn_wide (n:=n)).2 h
theorem zr7{r:Option Nat}{n:Nat}{P:Program}{f:FuncId}{args:Array Va}{w:Wo}{R:Ending->Wo->Prop}(h:CallsIn (Gy r) n P f args w R):Calls P f args w R:=(callsIn_wide (n:=n)).1 h
theorem zb6{r:Option Nat}{n m:Nat}{P:Program}{l:Nat}{f:FuncId}{tmps:Array Va}{asg body:Code}{w:Wo}{R:Ending->Wo->Prop}(h:RoundIn Fence.wide n P l f tmps asg body w R):RoundIn (Gy r) m P l f tmps asg body w R:=
 ⟨trivial,fun c cs _=>h.2 c cs (room_wide _)⟩
theorem zo4{r:Option Nat}{n:Nat}{P:Program}{row:String}{args:Array Va}{w:Wo}{R:Va->Wo->Prop}(h:Rows P row args w R):RowsIn (Gy r) n P row args w R:=fun c cs _=>by
 obtain⟨v,w',hr,hs⟩:=h c cs;exact⟨v,w',hr,(stepsIn_wide (P:=P)).2 hs⟩
theorem zj5{r:Option Nat}{P:Program}{o:Oper}{a:Act}{w:Wo}{next:Act->Wo->Prop}{Q:Exit->Act->Wo->Prop}(hd:∀c,o.op≠.defer c)(h:o.uponIn (Gy r) 0 P a next Q ((execOp a.eval o).run P w)):o.wpIn (Gy r) 0 P a w next Q:=
 ⟨fun _ _=>trivial,by rw[Oper.semAt_eq _ _ _ hd]; exact h⟩
theorem zvw{r:Option Nat}{P:Program}{o:Oper}{a:Act}{w:Wo}{next:Act->Wo->Prop}{Q:Exit->Act->Wo->Prop}(hd:∀c,o.op≠.defer c)(h:o.wpIn (Gy r) 0 P a w next Q):o.uponIn (Gy r) 0 P a next Q ((execOp a.eval o).run P w):=by
 have:=h.2;rw[Oper.semAt_eq _ _ _ hd] at this;exact this
theorem zcv{P:Program}{o:Oper}{ρ:Operand->Va}{c:Call}(hc:o.op=.defer c)(w:Wo):(∃d w',(execOp ρ o).run P w=.ok (.defer d) w')\/∃x w',(execOp ρ o).run P w=.halt x w':=by
 simp only[execOp,hc,Sem.run_bind]
 cases hr:(resolve ρ c o.type).run P w with
 | ok d w'=>exact .inl ⟨d,w',by simp[Result.andThen]⟩
 | halt x w'=>exact .inr ⟨x,w',by simp[Result.andThen]⟩
theorem zg4{P:Program}{C:Wo->Prop}{o:Oper}{ρ:Operand->Va}{w:Wo}{v:Va}(h:Oper.quietUpon P C w v ((execOp ρ o).run P w)):∀c,o.op≠.defer c:=fun c hc=>by
 rcases zcv (P:=P) (ρ:=ρ) hc w with ⟨d,w',hr⟩ | ⟨x,w',hr⟩ <;> (rw[hr] at h; exact h)
theorem Dx{r:Option Nat}{P:Program}{C:Wo->Prop}{o:Oper}{a:Act}{K:Act->Prop}{K':Act->Wo->Prop}{Q':Exit->Act->Wo->Prop}{w:Wo}(hw:C w)(h:∀a w',C w'->K a->K' a w')(hh:o.quiet P a C K):o.wpIn (Gy r) 0 P a w K' Q':=by
 obtain⟨v,h1,h2⟩:=hh;have h3:=h1 w hw;refine zj5 (zg4 h3) ?_;unfold Oper.quietAt at h3;generalize (execOp a.eval o).run P w=res at *
 cases res with
 | ok n w'=>
  cases n <;> simp only[Oper.quietUpon] at h3 <;> simp only[Oper.uponIn]
  case value u=>
   obtain⟨e1,e2⟩:=h3;rw[e1,e2];exact h _ _ hw h2
  case skip=>
   obtain⟨e1,e2⟩:=h3;rw[e1,<-e2];exact h _ _ hw h2
  case enter f args=>
   obtain⟨e1,e2⟩:=h3;rw[e1];exact⟨fun hx=>(by simp[Gy,Fence.wide] at hx),PU (e2.mono fun e kG ⟨he,hc⟩=>by subst he; exact h _ _ hc h2)⟩
 | halt x w'=>exact h3.elim
section
variable {P:Program}{b:Frame}{a:Act}{k:List Item}{cs:List Frame}{w:Wo}
theorem V3{c:Code}:step P (lone (b.atR a (.code (.scope c)::k)) cs w)=.next (lone (b.atR a (.code c :: .inScope c::k)) cs w):=
 step_lone_go (by simp[stepG,stepG.exec,Frame.atR])
theorem zbs{c:Code}:step P (lone (b.atR a (.inScope c::k)) cs w)=.next (lone (b.atR a k) cs w):=
 step_lone_go (by simp[stepG,stepG.exec,Frame.atR])
end
section
variable {F:Fence}{n:Nat}{P:Program}{Q:Exit->Act->Wo->Prop}{a:Act}{w:Wo}
theorem LP{c:Code}(h:c.wpIn F n P (Exit.noGoto Q) a w):(Code.scope c).wpIn F n P Q a w:=by
 intro b k cs hro hb hr;have h0:(lone (b.atR a (.code (.scope c)::k)) cs w).fenced P F:=fenced_calm hb hr rfl;obtain⟨e,a₁,w₁,hq,vC⟩:=h b (.inScope c::k) cs hro hb hr
 cases e with
 | normal=>exact⟨.normal,a₁,w₁,hq,.head h0 V3 (StepsIn.trans vC (.one (fenced_calm hb hr rfl) zbs))⟩
 | exit id=>exact⟨.exit id,a₁,w₁,hq,fun k' hk=>.head h0 V3 (vC.1 k' (by simp[exitTo,hk])),fun hr' hk=>(let ⟨k₁,h1,h2⟩:=vC.2 hr' (by simp[exitTo,hk]); ⟨k₁,h1,.head h0 V3 h2⟩)⟩
 | goto l=>exact hq.elim
 | ret=>exact⟨_,a₁,w₁,hq,.of_steps (.one h0 V3) vC⟩
 | panic ch=>exact⟨_,a₁,w₁,hq,.of_steps (.one h0 V3) vC⟩
 | outgrown=>exact⟨_,a₁,w₁,hq,.of_steps (.one h0 V3) vC⟩
theorem Dw{c:Code}(I:Nat->Act->Wo->Prop){m:Nat}(h₀:I m a w)(round:∀m a w,I m a w->c.wpIn F n P (Exit.then (fun a' w'=>∃j,j<m/\I j a' w') Q) a w):(Code.loop c).wpIn F n P Q a w:=by
 intro b k cs hro hb hr
 have key:∀m a w,I m a w->∃e a' w',Q e a' w'/\ArrivesIn (Machine.fenced P F) P (lone (b.atR a (.code c :: .inLoop c::k)) cs w) b k cs e a' w':=by
  intro m
  induction m using Nat.strongRecOn with
  | _ m ih=>
   intro a w hI;obtain⟨e,a₁,w₁,hq,vC⟩:=round m a w hI b (.inLoop c::k) cs hro hb hr
   cases e with
   | normal=>
    obtain⟨j,IQ,hI₁⟩:=hq;obtain⟨e₂,a₂,w₂,hq₂,harr₂⟩:=ih j IQ a₁ w₁ hI₁;exact⟨e₂,a₂,w₂,hq₂,.of_steps (StepsIn.trans vC (.one (fenced_calm hb hr rfl) stepR_inLoop)) harr₂⟩
   | exit id=>exact⟨_,a₁,w₁,hq,.pass (x:=.inLoop c) rfl (fun _ _=>.inl Qs) vC⟩
   | goto l=>exact⟨_,a₁,w₁,hq,.pass (x:=.inLoop c) rfl (fun _ _=>.inl Qs) vC⟩
   | ret=>exact⟨_,a₁,w₁,hq,.pass (x:=.inLoop c) rfl (fun _ _=>.inl Qs) vC⟩
   | panic ch=>exact⟨_,a₁,w₁,hq,.pass (x:=.inLoop c) rfl (fun _ _=>.inl Qs) vC⟩
   | outgrown=>exact⟨_,a₁,w₁,hq,.pass (x:=.inLoop c) rfl (fun _ _=>.inl Qs) vC⟩
 obtain⟨e,a',w',hq,vC⟩:=key m a w h₀;exact⟨e,a',w',hq,.of_steps (.one (fenced_calm hb hr rfl) stepR_loop) vC⟩
end
def zf3(v:Va)(vs:List Va):Sem Next:=do let d <-Deferred.ofValue v vs.toArray; invoke d.target d.args
def ztz(m:String)(v:Va)(vs:List Va):Sem Next:=invoke (.fn (.method m) #[]) (#[v]++vs.toArray)
def ML(P:Program)(v:Va)(vs:List Va)(w:Wo)(R:Ending->Wo->Prop):Prop:=
 (∃(f:FuncId) (as0:Array Va),(zf3 v vs).run P w=.ok (.enter f as0) w/\Calls P f as0 w R) \/
 ∃(l:Nat) (f:FuncId) (tmps:Array Va) (asg body:Code),(zf3 v vs).run P w=.ok (.round l f tmps asg body) w/\RoundIn Fence.wide 0 P l f tmps asg body w R
theorem ML.mono{P:Program}{v:Va}{vs:List Va}{w:Wo}{R R':Ending->Wo->Prop}(h:ML P v vs w R)(hr:∀e w',R e w'->R' e w'):ML P v vs w R':=by
 rcases h with ⟨f,as0,h1,h2⟩ | ⟨l,f,tmps,asg,body,h1,h2⟩
 ·exact .inl ⟨f,as0,h1,h2.mono hr⟩
 ·exact .inr ⟨l,f,tmps,asg,body,h1,h2.mono hr⟩
def zpi(C:VT)(t:TypeId):Bool:=match C.T t with
 | some { agg:=_,ks:=_,d:=.int _ }=>true
 | _=>false
def HM(C:VT):Op->Bool
 | .alloc _ | .box _ _ | .store _ _ _ | .buildSlice _ _ _=>true
 | .call { callee:=.value (.func f),args:=_,argTypes:=_ } => !(zih C.pf f).isSome
 | .call { callee:=.builtin b,args:=_,argTypes:=_ }=>match b with
  | .append | .copy=>true
  | _=>false
 | .call { callee:=.value (.tmp _),args:=_,argTypes:=_ } | .call { callee:=.invoke _ _,args:=_,argTypes:=_ }=>true
 | .makeSlice _ _ _ | .makeMap _ _ | .lookup _ _ _ _ | .mapUpdate _ _ _ _ | .insert _ _ _ _ | .range _ _ | .next _ _=>true
 | .convert s d _ => !(zpi C s&&zpi C d)
 | _=>false
def St.bT(S:St):St:={ S with old:=S.B.length }
def Q9(B:List Nat)(w w':Wo):Prop:=∀b∈B,w'.heap[b]? = w.heap[b]?
def zxt:Builtin->List RK
 | .append=>[.cell .slice]
 | _=>[.cell (.int .i64)]
def zou(args:Array Operand):Array Bool:=args.map fun | .const _=>true | _=>false
def OC(z:Nat):List (Nat×Operand)->Nat->List Va->Option (List Va)
 | [],_,[]=>some []
 | (i,_)::r,k,v::vs=>bif Nat.beq i k&&Nat.beq v.cells.toList.length z then
   match OC z r (k+1) vs with
   | some l=>some (v.cells.toList++l)
   | none=>none
  else none
 | _,_,_=>none
def AP(C:VT)(S:St)(w:Wo)(d:Option Tmp)(t:TypeId)(cells:List Va)(e:Nat->EV)(K:St->Wo->Prop):Prop:=
 ∀b,w.heap.size<=b->GS C { S with L:=S.L++[(t,cells)],B:=S.B++[b] } d (.un (e S.L.length)) fun S'=>K S' w
def EG(C:VT)(S:St)(w:Wo)(d:Option Tmp)(t:TypeId)(cells:List Va)(e:Nat->EV)(K:St->Wo->Prop):Prop:=
 bif C.pm then False else ∀b w',Q0 S.bs w w'->w.heap.size<=b->w'.heap[b]? = some (Obj.cells cells.toArray t (0,0))->b∉S.B->GS C S.bT d (.un (e b)) fun S'=>K S' w'
def PG(l:List Nat)(x:Nat):Bool:=l.any fun y=>Nat.beq y x
def zfa(C:VT)(o:Oper):Option (List Operand×List RK×Bool×(List Va->Sem Va)):=
 match o.op with
 | .makeSlice t l c=>some ([l,c],[.cell .slice],false,fun | [x,y]=>Instr.makeSlice t x y | _=>pure undef)
 | .makeMap t none=>some ([],[.cell .map],false,fun _=>Instr.makeMap t none)
 | .makeMap t (some r)=>some ([r],[.cell .map],false,fun | [x]=>Instr.makeMap t (some x) | _=>pure undef)
 | .lookup t x i ok=>match zwx C o.type with
  | some rk=>some ([x,i],rk,false,fun | [a,b]=>Instr.lookup t a b ok | _=>pure undef)
  | none=>none
 | .mapUpdate t m k x=>some ([m,k,x],[],true,fun | [a,b,c]=>do Instr.mapUpdate t a b c; pure undef | _=>pure undef)
 | .insert t m k x=>some ([m,k,x],[],true,fun | [a,b,c]=>do Instr.mapUpdate t a b c; pure undef | _=>pure undef)
 | .range t x=>some ([x],[.cell .ptr],false,fun | [a]=>Instr.range t a | _=>pure undef)
 | .convert s d x=>match zwx C o.type with
  | some rk=>some ([x],rk,false,fun | [a]=>convert s d a | _=>pure undef)
  | none=>none
 | _=>none
theorem Cj{C:VT}{o:Oper}{xs:List Operand}{rk:List RK}{u:Bool}{f:List Va->Sem Va}(h:zfa C o=some (xs,rk,u,f))(ρ:Operand->Va){P:Program}{w w':Wo}{v:Va}(hr:(f (xs.map ρ)).run P w=.ok v w') :
  (execOp ρ o).run P w=.ok (if u then .skip else .value v) w':=by
 unfold zfa at h
 split at h
 case h_5 t m k x ho=>
  simp only[I1,Prod.mk.injEq] at h;obtain⟨rfl,rfl,rfl,rfl⟩:=h;simp only[List.map_cons,List.map_nil,Sem.run_bind,Sem.run_pure] at hr;simp only[execOp,ho,Sem.run_bind,Sem.run_pure,if_true];generalize (Instr.mapUpdate t (ρ m) (ρ k) (ρ x)).run P w=q at hr ⊢
  cases q <;> simp_all [Result.andThen]
 case h_6 t m k x ho=>
  simp only[I1,Prod.mk.injEq] at h;obtain⟨rfl,rfl,rfl,rfl⟩:=h;simp only[List.map_cons,List.map_nil,Sem.run_bind,Sem.run_pure] at hr;simp only[execOp,ho,Sem.run_bind,Sem.run_pure,if_true];generalize (Instr.mapUpdate t (ρ m) (ρ k) (ρ x)).run P w=q at hr ⊢
  cases q <;> simp_all [Result.andThen]
 all_goals
  (try split at h)
  all_goals first
   | cases h; done
   | (rename_i ho _ _ _
      simp only[I1,Prod.mk.injEq] at h;obtain⟨rfl,rfl,rfl,rfl⟩:=h;simp only[List.map_cons,List.map_nil] at hr;simp[execOp,ho,hr]
      done)
   | (rename_i ho
      simp only[I1,Prod.mk.injEq] at h;obtain⟨rfl,rfl,rfl,rfl⟩:=h;simp only[List.map_cons,List.map_nil] at hr;simp[execOp,ho,hr])
def OU(w:Wo)(b:Nat)(s:ByteArray)(p:Nat):Wo:={ w with heap:=w.heap.setIfInBounds b (.stringIter s p) }
def zv1(C:VT)(S:St)(w:Wo)(o:Oper)(pc:List (Nat×Bool))(K:St->Wo->Prop):Prop:=
 match o.op with
 | .alloc t=>match C.T t with
  | some ty=>bif ty.ks.contains .other then False
   else match o.dst with
    | some d=>bif PG C.vis d then EG C S w o.dst t (ty.ks.map zv) (fun b=>.el (some ⟨b,0,none⟩) 0) K else AP C S w o.dst t (ty.ks.map zv) (fun i=>.loc i 0) K
    | none=>False
  | none=>False
 | .box t x=>match Lg S pc x with
  | some v=>match o.dst with
    | some d=>bif PG C.vis d then EG C S w o.dst t v.cells.toList (fun b=>.el (some ⟨b,0,none⟩) 0) K else AP C S w o.dst t v.cells.toList (fun i=>.loc i 0) K
    | none=>False
  | none=>False
 | .buildSlice t n parts=>match C.T t,GI S pc (parts.toList.map (·.2)) with
  | some { agg:=_,ks:=_,d:=.slice e z },some vs=>match C.T e,OC z parts.toList 0 vs with
   | some _,some cells=>bif Nat.beq n vs.length&&Nat.blt 0 z&&Nat.blt 0 n&&Nat.blt (n*z) 16777216 then
     (match o.dst with
      | some d=>bif PG C.vis d then EG C S w o.dst e cells (fun b=>.v (.slice (some ⟨b,0,none⟩) n n)) K else AP C S w o.dst e cells (fun i=>.ls i n) K
      | none=>False)
    else False
   | _,_=>False
  | _,_=>False
 | .store t x y=>match C.T t,CD S pc x,Lg S pc y with
  | some ty,some (.loc id off),some v=>match S.L[id]? with
   | some (t',cs)=>bif Nat.beq v.cells.toList.length ty.ks.length&&Nat.ble (off+v.cells.toList.length) cs.length&&Zd v.cells.toList && !PG S.lk id then
     K { S with L:=S.L.set id (t',cs.take off++v.cells.toList++cs.drop (off+v.cells.toList.length)) } w
    else False
   | none=>False
  | some ty,some (.le id i m),some v=>match S.L[id]? with
   | some (t',cs)=>bif Nat.beq v.cells.toList.length ty.ks.length&&Nat.beq v.cells.toList.length 1&&Zd [v] && !PG S.lk id then
     (i.toNat+m<cs.length)/\zgc (cs.map zxh) fun vs=>cs.set (i.toNat+m) v=vs/\K { S with L:=S.L.set id (t',vs) } w
    else False
   | none=>False
  | some ty,some (.el ob n),some v=>bif Nat.beq v.cells.toList.length ty.ks.length&&Zd v.cells.toList && !C.pm&&Nat.blt 0 ty.ks.length then
    Xi S.bs w ob n v.cells.toList.length/\K S (RD w ob n v.cells.toList)
   else False
  | some ty,some (.v (.pointer ob)),some v=>bif Nat.beq v.cells.toList.length ty.ks.length&&Zd v.cells.toList && !C.pm&&Nat.blt 0 ty.ks.length then
    Xi S.bs w ob 0 v.cells.toList.length/\K S (RD w ob 0 v.cells.toList)
   else False
  | _,_,_=>False
 | .call { callee:=.value (.func f),args:=args,argTypes:=_ }=>match zih C.ef f,GI S pc args.toList with
  | some rks,some vs=>bif C.pm then False else ∀wr,Q0 S.bs w wr->(∀b∈S.B,b<wr.heap.size)->XT S wr (zg5 S pc args.toList)
    (Calls C.P f vs.toArray wr fun e w'=>LR rks fun r=>e=.returned r/\Q9 S.B wr w'/\GS C S.bT o.dst (.un (.v r)) fun S'=>K S' w')
  | _,_=>False
 | .call { callee:=.builtin bi,args:=args,argTypes:=ts }=>match GI S pc args.toList with
  | some vs=>bif C.pm then False else ∀wr,Q0 S.bs w wr->(∀b∈S.B,b<wr.heap.size)->XT S wr (zg5 S pc args.toList)
    (LR (zxt bi) fun r=>∃w',(builtin bi ts o.type (zou args) vs.toArray).run C.P wr=.ok (.value r) w'/\Q9 S.B wr w'/\GS C S.bT o.dst (.un (.v r)) fun S'=>K S' w')
  | none=>False
 | .call { callee:=.value (.tmp t),args:=args,argTypes:=_ }=>match Lg S pc (.tmp t),GI S pc args.toList,zwx C o.type with
  | some v,some vs,some rks=>bif C.pm then False else ∀wr,Q0 S.bs w wr->(∀b∈S.B,b<wr.heap.size)->XT S wr (zg5 S pc args.toList)
    (ML C.P v vs wr fun e w'=>LR rks fun r=>e=.returned r/\Q9 S.B wr w'/\GS C S.bT o.dst (.un (.v r)) fun S'=>K S' w')
  | _,_,_=>False
 | .call { callee:=.invoke rc m,args:=args,argTypes:=_ }=>match Lg S pc rc,GI S pc args.toList,zwx C o.type with
  | some v,some vs,some rks=>bif C.pm then False else ∀wr,Q0 S.bs w wr->(∀b∈S.B,b<wr.heap.size)->XT S wr (zg5 S pc args.toList)
    (∃(f:FuncId) (as0:Array Va),(ztz m v vs).run C.P wr=.ok (.enter f as0) wr/\Calls C.P f as0 wr fun e w'=>LR rks fun r=>e=.returned r/\Q9 S.B wr w'/\GS C S.bT o.dst (.un (.v r)) fun S'=>K S' w')
  | _,_,_=>False
 | .next it true=>match Lg S pc it with
  | some (.pointer ob)=>bif C.pm then False else ∀wr,Q0 S.bs w wr->(∀b∈S.B,b<wr.heap.size)->
    ∃(b:Nat) (s:ByteArray) (pos:Nat),ob=some ⟨b,0,none⟩/\b∉S.B/\wr.heap[b]? = some (.stringIter s pos)/\
     (s.size<=pos->GS C S.bT o.dst (.un (.v (.tuple #[.bool false]))) fun S'=>K S' wr)/\
     (pos<s.size->GS C S.bT o.dst (.un (.v (.tuple #[.bool true,.int .i64 pos,.int .i32 (Utf8.decode s pos).1]))) fun S'=>K S' (OU wr b s (pos+(Utf8.decode s pos).2)))
  | _=>False
 | _=>match zfa C o with
  | some (xs,rk,u,f)=>match GI S pc xs with
   | some vs=>bif C.pm then False else ∀wr,Q0 S.bs w wr->(∀b∈S.B,b<wr.heap.size)->
     (bif u then (match o.dst with
      | none=>∃w',(f vs).run C.P wr=.ok undef w'/\Q9 S.B wr w'/\K S.bT w'
      | some _=>False)
     else LR rk fun r=>∃w',(f vs).run C.P wr=.ok r w'/\Q9 S.B wr w'/\GS C S.bT o.dst (.un (.v r)) fun S'=>K S' w')
   | none=>False
  | none=>False
structure Ps (S S':St):Prop where
 B:∀(id b:Nat),S.B[id]? = some b->S'.B[id]? = some b
 ty:∀(id:Nat) (t:TypeId) (cs:List Va),S.L[id]? = some (t,cs)->∃mD:List Va,S'.L[id]? = some (t,mD)
 lk:∀id∈S.lk,id∈S'.lk/\S'.L[id]? = S.L[id]?
theorem Ps.refl(S:St):Ps S S:=⟨fun _ _ h=>h,fun _ _ cs h=>⟨cs,h⟩,fun _ h=>⟨h,rfl⟩⟩
theorem Ps.trans{S S' tF:St}(h:Ps S S')(k:Ps S' tF):Ps S tF:=
 ⟨fun id b hb=>k.B id b (h.B id b hb),fun id t cs hc=>(let ⟨cs1,h1⟩:=h.ty id t cs hc; k.ty id t cs1 h1),fun id hi=>⟨(k.lk id (h.lk id hi).1).1,((k.lk id (h.lk id hi).1).2).trans (h.lk id hi).2⟩⟩
theorem Ps.bQ{S S':St}(h:Ps S S')(d:Option Tmp)(sv:SV):Ps S (S'.bQ d sv):=by
 cases d <;> exact⟨h.B,h.ty,h.lk⟩
theorem Zk.bQ{S:St}{w wr:Wo}(h:Zk S w wr)(d:Option Tmp)(sv:SV):Zk (S.bQ d sv) w wr:=by
 cases d <;> exact⟨h.ext,h.loc,h.len,h.nE,h.fresh⟩
theorem M5{l:List Nat}{x:Nat}(h:PG l x=false):x∉l:=by
 intro hx;have:PG l x=true:=by simp only[PG,List.any_eq_true]; exact⟨x,hx,Nat.beq_refl x⟩
 rw[h] at this; cases this
structure Kj (S:St):Prop where
 old:S.old<=S.B.length
 lk:∀id∈S.lk,id<S.L.length
theorem Kj.bQ{S:St}(h:Kj S)(d:Option Tmp)(sv:SV):Kj (S.bQ d sv):=by
 cases d <;> exact⟨h.old,h.lk⟩
theorem Kj.bT{S:St}(h:Kj S):Kj S.bT:=⟨I8 _,h.lk⟩
theorem Zk.push{S:St}{w wr:Wo}(h:Zk S w wr)(ho:S.old<=S.B.length)(t:TypeId)(cells:List Va) :
  Zk { S with L:=S.L++[(t,cells)],B:=S.B++[wr.heap.size] } w (wr.alloc (.cells cells.toArray t)):=by
 have IQ:∀b∈S.B,b<wr.heap.size:=fun b hb=>by
  obtain⟨id,aX⟩:=List.getElem?_of_mem hb;have hl:id<S.L.length:=by rw[h.len]; exact(I9.1 aX).1
  obtain⟨b',gU,hh⟩:=h.loc id (S.L[id]).1 (S.L[id]).2 (by rw[Im hl]);rw[aX] at gU; cases gU;exact Nd hh
 have hbs:(S.B++[wr.heap.size]).take S.old=S.B.take S.old:=List.take_append_of_le_length ho;refine⟨?_,fun id t' cs hl=>?_,by simp[h.len],?_,fun id b aX hb=>?_⟩
 ·show Q0 ((S.B++[wr.heap.size]).take S.old) w _;rw[hbs]; exact h.ext.alloc _
 ·by_cases hi:id<S.L.length
  ·have hl':S.L[id]? = some (t',cs):=by rw[<-hl]; exact(Iq hi).symm
   obtain⟨b,hb,hh⟩:=h.loc id t' cs hl';refine⟨b,?_,(Below.heap_alloc wr _ b (Nd hh)).trans hh⟩;show (S.B++[wr.heap.size])[id]? = some b;rw[Iq (by rw[<-h.len]; exact hi)]; exact hb
  ·have hi':id=S.L.length:=by
    have:id<(S.L++[(t,cells)]).length:=(I9.1 hl).1;simp at this; omega
   subst hi';simp only[List.getElem?_concat_length,I1,Prod.mk.injEq] at hl;obtain⟨rfl,rfl⟩:=hl;refine⟨wr.heap.size,?_,heap_alloc_new wr _⟩;show (S.B++[wr.heap.size])[S.L.length]? = _;rw[h.len]; simp
 ·refine List.nodup_append.2 ⟨h.nE,Qs,fun x hx y hy=>?_⟩;simp only[IA] at hy;subst hy;have:=IQ x hx;omega
 ·have gU:(S.B++[wr.heap.size])[id]? = some b:=hb
  by_cases hi:id<S.B.length
  ·rw[Iq hi] at gU;exact h.fresh id b aX gU
  ·have:id=S.B.length:=by
    have:id<(S.B++[wr.heap.size]).length:=(I9.1 gU).1;simp at this; omega
   subst this;simp at gU;subst gU;exact h.ext.size
theorem Zk.age{S:St}{w wr WX:Wo}(h:Zk S w wr)(hk:Q9 S.B wr WX):Zk S.bT WX WX:=
 ⟨Q0.refl _ _,fun id t cs hl=>by
  obtain⟨b,hb,hh⟩:=h.loc id t cs hl;exact⟨b,hb,(hk b (List.mem_of_getElem? hb)).trans hh⟩,h.len,h.nE,fun id b aX hb=>by
  have:id<S.B.length:=(I9.1 hb).1;simp only[St.bT] at aX;omega⟩
theorem Zk.lt{S:St}{w wr:Wo}(h:Zk S w wr):∀b∈S.B,b<wr.heap.size:=fun b hb=>by
 obtain⟨id,aX⟩:=List.getElem?_of_mem hb;have hl:id<S.L.length:=by rw[h.len]; exact(I9.1 aX).1
 obtain⟨b',gU,hh⟩:=h.loc id (S.L[id]).1 (S.L[id]).2 (by rw[Im hl]);rw[aX] at gU; cases gU;exact Nd hh
theorem Zk.Cx3{S:St}{w wr:Wo}(h:Zk S w wr){i j b:Nat}(hi:S.B[i]? = some b)(hj:S.B[j]? = some b):i=j:=by
 obtain⟨h1l,h1e⟩:=I9.1 hi;obtain⟨h2l,h2e⟩:=I9.1 hj;have hp:=List.pairwise_iff_getElem.1 h.nE;rcases Nat.lt_trichotomy i j with IQ | heq | hgt
 ·exact Is (h1e.trans h2e.symm) (hp i j h1l h2l IQ)
 ·exact heq
 ·exact Is (h2e.trans h1e.symm) (hp j i h2l h1l hgt)
theorem zft{P:Program}{T:TypeId->Option Ty}(hT:znz P T){t:TypeId}{ty:Ty}(ht:T t=some ty)(i':ty.ks.contains .other=false) :
  ∃i z,P.info? t=some i/\i.zero=some z/\z.cells=(ty.ks.map zv).toArray:=by
 obtain⟨i,z,hi,hz,_,hks⟩:=(hT.facts ht).info;refine⟨i,z,hi,hz,?_⟩
 have h0:∀(l:List Va),(l.map Pc).contains .other=false->(l.map Pc).map zv=l:=by
  intro l
  induction l with
  | nil=>intro _; rfl
  | cons x r ih=>
   intro hc;simp only[List.map_cons,List.contains_cons,I0] at hc;have hx:Pc x≠.other:=by intro e; rw[e] at hc; simp at hc
   simp only[List.map_cons,ih hc.2,<-zd0 hx]
 have h1:=h0 z.cells.toList (by rw[hks]; exact i');rw[hks] at h1;rw[h1,Array.toArray_toList]
theorem EV.gF{S S':St}(h:N7 S S'):∀{e:EV} {u:Va},EV.den S e u->EV.den S' e u
 | .v _,_,h'=>h'
 | .el _ _,_,h'=>h'
 | .loc _ _,_,⟨b,hb,h'⟩=>⟨b,h _ _ hb,h'⟩
 | .ls _ _,_,⟨b,hb,h'⟩=>⟨b,h _ _ hb,h'⟩
 | .le _ _ _,_,⟨b,hb,h'⟩=>⟨b,h _ _ hb,h'⟩
 | .no,_,h'=>h'
 | .kb _,_,h'=>h'
theorem Pr.mono{n:Nat}{S S':St}{ops:Array Oper}{D:Nat->Prop}{a:Act}(h:Pr n S ops D a)(hl:N7 S S')(hF:S'.F=S.F)(hr:S'.r=S.r):Pr n S' ops D a:=
 ⟨⟨h.fit.size,fun i s hs=>by
  rw[hF] at hs;have:=h.fit.fits i s hs
  cases s with
  | un x=>exact EV.gF hl this
  | gd r pc x=>
   intro hrr;rw[hr] at hrr;have h1:=this hrr;exact⟨fun hp=>EV.gF hl (h1.1 hp),h1.2⟩⟩,fun i pc x hx=>by rw[hF,hr] at hx; exact h.dn i pc x hx,fun i r pc x hx=>by rw[hF] at hx; rw[hr]; exact h.st i r pc x hx⟩
def zfh(cs:List Va):Nat->List Va->List Va
 | _,[]=>cs
 | k,v::r=>zfh (cs.set k v) (k+1) r
theorem Ln:∀(vs cs:List Va) (k:Nat),k+vs.length<=cs.length->zfh cs k vs=cs.take k++vs++cs.drop (k+vs.length)
 | [],cs,k,_=>by simp[zfh]
 | v::r,cs,k,h=>by
  simp only[zfh,List.length_cons] at *;rw[Ln r (cs.set k v) (k+1) (by simp; omega)];have hk:k<cs.length:=Qo;rw[List.take_succ_eq_append_getElem (by simpa using hk),List.getElem_set_self,List.take_set_of_le (I8 _),List.drop_set_of_lt Qo];simp[Nat.add_assoc,Nat.add_comm 1]
theorem GW:∀(vs:List Va) (w:Wo) (b k n:Nat) (cs:List Va) (t:TypeId) (fz:Nat×Nat),w.heap[b]? = some (.cells cs.toArray t fz)->
  (eJ w ⟨b,k,none⟩ n vs).heap[b]? = some (.cells (zfh cs (k+n) vs).toArray t fz)
 | [],_,_,_,_,_,_,_,h=>h
 | v::r,w,b,k,n,cs,t,fz,h=>by
  simp only[eJ,zfh];refine GW r _ b k (n+1) (cs.set (k+n) v) t fz ?_;rw[Addr.add_lit];simp only[World.setCell,Array.getElem?_modify,if_true,h,Option.map_some,Option.isSome_none,Bool.false_eq_true,if_false];simp
structure zn3 (C:VT) (S:St) (w:Wo) (o:Oper) (a:Act) (K:St->Wo->Prop) (N:Act->Wo->Prop):Prop where
 go:∀(S1:St) (w' WX:Wo) (e:EV) (v:Va),Ps S S1->S1.F=S.F->S1.r=S.r->Kj S1->Zk S1 w' WX->(C.pm=true->w'=w/\S1.old=S.old)->EV.den S1 e v->(∀x,o.dst=some x->x<C.n/\x<4000)->K (S1.bQ o.dst (.un e)) w'->N (a.put o.dst v) WX
theorem ze2{C:VT}{S:St}{w:Wo}{o:Oper}{a:Act}{K:St->Wo->Prop}{N:Act->Wo->Prop}(hN:zn3 C S w o a K N){wr:Wo}(hw:Zk S w wr)(WR:Kj S){t:TypeId}{cells:List Va}{e:Nat->EV}(h:AP C S w o.dst t cells e K){v:Va}(hv:EV.den { S with L:=S.L++[(t,cells)],B:=S.B++[wr.heap.size] } (e S.L.length) v):N (a.put o.dst v) (wr.alloc (.cells cells.toArray t)):=by
 obtain⟨h1,h2⟩:=Yf (h wr.heap.size hw.ext.size);refine hN.go { S with L:=S.L++[(t,cells)],B:=S.B++[wr.heap.size] } w _ (e S.L.length) v ⟨fun id b hb=>?_,fun id t' cs hc=>⟨cs,?_⟩,fun id hi=>⟨hi,?_⟩⟩ rfl rfl ⟨by simp; have:=WR.old; omega,fun id hi=>by have:=WR.lk id hi; simp; omega⟩ (hw.push WR.old t cells) (fun _=>⟨rfl,rfl⟩) hv h2 h1
 ·show (S.B++[wr.heap.size])[id]? = some b;rw[Iq (I9.1 hb).1]; exact hb
 ·show (S.L++[(t,cells)])[id]? = some (t',cs);rw[Iq (I9.1 hc).1]; exact hc
 ·exact Iq (WR.lk id hi)
theorem ze3{C:VT}{S:St}{w:Wo}{o:Oper}{a:Act}{K:St->Wo->Prop}{N:Act->Wo->Prop}(hN:zn3 C S w o a K N){wr:Wo}(hw:Zk S w wr)(WR:Kj S){t:TypeId}{cells:List Va}{e:Nat->EV}(h:EG C S w o.dst t cells e K){v:Va}(hv:EV.den S.bT (e wr.heap.size) v):N (a.put o.dst v) (wr.alloc (.cells cells.toArray t)):=by
 have IQ:=hw.lt;unfold EG at h
 have jR:C.pm=false:=by
  cases hp:C.pm with
  | false=>rfl
  | true=>rw[hp] at h; exact h.elim
 rw[jR] at h;simp only[cond_false] at h;obtain⟨h1,h2⟩:=Yf (h wr.heap.size (wr.alloc (.cells cells.toArray t)) (hw.ext.alloc _) hw.ext.size (heap_alloc_new wr _) (fun hb=>by have:=IQ _ hb; omega));exact hN.go S.bT _ _ _ v ⟨fun _ _ h=>h,fun _ _ cs h=>⟨cs,h⟩,fun id hi=>⟨hi,rfl⟩⟩ rfl rfl WR.bT (hw.age fun b hb=>Below.heap_alloc wr _ b (IQ b hb)) (fun hp=>by rw[jR] at hp; cases hp) hv h2 h1
theorem LQ{z:Nat}(hz:0<z):∀{ps:List (Nat×Operand)} {k:Nat} {vs cells:List Va},OC z ps k vs=some cells->ps.length=vs.length/\cells.length=vs.length*z/\
  ∀(pre:List Va),pre.length=k*z->∀(init:List Va),init.length=vs.length*z->
   Instr.fill (fun i=>some (i*z,z)) (pre++init).toArray ((ps.map (·.1)).zip vs)=some (pre++cells).toArray
 | [],k,[],cells,h=>by
  simp only[OC,I1] at h; subst h;refine⟨rfl,Qs,fun pre _ init hi=>?_⟩;have:init=[]:=List.eq_nil_of_length_eq_zero (by simpa using hi);subst this;simp[Instr.fill]
 | (i,x)::ps,k,v::vs,cells,h=>by
  simp only[OC] at h
  cases hb:(Nat.beq i k&&Nat.beq v.cells.toList.length z) with
  | false=>rw[hb] at h; cases h
  | true=>
   rw[hb] at h;simp only[cond_true] at h;simp only[A'] at hb;have e1:i=k:=Ic hb.1;have e2:v.cells.toList.length=z:=Ic hb.2;subst e1
   split at h
   ·rename_i l hl;simp only[I1] at h; subst h;obtain⟨h1,h2,h3⟩:=LQ hz hl;refine⟨by simp[h1],by simp[h2,e2,Nat.add_mul]; omega,fun pre hp init hi=>?_⟩;have mH:v.cells.size=z:=by simpa using e2
    have hvl:(v::vs).length*z=z+vs.length*z:=by simp[Nat.add_mul,Nat.add_comm]
    rw[hvl] at hi
    have hc:(decide (v.cells.size≠z)||decide (i*z+v.cells.size>(pre++init).toArray.size))=false:=by
     simp only[mH,List.size_toArray,Ip,hp,hi];simp
    simp only[List.map_cons,List.zip_cons_cons,Instr.fill];rw[hc];simp only[Bool.false_eq_true,if_false]
    have CR5:∀(l:List Va) (j:Nat) (arr:List Va),(l.zipIdx j).foldl (fun cs (c,j)=>cs.setIfInBounds (i*z+j) c) arr.toArray=(zfh arr (i*z+j) l).toArray:=by
     intro l
     induction l with
     | nil=>intro j arr; rfl
     | cons c l ih=>
      intro j arr;simp only[List.zipIdx_cons,List.foldl_cons,zfh];rw[show (arr.toArray.setIfInBounds (i*z+j) c)=(arr.set (i*z+j) c).toArray by simp];exact ih (j+1) _
    have hz2:(v.cells.zipIdx.foldl (fun cs (c,j)=>cs.setIfInBounds (i*z+j) c) (pre++init).toArray)=(pre++v.cells.toList++init.drop z).toArray:=by
     rw[<-Array.foldl_toList,Array.toList_zipIdx];rw[CR5 v.cells.toList 0 (pre++init),Ln _ _ _ (by simp[hp,hi,mH])];have t1:(pre++init).take (i*z)=pre:=by rw[<-hp]; exact List.take_left
     have t2:(pre++init).drop (i*z+z)=init.drop z:=by rw[<-hp,List.drop_append]; simp
     simp only[Nat.add_zero,e2,t1,t2]
    rw[hz2];have:=h3 (pre++v.cells.toList) (by simp[hp,mH,Nat.add_mul]) (init.drop z) (by simp[hi])
    simpa using this
   ·cases h
 | [],_,_::_,_,h=>by simp[OC] at h
 | (_,_)::_,_,[],_,h=>by simp[OC] at h
theorem Cp{P:Program}(t:TypeId)(v:Va)(w:Wo):(newVar t v).run P w=.ok ⟨w.heap.size,0,none⟩ (w.alloc (.cells v.cells t)):=by
 simp[newVar,newRow]
theorem Zk.BE4{S:St}{w wr:Wo}(h:Zk S w wr){id b off:Nat}{t:TypeId}{cs vs:List Va}(hl:S.L[id]? = some (t,cs))(hb:S.B[id]? = some b)(hlen:off+vs.length<=cs.length)(hold:S.old<=S.B.length) :
  Zk { S with L:=S.L.set id (t,cs.take off++vs++cs.drop (off+vs.length)) } w (eJ wr ⟨b,off,none⟩ 0 vs):=by
 obtain⟨b',gU,hh⟩:=h.loc id t cs hl;rw[hb] at gU; cases gU;have aX:id<S.L.length:=(I9.1 hl).1
 have Af6:b∈S.bs\/w.heap.size<=b:=by
  by_cases ho:S.old<=id
  ·exact .inr (h.fresh id b ho hb)
  ·refine .inl ?_;have:(S.B.take S.old)[id]? = some b:=by rw[List.getElem?_take,E' Qo]; exact hb
   exact List.mem_of_getElem? this
 obtain⟨r1,r2,r3⟩:=Lp vs wr ⟨b,off,none⟩ 0;refine⟨⟨r1.trans h.ext.os,r2.trans h.ext.tape,r3.trans h.ext.output,by rw[OB]; exact h.ext.size,fun k hk hnb=>?_⟩,fun id' t' mD hl'=>?_,by simp[h.len],h.nE,h.fresh⟩
 ·refine(Ts vs wr ⟨b,off,none⟩ 0 k ?_).trans (h.ext.block k hk hnb);rintro rfl;rcases Af6 with hm | hm
  ·exact hnb hm
  ·exact Nat.lt_irrefl _ (Nat.lt_of_lt_of_le hk hm)
 ·by_cases he:id=id'
  ·subst he;simp only[List.getElem?_set_self aX,I1,Prod.mk.injEq] at hl';obtain⟨rfl,rfl⟩:=hl';refine⟨b,hb,?_⟩;rw[GW vs wr b off 0 cs _ _ hh,Nat.add_zero,Ln _ _ _ hlen]
  ·have hl2:S.L[id']? = some (t',mD):=by rw[<-hl']; exact(List.getElem?_set_ne he).symm
   obtain⟨b2,cD,hh2⟩:=h.loc id' t' mD hl2;refine⟨b2,cD,?_⟩
   rw[Ts vs wr ⟨b,off,none⟩ 0 b2 (by
    show b2≠b;rintro rfl;exact he (h.Cx3 hb cD))]
   exact hh2
theorem Zk.BE5{S:St}{w wr:Wo}(h:Zk S w wr){a:Addr}{n:Nat}{vs:List Va}(hb:a.block∉S.bs)(IQ:a.block<w.heap.size):Zk S (eJ w a n vs) (eJ wr a n vs):=by
 obtain⟨r1,r2,r3⟩:=Lp vs wr a n;obtain⟨q1,q2,q3⟩:=Lp vs w a n;refine⟨⟨by rw[r1,q1]; exact h.ext.os,by rw[r2,q2]; exact h.ext.tape,by rw[r3,q3]; exact h.ext.output,by rw[OB,OB]; exact h.ext.size,fun k hk hnb=>?_⟩,fun id t cs hl=>?_,h.len,h.nE,fun id b ho aX=>by rw[OB]; exact h.fresh id b ho aX⟩
 ·rw[OB] at hk;have he:=h.ext.block k hk hnb
  by_cases hka:k=a.block
  ·subst hka; exact zc2 vs wr w a n he
  ·rw[Ts vs wr a n k hka,Ts vs w a n k hka]; exact he
 ·obtain⟨b,aX,hh⟩:=h.loc id t cs hl;refine⟨b,aX,?_⟩;rw[Ts vs wr a n b]
  ·exact hh
  ·rintro rfl
   by_cases ho:S.old<=id
   ·have:=h.fresh id _ ho aX; omega
   ·refine hb (List.mem_of_getElem? (i:=id) ?_);show (S.B.take S.old)[id]? = _;rw[List.getElem?_take,E' Qo]; exact aX
theorem Xi.run{P:Program}{S:St}{w wr:Wo}(h:Zk S w wr){ob:OA}{n:Nat}{vs:List Va}(hx:Xi S.bs w ob n vs.length)(Br6:0<vs.length)(h1:Zd vs=true){a:Addr}(ho:ob=some a) :
  (storeCells (a.add n) vs 0).run P wr=.ok () (eJ wr (a.add n) 0 vs)/\a.block∉S.bs/\a.block<w.heap.size:=by
 obtain⟨a',ha,hb,hc⟩:=hx;rw[ho] at ha; cases ha;obtain⟨⟨u,hu⟩,_⟩:=hc n (I8 _) Qo;have IQ:a.block<w.heap.size:=by have:=World.block_lt_of_cell? w _ hu; rwa[ZJ] at this
 refine⟨UA vs wr (a.add n) 0 (Jd h1) fun j _ hj=>?_,hb,IQ⟩;obtain⟨⟨u',hu'⟩,hf'⟩:=hc (n+j) Qo Qo;have he:=h.ext.block a.block IQ hb;rw[Ue];refine⟨⟨u',?_⟩,?_⟩
 ·rw[<-hu']; exact World.cell?_of_block (w:=w) (by rw[ZJ]; exact he)
 ·rw[<-hf']; exact frozen?_of_block (by rw[ZJ]; exact he)
theorem Cv:∀(vs:List Va) (w:Wo) (a:Addr) (n k:Nat),eJ w (a.add n) k vs=eJ w a (n+k) vs
 | [],_,_,_,_=>rfl
 | v::r,w,a,n,k=>by
  simp only[eJ,Ue];exact Cv r _ a n (k+1)
theorem zfj{P:Program}{T:TypeId->Option Ty}(hT:znz P T){t:TypeId}{ty:Ty}(ht:T t=some ty){a:Addr}{v:Va}(hl:v.cells.toList.length=ty.ks.length){w w':Wo}(h:(storeCells a v.cells.toList).run P w=.ok () w'):(storeVar t a v).run P w=.ok () w':=by
 obtain⟨i,z,hi,_,mH,_⟩:=(hT.facts ht).info;have hn:¬v.cells.size≠ty.ks.length:=by simpa using hl
 simp only[storeVar,Sem.run_bind,ZZ hi,Result.andThen_ok,mH,Sem.run_ite,C' hn,Sem.run_pure,h]
theorem znd(parts:Array (Nat×Operand))(f:Operand->Va):(parts.map fun (i,x)=>(i,f x)).toList=(parts.toList.map (·.1)).zip ((parts.toList.map (·.2)).map f):=by
 have:(parts.map fun (i,x)=>(i,f x)).toList=parts.toList.map fun (i,x)=>(i,f x):=Qs
 rw[this];generalize parts.toList=q
 induction q with
 | nil=>rfl
 | cons y q ih=>simp[ih]
theorem AL{C:VT}{S:St}{w:Wo}{o:Oper}{a:Act}{K:St->Wo->Prop}{N:Act->Wo->Prop}(hN:zn3 C S w o a K N){wr:Wo}(hw:Zk S w wr)(WR:Kj S){t:TypeId}{cells:List Va}{e1 e2:Nat->EV}{v:Va}(h:match o.dst with
   | some d=>bif PG C.vis d then EG C S w o.dst t cells e1 K else AP C S w o.dst t cells e2 K
   | none=>False)(h1:EV.den S.bT (e1 wr.heap.size) v)(h2:EV.den { S with L:=S.L++[(t,cells)],B:=S.B++[wr.heap.size] } (e2 S.L.length) v):N (a.put o.dst v) (wr.alloc (.cells cells.toArray t)):=by
 split at h
 ·rename_i d hd
  cases hm:PG C.vis d with
  | true=>
   rw[hm] at h;simp only[cond_true] at h;exact ze3 hN hw WR h h1
  | false=>
   rw[hm] at h;simp only[cond_false] at h;exact ze2 hN hw WR h h2
 ·exact h.elim
theorem zvh{S:St}{w wr:Wo}(hw:Zk S w wr)(b:Nat):(S.B++[b])[S.L.length]? = some b:=by rw[hw.len]; simp
theorem Po{Q:Exit->Act->Wo->Prop}{C:VT}{S:St}{w wr:Wo}{a:Act}{K:St->Wo->Prop}{N:Act->Wo->Prop}{o:Oper}(hdn:o.dst=none)(hN:zn3 C S w o a K N)(hw:Zk S w wr)(WR:Kj S)(hT:znz C.P C.T){t:TypeId}{x y:Operand}(ho:o.op=.store t x y){ty:Ty}(ht:C.T t=some ty){e:EV}(hx:EV.den S e (a.eval x)){v:Va}(hy:a.eval y=v)(h:match e with
   | .loc id off=>match S.L[id]? with
    | some (t',cs)=>bif Nat.beq v.cells.toList.length ty.ks.length&&Nat.ble (off+v.cells.toList.length) cs.length&&Zd v.cells.toList && !PG S.lk id then
      K { S with L:=S.L.set id (t',cs.take off++v.cells.toList++cs.drop (off+v.cells.toList.length)) } w
     else False
    | none=>False
   | .le id i m=>match S.L[id]? with
    | some (t',cs)=>bif Nat.beq v.cells.toList.length ty.ks.length&&Nat.beq v.cells.toList.length 1&&Zd [v] && !PG S.lk id then
      (i.toNat+m<cs.length)/\zgc (cs.map zxh) fun vs=>cs.set (i.toNat+m) v=vs/\K { S with L:=S.L.set id (t',vs) } w
     else False
    | none=>False
   | .el ob n=>bif Nat.beq v.cells.toList.length ty.ks.length&&Zd v.cells.toList && !C.pm&&Nat.blt 0 ty.ks.length then
     Xi S.bs w ob n v.cells.toList.length/\K S (RD w ob n v.cells.toList)
    else False
   | .v (.pointer ob)=>bif Nat.beq v.cells.toList.length ty.ks.length&&Zd v.cells.toList && !C.pm&&Nat.blt 0 ty.ks.length then
     Xi S.bs w ob 0 v.cells.toList.length/\K S (RD w ob 0 v.cells.toList)
    else False
   | _=>False):o.uponIn (Gy C.rd) 0 C.P a N Q ((execOp a.eval o).run C.P wr):=by
 have hgo:∀(S1:St) (w' WX:Wo),Ps S S1->S1.F=S.F->S1.r=S.r->Kj S1->Zk S1 w' WX->(C.pm=true->w'=w/\S1.old=S.old)->K S1 w'->N (a.put o.dst undef) WX:=fun S1 w' WX h1 h2 h3 h4 h5 h7 h6=>
  hN.go S1 w' WX (.v undef) undef h1 h2 h3 h4 h5 h7 rfl (fun x hx=>by rw[hdn] at hx; cases hx) (by rw[hdn]; exact h6)
 have U':∀{ad:Addr} {w':Wo},a.eval x=.pointer (some ad)->v.cells.toList.length=ty.ks.length->(storeCells ad v.cells.toList).run C.P wr=.ok () w'->(execOp a.eval o).run C.P wr=.ok .skip w':=fun {ad w'} h1 h2 h3=>by
  have:=zfj hT ht h2 h3;simp[execOp,ho,h1,hy,Instr.storeAt,Instr.sureAddr,this]
 have SP:∀{id:Nat} {t':TypeId} {cs r:List Va},S.L[id]? = some (t',cs)->PG S.lk id=false->Ps S { S with L:=S.L.set id (t',r) }:=fun {id t' cs r} hl hm=>
  ⟨fun _ _ h=>h,fun id' t2 cs2 h2=>by
   show ∃mD,(S.L.set id (t',r))[id']? = some (t2,mD)
   by_cases he:id=id'
   ·subst he;rw[hl] at h2;cases h2;exact⟨r,List.getElem?_set_self (I9.1 hl).1⟩
   ·exact⟨cs2,by rw[List.getElem?_set_ne he]; exact h2⟩,fun id' hi=>⟨hi,by
   show (S.L.set id (t',r))[id']? = _;exact List.getElem?_set_ne (by rintro rfl; exact M5 hm hi)⟩⟩
 cases e with
 | loc id off=>
  obtain⟨b,hb,hxp⟩:=hx
  dsimp only at h
  split at h
  ·rename_i t' cs hl
   cases hc:(Nat.beq v.cells.toList.length ty.ks.length&&Nat.ble (off+v.cells.toList.length) cs.length&&Zd v.cells.toList && !PG S.lk id) with
   | false=>rw[hc] at h; exact h.elim
   | true=>
    rw[hc] at h;simp only[cond_true] at h;simp only[A',IC] at hc;obtain⟨⟨⟨c1,c2⟩,c3⟩,c4⟩:=hc;have c1:=Ic c1;have c2:=Il c2
    have hrc:=UA (P:=C.P) v.cells.toList wr ⟨b,off,none⟩ 0 (Jd c3) (fun j _ hj=>by
     rw[Addr.add_lit,KI hw hl hb];obtain⟨b',gU,hh⟩:=hw.loc id t' cs hl;rw[hb] at gU; cases gU;have IQ:off+j<cs.length:=Qo;refine⟨⟨cs[off+j],Im IQ⟩,?_⟩;simp[World.frozen?,hh])
    rw[U' hxp c1 hrc];exact hgo _ _ _ (SP hl c4) rfl rfl ⟨WR.old,fun id hi=>by simpa using WR.lk id hi⟩ (hw.BE4 hl hb c2 WR.old) (fun _=>⟨rfl,rfl⟩) h
  ·exact h.elim
 | le id i m=>
  obtain⟨b,hb,h0,hxp⟩:=hx
  dsimp only at h
  split at h
  ·rename_i t' cs hl
   cases hc:(Nat.beq v.cells.toList.length ty.ks.length&&Nat.beq v.cells.toList.length 1&&Zd [v] && !PG S.lk id) with
   | false=>rw[hc] at h; exact h.elim
   | true=>
    rw[hc] at h;simp only[cond_true] at h;simp only[A',IC] at hc;obtain⟨⟨⟨c1,c2⟩,c3⟩,c4⟩:=hc;have c1:=Ic c1;have c2:=Ic c2;obtain⟨IQ,h⟩:=h;obtain⟨_,_,rfl,h⟩:=TH h
    have hvc:v.cells.toList=[v]:=by
     cases v with
     | agg cs=>cases c3
     | _=>rfl
    rw[<-hvc] at c3
    have hrc:=UA (P:=C.P) v.cells.toList wr ⟨b,i.toNat+m,none⟩ 0 (Jd c3) (fun j _ hj=>by
     rw[Addr.add_lit,KI hw hl hb];obtain⟨b',gU,hh⟩:=hw.loc id t' cs hl;rw[hb] at gU; cases gU;have IQ:i.toNat+m+j<cs.length:=Qo;refine⟨⟨cs[i.toNat+m+j],Im IQ⟩,?_⟩;simp[World.frozen?,hh])
    rw[U' hxp c1 hrc];have qB:=hw.BE4 (vs:=v.cells.toList) hl hb (off:=i.toNat+m) Qo WR.old
    have he:cs.take (i.toNat+m)++v.cells.toList++cs.drop (i.toNat+m+v.cells.toList.length)=cs.set (i.toNat+m) v:=by
     rw[<-Ln _ _ _ Qo,hvc]; rfl
    rw[he] at qB;exact hgo _ _ _ (SP hl c4) rfl rfl ⟨WR.old,fun id hi=>by simpa using WR.lk id hi⟩ qB (fun _=>⟨rfl,rfl⟩) h
  ·exact h.elim
 | el ob n=>
  obtain⟨ad,hob,hxp⟩:=hx
  dsimp only at h
  cases hc:(Nat.beq v.cells.toList.length ty.ks.length&&Zd v.cells.toList && !C.pm&&Nat.blt 0 ty.ks.length) with
  | false=>rw[hc] at h; exact h.elim
  | true=>
   rw[hc] at h;simp only[cond_true] at h;simp only[A',IC] at hc;obtain⟨⟨⟨c1,c2⟩,c3⟩,c4⟩:=hc;have c1:=Ic c1;have c4:0<ty.ks.length:=Il c4;obtain⟨h1,h2⟩:=h;obtain⟨hr,hbs,IQ⟩:=h1.run (P:=C.P) hw Qo c2 hob;rw[U' hxp c1 hr,Cv,Nat.add_zero];subst hob;exact hgo S _ _ (Ps.refl S) rfl rfl WR (hw.BE5 hbs IQ) (fun hp=>by rw[hp] at c3; cases c3) h2
 | v x0=>
  cases x0 with
  | pointer ob=>
    simp only[EV.den] at hx
    dsimp only at h
    cases hc:(Nat.beq v.cells.toList.length ty.ks.length&&Zd v.cells.toList && !C.pm&&Nat.blt 0 ty.ks.length) with
    | false=>rw[hc] at h; exact h.elim
    | true=>
     rw[hc] at h;simp only[cond_true] at h;simp only[A',IC] at hc;obtain⟨⟨⟨c1,c2⟩,c3⟩,c4⟩:=hc;have c1:=Ic c1;have c4:0<ty.ks.length:=Il c4;obtain⟨h1,h2⟩:=h;obtain⟨ad,hob,_⟩:=id h1;obtain⟨hr,hbs,IQ⟩:=h1.run (P:=C.P) hw Qo c2 hob;rw[Addr.add_zero'] at hr;rw[U' (by rw[hx,hob]) c1 hr];subst hob;exact hgo S _ _ (Ps.refl S) rfl rfl WR (hw.BE5 hbs IQ) (fun hp=>by rw[hp] at c3; cases c3) h2
  | _=>exact h.elim
 | ls id len=>exact h.elim
 | no=>exact h.elim
 | kb x=>exact h.elim
theorem zmn{C:VT}(hT:znz C.P C.T)(Rn:∀f ks,zih C.ef f=some ks->TC C.P f){S:St}{w wr:Wo}{ops:Array Oper}{D:Nat->Prop}{o:Oper}{a:Act}{pc:List (Nat×Bool)}{K:St->Wo->Prop}{N:Act->Wo->Prop}{Q:Exit->Act->Wo->Prop}(hf:Pr C.n S ops D a)(hw:Zk S w wr)(WR:Kj S)(hp:GQ ops a pc)(hN:zn3 C S w o a K N)(h:zv1 C S w o pc K)(hnd:∀t x y,o.op=.store t x y->o.dst=none):o.wpIn (Gy C.rd) 0 C.P a wr N Q:=by
 refine zj5 (fun c hc=>by unfold zv1 at h; simp[hc,zfa] at h) ?_;unfold zv1 at h
 split at h
 case h_1 t ho=>
  split at h
  ·rename_i ty ht
   cases hc:ty.ks.contains .other with
   | true=>rw[hc] at h; exact h.elim
   | false=>
    rw[hc] at h;simp only[cond_false] at h;obtain⟨i,z,hi,hz,hzc⟩:=zft hT ht hc
    have U':(execOp a.eval o).run C.P wr=.ok (.value (.pointer (some ⟨wr.heap.size,0,none⟩))) (wr.alloc (.cells (ty.ks.map zv).toArray t)):=by
     simp[execOp,ho,Instr.alloc,zeroValue,Je hi,hz,Cp,hzc]
    rw[U'];simp only[Oper.uponIn];exact AL hN hw WR h ⟨_,rfl,by rw[Addr.add_zero']⟩ ⟨wr.heap.size,zvh hw _,rfl⟩
  ·exact h.elim
 case h_2 t x ho=>
  split at h
  ·rename_i v hv;have hv':=QK hf.fit hp hv
   have U':(execOp a.eval o).run C.P wr=.ok (.value (.pointer (some ⟨wr.heap.size,0,none⟩))) (wr.alloc (.cells v.cells.toList.toArray t)):=by
    simp[execOp,ho,Instr.box,Cp,hv']
   rw[U'];simp only[Oper.uponIn];exact AL hN hw WR h ⟨_,rfl,by rw[Addr.add_zero']⟩ ⟨wr.heap.size,zvh hw _,rfl⟩
  ·exact h.elim
 case h_3 t n parts ho=>
  split at h
  ·rename_i ag ks e z vs ht hvs;have hv':=Xk hf.fit hp hvs
   split at h
   ·rename_i ety cells hte Cp1
    cases hb:(Nat.beq n vs.length&&Nat.blt 0 z&&Nat.blt 0 n&&Nat.blt (n*z) 16777216) with
    | false=>rw[hb] at h; exact h.elim
    | true=>
     rw[hb] at h;simp only[cond_true] at h;simp only[A'] at hb;obtain⟨⟨⟨b1,b2⟩,b3⟩,b4⟩:=hb;have b1:=Ic b1;have b2:0<z:=Il b2;have b3:0<n:=Il b3;have b4:n*z<16777216:=Il b4;obtain⟨d,hu,_,oB⟩:=(hT.facts ht).desc;obtain⟨inf,rfl,nZ,Cr1⟩:=P9 oB.symm;obtain⟨i2,z2,hi2,hz2,DM7,_⟩:=(hT.facts hte).info;rw[nZ] at hi2; cases hi2;obtain⟨_,qW,AO5⟩:=LQ b2 Cp1;have hf0:=AO5 [] Qs (((Array.range (n*z)).map (z2.cells[· % z2.cells.size]!)).toList) (by simp[b1]);simp only[List.nil_append,Array.toArray_toList] at hf0;have AD8:=znd parts a.eval;rw[hv'] at AD8
     have hn0:¬n*z=0:=by
      have:=Nat.mul_pos b3 b2;omega
     have Co6:¬n*z>2 ^ 24:=by
      have:(2:Nat) ^ 24=16777216:=rfl;omega
     have U':(execOp a.eval o).run C.P wr=.ok (.value (.slice (some ⟨wr.heap.size,0,none⟩) n n)) (wr.alloc (.cells cells.toArray e)):=by
      simp only[execOp,ho,Instr.buildSlice,Sem.run_bind,run_underlying hu,Result.andThen_ok,ZZ nZ,Cr1,Sem.run_ite,C' Co6,C' hn0,zeroValue,Je nZ,hz2,Sem.run_pure,AD8,hf0,newRow,run_newObj];rfl
     rw[U'];simp only[Oper.uponIn];exact AL hN hw WR h rfl ⟨wr.heap.size,zvh hw _,rfl⟩
   ·exact h.elim
  ·exact h.elim
 case h_4 t x y ho=>
  have hdn:=hnd t x y ho
  split at h
  ·rename_i ty id off v ht hx hy;exact Po hdn hN hw WR hT ho ht (ZP hf.fit hp hx) (QK hf.fit hp hy) h
  ·rename_i ty id i m v ht hx hy;exact Po hdn hN hw WR hT ho ht (ZP hf.fit hp hx) (QK hf.fit hp hy) h
  ·rename_i ty ob n v ht hx hy;exact Po hdn hN hw WR hT ho ht (ZP hf.fit hp hx) (QK hf.fit hp hy) h
  ·rename_i ty ob v ht hx hy;exact Po hdn hN hw WR hT ho ht (ZP hf.fit hp hx) (QK hf.fit hp hy) h
  ·exact h.elim
 case h_5 f args ts ho=>
  split at h
  ·rename_i rks vs hef hvs;have hv:=Xk hf.fit hp hvs;have ea:args.map a.eval=vs.toArray:=by rw[<-hv,<-Array.toList_map,Array.toArray_toList]
   have jR:C.pm=false:=by
    cases hp:C.pm with
    | false=>rfl
    | true=>rw[hp] at h; exact h.elim
   rw[jR] at h;simp only[cond_false] at h;rw[zhl (Rn f rks hef) args ts a ho,ea];simp only[Oper.uponIn];refine⟨fun hx=>(by simp[Gy,Fence.wide] at hx),PU ((XT.out hw (h wr hw.ext hw.lt)).mono fun e w' he=>?_)⟩;obtain⟨r,rfl,hk,hp⟩:=JP he;obtain⟨h1,h2⟩:=Yf hp;exact hN.go S.bT _ _ (.v r) r ⟨fun _ _ h=>h,fun _ _ cs h=>⟨cs,h⟩,fun id hi=>⟨hi,rfl⟩⟩ rfl rfl WR.bT (hw.age hk) (fun hp=>by rw[jR] at hp; cases hp) rfl h2 h1
  ·exact h.elim
 case h_6 bi args ts ho=>
  split at h
  ·rename_i vs hvs;have hv:=Xk hf.fit hp hvs;have ea:args.map a.eval=vs.toArray:=by rw[<-hv,<-Array.toList_map,Array.toArray_toList]
   have jR:C.pm=false:=by
    cases hp:C.pm with
    | false=>rfl
    | true=>rw[hp] at h; exact h.elim
   rw[jR] at h;simp only[cond_false] at h;obtain⟨r,w',U',hk,hp⟩:=JP (XT.out hw (h wr hw.ext hw.lt))
   have tG:(execOp a.eval o).run C.P wr=.ok (.value r) w':=by
    rw[<-U'];simp only[execOp,ho,resolve,Sem.run_bind,Sem.run_pure,Result.andThen_ok,invoke,ea];rfl
   rw[tG];obtain⟨h1,h2⟩:=Yf hp;exact hN.go S.bT _ _ (.v r) r ⟨fun _ _ h=>h,fun _ _ cs h=>⟨cs,h⟩,fun id hi=>⟨hi,rfl⟩⟩ rfl rfl WR.bT (hw.age hk) (fun hp=>by rw[jR] at hp; cases hp) rfl h2 h1
  ·exact h.elim
 case h_7 t args ts ho=>
  split at h
  ·rename_i v vs rks hv0 hvs hrk;have hv1:=QK hf.fit hp hv0;have hv:=Xk hf.fit hp hvs;have ea:args.map a.eval=vs.toArray:=by rw[<-hv,<-Array.toList_map,Array.toArray_toList]
   have jR:C.pm=false:=by
    cases hp:C.pm with
    | false=>rfl
    | true=>rw[hp] at h; exact h.elim
   rw[jR] at h;simp only[cond_false] at h
   have hgo:∀(e:Ending) (w':Wo),(LR rks fun r=>e=.returned r/\Q9 S.B wr w'/\GS C S.bT o.dst (.un (.v r)) fun S'=>K S' w')->(match e with
     | .returned v=>N (a.put o.dst v) w'
     | .panicked chain=>Q (.panic chain) a w'
     | .outgrown=>LetsOut Q):=fun e w' he=>by
    obtain⟨r,rfl,hk,hp⟩:=JP he;obtain⟨h1,h2⟩:=Yf hp;exact hN.go S.bT _ _ (.v r) r ⟨fun _ _ h=>h,fun _ _ cs h=>⟨cs,h⟩,fun id hi=>⟨hi,rfl⟩⟩ rfl rfl WR.bT (hw.age hk) (fun hp=>by rw[jR] at hp; cases hp) rfl h2 h1
   rcases XT.out hw (h wr hw.ext hw.lt) with ⟨f,as0,U',hc⟩ | ⟨l,f,tmps,asg,body,U',hc⟩
   ·have tG:(execOp a.eval o).run C.P wr=.ok (.enter f as0) wr:=by
     rw[<-U'];simp only[execOp,ho,resolve,zf3,ea,hv1]
    rw[tG];simp only[Oper.uponIn];exact⟨fun hx=>(by simp[Gy,Fence.wide] at hx),PU (hc.mono fun e w' he=>by have:=hgo e w' he; cases e <;> exact this)⟩
   ·have tG:(execOp a.eval o).run C.P wr=.ok (.round l f tmps asg body) wr:=by
     rw[<-U'];simp only[execOp,ho,resolve,zf3,ea,hv1]
    rw[tG];simp only[Oper.uponIn];exact⟨fun hx=>(by simp[Gy,Fence.wide] at hx),zb6 (hc.mono fun e w' he=>by have:=hgo e w' he; cases e <;> exact this)⟩
  ·exact h.elim
 case h_8 rc m args ts ho=>
  split at h
  ·rename_i v vs rks hv0 hvs hrk;have hv1:=QK hf.fit hp hv0;have hv:=Xk hf.fit hp hvs;have ea:args.map a.eval=vs.toArray:=by rw[<-hv,<-Array.toList_map,Array.toArray_toList]
   have jR:C.pm=false:=by
    cases hp:C.pm with
    | false=>rfl
    | true=>rw[hp] at h; exact h.elim
   rw[jR] at h;simp only[cond_false] at h;obtain⟨f,as0,U',hc⟩:=XT.out hw (h wr hw.ext hw.lt)
   have tG:(execOp a.eval o).run C.P wr=.ok (.enter f as0) wr:=by
    rw[<-U'];simp only[execOp,ho,resolve,Sem.run_bind,Sem.run_pure,Result.andThen_ok,ztz,ea,hv1]
   rw[tG];simp only[Oper.uponIn];refine⟨fun hx=>(by simp[Gy,Fence.wide] at hx),PU (hc.mono fun e w' he=>?_)⟩;obtain⟨r,rfl,hk,hp⟩:=JP he;obtain⟨h1,h2⟩:=Yf hp;exact hN.go S.bT _ _ (.v r) r ⟨fun _ _ h=>h,fun _ _ cs h=>⟨cs,h⟩,fun id hi=>⟨hi,rfl⟩⟩ rfl rfl WR.bT (hw.age hk) (fun hp=>by rw[jR] at hp; cases hp) rfl h2 h1
  ·exact h.elim
 case h_9 it ho=>
  split at h
  ·rename_i ob hx;have eH:=QK hf.fit hp hx
   have jR:C.pm=false:=by
    cases hp:C.pm with
    | false=>rfl
    | true=>rw[hp] at h; exact h.elim
   rw[jR] at h;simp only[cond_false] at h;obtain⟨b,s,pos,rfl,hb,hh,h1,h2⟩:=h wr hw.ext hw.lt;have hg:(getObj b).run C.P wr=.ok (.stringIter s pos) wr:=by simp[getObj,Sem.run,hh]
   by_cases IQ:pos<s.size
   ·have SP:(setObj b (.stringIter s (pos+(Utf8.decode s pos).2))).run C.P wr=.ok () (OU wr b s (pos+(Utf8.decode s pos).2)):=by
     simp[setObj,Sem.run,hh,OU]
    have U':(execOp a.eval o).run C.P wr=.ok (.value (.tuple #[.bool true,.int .i64 pos,.int .i32 (Utf8.decode s pos).1])) (OU wr b s (pos+(Utf8.decode s pos).2)):=by
     simp[execOp,ho,eH,Instr.next,hg,IQ,SP,goInt]
    rw[U'];simp only[Oper.uponIn];obtain⟨g1,g2⟩:=Yf (h2 IQ)
    have hk:Q9 S.B wr (OU wr b s (pos+(Utf8.decode s pos).2)):=fun x hx=>by
     have gA:b≠x:=fun e=>hb (e▸hx)
     simp only[OU];rw[Array.getElem?_setIfInBounds_ne gA]
    exact hN.go S.bT _ _ (.v _) _ ⟨fun _ _ h=>h,fun _ _ cs h=>⟨cs,h⟩,fun id hi=>⟨hi,rfl⟩⟩ rfl rfl WR.bT (hw.age hk) (fun hp=>by rw[jR] at hp; cases hp) rfl g2 g1
   ·have U':(execOp a.eval o).run C.P wr=.ok (.value (.tuple #[.bool false])) wr:=by
     simp[execOp,ho,eH,Instr.next,hg,IQ]
    rw[U'];simp only[Oper.uponIn];obtain⟨g1,g2⟩:=Yf (h1 (Nat.le_of_not_lt IQ));exact hN.go S.bT _ _ (.v _) _ ⟨fun _ _ h=>h,fun _ _ cs h=>⟨cs,h⟩,fun id hi=>⟨hi,rfl⟩⟩ rfl rfl WR.bT (hw.age fun _ _=>rfl) (fun hp=>by rw[jR] at hp; cases hp) rfl g2 g1
  ·exact h.elim
 case h_10=>
  split at h
  ·rename_i xs rk u f hpr
   split at h
   ·rename_i vs hvs;have hv:=Xk hf.fit hp hvs
    have jR:C.pm=false:=by
     cases hp:C.pm with
     | false=>rfl
     | true=>rw[hp] at h; exact h.elim
    rw[jR] at h;simp only[cond_false] at h;have h:=h wr hw.ext hw.lt
    cases u with
    | true=>
     simp only[cond_true] at h
     split at h
     ·rename_i hd;obtain⟨w',hr,hk,hK⟩:=h;rw[<-hv] at hr;rw[Cj hpr a.eval hr];simp only[if_true,Oper.uponIn];exact hN.go S.bT _ _ (.v undef) undef ⟨fun _ _ h=>h,fun _ _ cs h=>⟨cs,h⟩,fun id hi=>⟨hi,rfl⟩⟩ rfl rfl WR.bT (hw.age hk) (fun hp=>by rw[jR] at hp; cases hp) rfl (fun x hx=>by rw[hd] at hx; cases hx) (by rw[hd]; exact hK)
     ·exact h.elim
    | false=>
     simp only[cond_false] at h;obtain⟨r,w',hr,hk,hp⟩:=JP h;rw[<-hv] at hr;rw[Cj hpr a.eval hr];simp only[Bool.false_eq_true,if_false,Oper.uponIn];obtain⟨h1,h2⟩:=Yf hp;exact hN.go S.bT _ _ (.v r) r ⟨fun _ _ h=>h,fun _ _ cs h=>⟨cs,h⟩,fun id hi=>⟨hi,rfl⟩⟩ rfl rfl WR.bT (hw.age hk) (fun hp=>by rw[jR] at hp; cases hp) rfl h2 h1
   ·exact h.elim
  ·exact h.elim
theorem zir{G:Prop->Prop}{d:TD}{op:BinOp}{a b:Va}{K:Va->Prop}(h:zf9 G d op a b K):∃v,K v:=by
 have kk:∀{p:Prop} [Decidable p] {A:Prop},(bif decide p then A else False)->A:=fun {p _ A} h=>by
  by_cases hk:p
  ·simpa[hk] using h
  ·simp[hk] at h
 unfold zf9 at h
 split at h <;> first
  | exact h.elim
  | exact⟨_,h⟩
  | exact⟨_,h.2⟩
  | exact⟨_,(kk h).2⟩
  | exact⟨_,kk h⟩
theorem ze9{a b:Operand}{cb:Bool}{x y:Va}{K:Va->Prop}(h:Dc a b cb x y K):∃v,K v:=by
 unfold Dc at h
 split at h <;> first | exact h.elim | exact⟨_,h⟩
theorem zgb{C:VT}{S:St}{w:Wo}{ops:Array Oper}{o:Oper}{pc:List (Nat×Bool)}{K:EV->Ph->Prop}(h:zwj C S w ops o pc K):∃e fact,K e fact:=by
 unfold zwj at h
 split at h
 case h_3=>
  split at h
  ·split at h
   ·split at h
    ·exact⟨_,_,h⟩
    ·exact h.elim
   ·split at h
    ·exact⟨_,_,h⟩
    ·exact h.elim
   ·split at h
    ·obtain⟨v,h⟩:=ze9 h; exact⟨_,_,h⟩
    ·exact h.elim
  ·exact h.elim
 case h_5=>
  split at h
  ·rename_i ty u v ht hu hv
   cases hb:zxe ty.d _ C.wr with
   | true=>
    rw[hb] at h;simp only[cond_true] at h;obtain⟨v,h⟩:=Pj h;exact⟨_,_,h.2⟩
   | false=>
    rw[hb] at h;simp only[cond_false] at h;obtain⟨v,h⟩:=zir h;exact⟨_,_,h⟩
  ·exact h.elim
 case h_14=>
  (repeat' split at h) <;> first
   | exact h.elim
   | (obtain⟨l,_,h⟩:=Ez h; obtain⟨u,_,h⟩:=GA h; exact⟨_,_,h.2⟩)
 case h_19=>
  split at h
  ·obtain⟨l,_,h⟩:=TH h
   split at h
   ·exact⟨_,_,h.2⟩
   ·exact h.elim
  ·rename_i ty ob ht hx
   cases hk:ty.ks.isEmpty with
   | true=>rw[hk] at h; exact h.elim
   | false=>
    rw[hk] at h;obtain⟨l,_,h⟩:=TH h
    split at h
    ·exact⟨_,_,h.2⟩
    ·exact h.elim
  ·(repeat' split at h) <;> first
    | exact h.elim
    | exact⟨_,_,h⟩
  ·(repeat' split at h) <;> first
    | exact h.elim
    | (obtain⟨v,h⟩:=Pj h; exact⟨_,_,h.2⟩)
  ·exact h.elim
 case h_21=>
  (repeat' split at h) <;> first
   | exact h.elim
   | (obtain⟨v,h⟩:=JP h; exact⟨_,_,h.2⟩)
 case h_16=>
  split at h
  ·rename_i ty v ht hx
   cases ho':ty.d.AM0 with
   | true=>rw[ho'] at h; exact h.elim
   | false=>rw[ho'] at h; exact⟨_,_,h⟩
  ·exact h.elim
 case h_17=>
  (repeat' split at h) <;> first
   | exact h.elim
   | (obtain⟨v,h⟩:=JP h; exact⟨_,_,h.2⟩)
 all_goals
  (repeat' split at h) <;> first
   | exact h.elim
   | exact⟨_,_,h⟩
   | exact⟨_,_,h.2⟩
   | (obtain⟨v,h⟩:=Pj h; exact⟨_,_,h.2⟩)
def Gk(o:Oper):Bool:=
 match o.op,o.dst with
 | .store _ _ _,some _=>true
 | .defer _,_=>true
 | _,_=>false
def zuz(dn:Nat->Bool)(o:Oper):Bool:=
 match o.guard with
 | some (j,_)=>dn j
 | none=>true
def zkw(S:St)(ops:Array Oper)(o:Oper):Bool:=match o.guard with
 | none=>false
 | some (j,_)=>match (ops[j]?).bind (·.dst) with
  | some d=>match S.F.get d with
   | some (.gd _ _ .no)=>true
   | _=>false
  | none=>false
def E2(S:St)(ops:Array Oper)(pc:List (Nat×Bool))(o:Oper):Bool:=zkw S ops o||o.op.operands.toList.any fun x=>match CD S pc x with
 | some .no=>true
 | _=>false
theorem Gm{n:Nat}{S:St}{ops:Array Oper}{a:Act}(hf:Fq n S ops a){pc:List (Nat×Bool)}{o:Oper}(nX:zjb S ops o=some pc)(h:E2 S ops pc o=true):¬GQ ops a pc:=fun hp=>by
 unfold E2 at h;rcases Bool.or_eq_true_iff.1 h with h | h
 ·unfold zkw at h
  split at h
  ·cases h
  ·rename_i j want hg
   split at h
   ·rename_i d hd
    split at h
    ·rename_i r uL hv;unfold zjb at nX;rw[hg] at nX;simp only[hd,hv] at nX
     cases hr:Nat.beq r S.r with
     | false=>rw[hr] at nX; cases nX
     | true=>
      rw[hr] at nX;simp only[cond_true,I1] at nX;subst nX;exact((hf.fits d _ hv (Ic hr)).1 fun p hm=>hp p (I2 _ hm)).elim
    ·cases h
   ·cases h
 ·obtain⟨x,_,hx⟩:=List.any_eq_true.1 h
  split at hx
  ·rename_i hv;exact(ZP hf hp hv).elim
  ·cases hx
def Ac(C:VT)(ops:Array Oper)(dn:Nat->Bool)(o:Oper)(S:St)(w:Wo)(K:Ph->St->Wo->Prop):Prop:=
 bif zuz dn o && !Gk o then
  match zjb S ops o with
  | none=>False
  | some pc=>bif E2 S ops pc o then GS C S o.dst (zbu S pc .no) fun S'=>K none S' w else bif HM C o.op then (match pc with
   | []=>zv1 C S w o [] (K none)
   | pc=>bif znf S ops pc then LI S ops pc (zv1 C S w o pc (K none))/\(LI S ops pc False->GS C S o.dst (zbu S pc .no) fun S'=>K none S' w) else False)
   else zwj C S w ops o pc fun e f=>GS C S o.dst (zbu S pc e) fun S'=>K f S' w
 else False
structure ztw (C:VT) (S:St) (w:Wo) (ops:Array Oper) (D:Nat->Prop) (o:Oper) (a:Act) (S':St) (w':Wo) (a':Act) (WX:Wo):Prop where
 fit:Pr C.n S' ops D a'
 rel:Zk S' w' WX
 wf:Kj S'
 fr:Ps S S'
 r:S'.r=S.r
 put:∃v,a'=a.put o.dst v
 pm:C.pm=true->w'=w/\S'.old=S.old
theorem zjc{S:St}{ops:Array Oper}{D:Nat->Prop}{n:Nat}{a:Act}(hf:Pr n S ops D a){o:Oper}{pc:List (Nat×Bool)}(h:zjb S ops o=some pc)(hg:∀j b,o.guard=some (j,b)->D j):∀p∈pc,D p.1:=by
 unfold zjb at h
 split at h
 ·simp only[I1] at h; subst h; intro p hp; cases hp
 ·rename_i j want hgd
  split at h
  ·rename_i d hd
   split at h
   ·simp only[I1] at h; subst h;intro p hp;simp only[IA] at hp;subst hp;exact hg j want hgd
   ·rename_i r uL b hv
    cases hr:Nat.beq r S.r with
    | false=>rw[hr] at h; cases h
    | true=>
     rw[hr] at h;simp only[cond_true,I1] at h; subst h;intro p hp;rcases Ij.1 hp with rfl | hp
     ·exact hg j want hgd
     ·have:=Ic hr;subst this;exact hf.dn d uL _ hv p hp
   ·rename_i r uL hv
    cases hr:Nat.beq r S.r with
    | false=>rw[hr] at h; cases h
    | true=>
     rw[hr] at h;simp only[cond_true,I1] at h; subst h;intro p hp;rcases Ij.1 hp with rfl | hp
     ·exact hg j want hgd
     ·have:=Ic hr;subst this;exact hf.dn d uL _ hv p hp
   ·cases h
  ·cases h
structure zn2 (C:VT):Prop where
 T:znz C.P C.T
 pf:∀f ks,zih C.pf f=some ks->TC C.P f
 ef:∀f ks,zih C.ef f=some ks->TC C.P f
 mixed:C.P.follows .mixedOrders=true
theorem Ad{C:VT}(E:zn2 C){ops:Array Oper}{D D':Nat->Prop}{dn:Nat->Bool}{i:Nat}{o:Oper}{S:St}{w wr:Wo}{a:Act}{K:Ph->St->Wo->Prop}{N:Act->Wo->Prop}{Q:Exit->Act->Wo->Prop}(hu:Dv ops=true)(ho:ops[i]? = some o)(hi:¬D i)(hD:∀j,D j->zn0 ops j)(hDD:∀j,D j->D' j)(hdn:∀j,dn j=true->zn0 ops j->D j)(hf:Pr C.n S ops D a)(hw:Zk S w wr)(WR:Kj S)(hN:∀f S' w' a' WX,K f S' w'->ztw C S w ops D' o a S' w' a' WX->N a' WX)(h:Ac C ops dn o S w K) :
  if Region.wanted o (yielded ops a.tmps) then o.wpIn (Gy C.rd) 0 C.P a wr N Q else N (a.put o.dst undef) wr:=by
 unfold Ac at h
 cases hb:(zuz dn o && !Gk o) with
 | false=>rw[hb] at h; exact h.elim
 | true=>
  rw[hb] at h;simp only[cond_true] at h;simp only[A',IC] at hb
  have hg:∀j b,o.guard=some (j,b)->D j:=fun j b hgd=>by
   refine hdn j ?_ ⟨o,by rw[Array.mem_toList_iff]; exact Array.mem_of_getElem? ho,b,hgd⟩;have:=hb.1;unfold zuz at this;rw[hgd] at this;exact this
  split at h
  ·exact h.elim
  ·rename_i pc nX;have AO9:=zjc hf nX hg;have oD:=KP hf.fit nX
   cases hdd:E2 S ops pc o with
   | true=>
    rw[hdd] at h;simp only[cond_true] at h;have hp:=Gm hf.fit nX hdd;rw[C' (fun vE=>hp (oD.1 vE))];obtain⟨h1,h2⟩:=Yf h;exact hN _ _ _ _ _ h1 ⟨hf.put hu ho hi hD hDD AO9 h2 ⟨fun hp'=>Is hp' hp,fun _=>rfl⟩,hw.bQ _ _,WR.bQ _ _,(Ps.refl S).bQ _ _,by cases o.dst <;> rfl,⟨undef,rfl⟩,fun _=>⟨rfl,by cases o.dst <;> rfl⟩⟩
   | false=>
   rw[hdd] at h;simp only[cond_false] at h
   cases he:HM C o.op with
   | true=>
    rw[he] at h;simp only[cond_true] at h
    have run:GQ ops a pc->zv1 C S w o pc (K none)->o.wpIn (Gy C.rd) 0 C.P a wr N Q:=fun Ct2 h=>by
     refine zmn E.T E.ef hf hw WR Ct2 ⟨fun S1 w' WX e v h1 h2 h3 h4 h5 h9 h6 h7 h8=>?_⟩ h (fun t x y hs=>?_)
     ·refine hN none _ _ _ _ h8 ⟨?_,h5.bQ _ _,h4.bQ _ _,h1.bQ _ _,by cases o.dst <;> exact h3,⟨v,rfl⟩,fun hp=>by cases o.dst <;> exact h9 hp⟩;have hf1:Pr C.n S1 ops D a:=hf.mono h1.B h2 h3;exact hf1.put (pc:=[]) hu ho hi hD hDD (fun p hp=>by cases hp) h7 ⟨fun _=>h6,fun hn=>Is (fun p hp=>by cases hp) hn⟩
     ·have:=hb.2;unfold Gk at this;rw[hs] at this
      cases hd:o.dst with
      | none=>rfl
      | some d=>rw[hd] at this; cases this
    split at h
    ·have vE:Region.wanted o (yielded ops a.tmps)=true:=oD.2 (fun p hp=>by cases hp);rw[E' vE];exact run (fun p hp=>by cases hp) h
    ·cases hpo:znf S ops pc with
     | false=>rw[hpo] at h; exact h.elim
     | true=>
      rw[hpo] at h;simp only[cond_true] at h
      by_cases hp:GQ ops a pc
      ·rw[E' (oD.2 hp)];exact run hp (Nc hf.fit hp h.1)
      ·rw[C' (fun vE=>hp (oD.1 vE))];obtain⟨h1,h2⟩:=Yf (h.2 (zeg hf.fit hpo hp));exact hN _ _ _ _ _ h1 ⟨hf.put hu ho hi hD hDD AO9 h2 ⟨fun hp'=>Is hp' hp,fun _=>rfl⟩,hw.bQ _ _,WR.bQ _ _,(Ps.refl S).bQ _ _,by cases o.dst <;> rfl,⟨undef,rfl⟩,fun _=>⟨rfl,by cases o.dst <;> rfl⟩⟩
   | false=>
    rw[he] at h;simp only[cond_false] at h
    by_cases hp:GQ ops a pc
    ·rw[E' (oD.2 hp)];obtain⟨e,fact,v,hK,CE5,kF,hq⟩:=zb4 E.T E.pf hf.fit hp h;obtain⟨h1,h2⟩:=Yf hK;refine Dx (C:=Zk S w) (K:=fun a'=>a'=a.put o.dst v) hw (fun a' w' hw' ha'=>?_) ⟨v,fun WX hw'=>hq S w a rfl (fun _ _ h=>h) kF WX hw',rfl⟩;subst ha';exact hN _ _ _ _ _ h1 ⟨hf.put hu ho hi hD hDD AO9 h2 ⟨fun _=>CE5,fun hn=>Is hp hn⟩,hw'.bQ _ _,WR.bQ _ _,(Ps.refl S).bQ _ _,by cases o.dst <;> rfl,⟨v,rfl⟩,fun _=>⟨rfl,by cases o.dst <;> rfl⟩⟩
    ·rw[C' (fun vE=>hp (oD.1 vE))];obtain⟨e,fact,hK⟩:=zgb h;obtain⟨h1,h2⟩:=Yf hK;exact hN _ _ _ _ _ h1 ⟨hf.put hu ho hi hD hDD AO9 h2 ⟨fun hp'=>Is hp' hp,fun _=>rfl⟩,hw.bQ _ _,WR.bQ _ _,(Ps.refl S).bQ _ _,by cases o.dst <;> rfl,⟨undef,rfl⟩,fun _=>⟨rfl,by cases o.dst <;> rfl⟩⟩
def zo3(C:VT)(ops:Array Oper):List Oper->Nat->St->Wo->(St->Wo->Prop)->Prop
 | [],_,S,w,K=>K S w
 | o::rest,k,S,w,K=>Ac C ops (fun j=>Nat.blt j k) o S w fun _ S' w'=>zo3 C ops rest (k+1) S' w' K
def Ks:List Oper->List Nat
 | []=>[]
 | o::r=>match o.dst with
  | some d=>d::Ks r
  | none=>Ks r
def G6(ds:List Nat)(a a':Act):Prop:=a'.defers=a.defers/\a'.tmps.size=a.tmps.size/\∀i,i∉ds->a'.tmps.getD i undef=a.tmps.getD i undef
theorem G6.refl(ds:List Nat)(a:Act):G6 ds a a:=⟨rfl,rfl,fun _ _=>rfl⟩
theorem G6.trans{ds:List Nat}{a b c:Act}(h:G6 ds a b)(k:G6 ds b c):G6 ds a c:=⟨k.1.trans h.1,k.2.1.trans h.2.1,fun i hi=>(k.2.2 i hi).trans (h.2.2 i hi)⟩
theorem G6.mono{ds es:List Nat}{a b:Act}(h:G6 ds a b)(hs:∀x∈ds,x∈es):G6 es a b:=⟨h.1,h.2.1,fun i hi=>h.2.2 i (fun hx=>hi (hs i hx))⟩
theorem G6.put(a:Act)(d:Option Tmp)(v:Va)(ds:List Nat)(h:∀x,d=some x->x∈ds):G6 ds a (a.put d v):=by
 cases d with
 | none=>exact G6.refl _ _
 | some d=>
  refine⟨rfl,by simp[Act.put],fun i hi=>?_⟩;have:d≠i:=fun e=>hi (e▸h d rfl)
  simp only[Act.put,Array.getD_eq_getD_getElem?];rw[Array.getElem?_setIfInBounds_ne this]
theorem Ff{C:VT}(E:zn2 C){ops:Array Oper}(hu:Dv ops=true){K:St->Wo->Prop}{Q:Exit->Act->Wo->Prop}{ds:List Nat}{S0:St}{w0:Wo}{a0:Act}(hds:∀x∈Ks ops.toList,x∈ds)(hQ:∀S' w' a' WX,K S' w'->Pr C.n S' ops (fun j=>j<ops.size/\zn0 ops j) a'->Zk S' w' WX->Kj S'->Ps S0 S'->S'.r=S0.r->G6 ds a0 a'->(C.pm=true->w'=w0/\S'.old=S0.old)->Q .normal a' WX) :
  ∀(l:List Oper) (k:Nat) (S:St) (w wr:Wo) (a:Act),(∀j,l[j]? = ops[k+j]?)->k+l.length=ops.size->zo3 C ops l k S w K->Pr C.n S ops (fun j=>j<k/\zn0 ops j) a->Zk S w wr->Kj S->Ps S0 S->S.r=S0.r->G6 ds a0 a->(C.pm=true->w=w0/\S.old=S0.old)->
   wpListIn (Gy C.rd) 0 C.P ops Q l a wr
 | [],k,S,w,wr,a,_,hk,h,hf,hw,WR,zN,hr,hfa,jR=>by
  have:k=ops.size:=by simpa using hk
  subst this;exact hQ S w a wr h hf hw WR zN hr hfa jR
 | o::rest,k,S,w,wr,a,hl,hk,h,hf,hw,WR,zN,hr,hfa,jR=>by
  have ho:ops[k]? = some o:=by simpa using (hl 0).symm
  have hod:∀x,o.dst=some x->x∈ds:=fun x hx=>by
   refine hds x ?_;have hm:o∈ops.toList:=by rw[Array.mem_toList_iff]; exact Array.mem_of_getElem? ho
   clear hk hl h;generalize ops.toList=q at hm
   induction q with
   | nil=>cases hm
   | cons y q ih=>
    simp only[Ks];rcases Ij.1 hm with rfl | hm
    ·rw[hx]; exact Ia ..
    ·split
     ·exact I2 _ (ih hm)
     ·exact ih hm
  have gW:=Ad E (i:=k) (D':=fun j=>j<k+1/\zn0 ops j) (N:=fun a' w'=>wpListIn (Gy C.rd) 0 C.P ops Q rest a' w') (Q:=Q) hu ho (fun hd=>Nat.lt_irrefl _ hd.1) (fun j hj=>hj.2) (fun j hj=>⟨Nat.lt_succ_of_lt hj.1,hj.2⟩)
   (fun j h1 h2=>⟨Il h1,h2⟩) hf hw WR (fun f S' w' a' WX hK hL=>by
    obtain⟨v,rfl⟩:=hL.put;exact Ff E hu hds hQ rest (k+1) S' w' WX _ (fun j=>by have:=hl (j+1); simpa[Nat.add_assoc,Nat.add_comm 1 j] using this) (by simp at hk; omega) hK hL.fit hL.rel hL.wf (zN.trans hL.fr) (hL.r.trans hr) (hfa.trans (G6.put a o.dst v ds hod)) (fun hp=>⟨(hL.pm hp).1.trans (jR hp).1,(hL.pm hp).2.trans (jR hp).2⟩)) h
  unfold wpListIn
  by_cases hwt:Region.wanted o (yielded ops a.tmps)=true
  ·rw[E' hwt] at gW ⊢;exact gW
  ·rw[C' hwt] at gW ⊢;exact⟨fun _ _=>trivial,gW⟩
theorem zr6{C:VT}{ops:Array Oper}{dn:Nat->Bool}{o:Oper}{S:St}{w:Wo}{K:Ph->St->Wo->Prop}(h:Ac C ops dn o S w K):∀c,o.op≠.defer c:=fun c hc=>by
 unfold Ac at h;have:Gk o=true:=by simp[Gk,hc]
 rw[this] at h;simp at h
def U3(ops:Array Oper)(o:Oper)(a:Act):Option (Sem Next):=if Region.wanted o (yielded ops a.tmps) then some (execOp a.eval o) else none
def YS(P:Program)(R:Wo->Prop)(s:Option (Sem Next))(v:Va):Prop:=
 match s with
 | some s=>∀w,R w->Oper.quietUpon P R w v (s.run P w)
 | none=>v=undef
def Bq(P:Program)(o:Oper)(a:Act)(w:Wo)(N:Va->Wo->Prop):Prop:=
 match (execOp a.eval o).run P w with
 | .ok (.value v) w'=>N v w'
 | .ok .skip w'=>N undef w'
 | .ok (.enter f args) w'=>Calls P f args w' fun e kG=>∃v,e=.returned v/\N v kG
 | .ok (.row row args) w'=>Rows P row args w' fun v kG=>N v kG
 | .ok (.round l f tmps asg body) w'=>RoundIn Fence.wide 0 P l f tmps asg body w' fun e kG=>∃v,e=.returned v/\N v kG
 | _=>False
def Vc:List Oper->List Nat->List Nat
 | [],acc=>acc
 | o::r,acc=>Vc r (acc++[o.after.toList.foldl (fun s e=>if Region.binds .any e then s ||| 2 ^ e.on ||| acc.getD e.on 0 else s) 0])
def zc9(M:List Nat)(i j:Nat):Bool := !(M.getD j 0).testBit i
def L6(P:Program)(ops:Array Oper)(un:Nat->Nat->Bool)(Q:Act->(Wo->Prop)->Prop):Nat->Array Bool->List (Nat×Option (Sem Next)×Va)->Act->(Wo->Prop)->Prop
 | 0,Rk,_,a,R=>Region.ready .any ops Rk=[]/\Q a R
 | n+1,Rk,Pd,a,R=>(Region.ready .any ops Rk=[]->Q a R)/\∀i∈Region.ready .any ops Rk,∀o,ops[i]? = some o->
   (∃v,YS P R (U3 ops o a) v/\L6 P ops un Q n (Rk.setIfInBounds i true) ((i,U3 ops o a,v)::Pd) (a.put o.dst v) R) \/
   (Region.wanted o (yielded ops a.tmps)=true/\∀w,R w->Bq P o a w fun v w'=>∃R':Wo->Prop,R' w'/\(∀p∈Pd,un p.1 i=true->YS P R' p.2.1 p.2.2)/\
    L6 P ops un Q n (Rk.setIfInBounds i true) Pd (a.put o.dst v) R')
section
variable {P:Program}{ops:Array Oper}{un:Nat->Nat->Bool}{Q:Act->(Wo->Prop)->Prop}
theorem Ec{o:Oper}{a:Act}{w:Wo}{N N':Va->Wo->Prop}(h:∀v w,N v w->N' v w)(hh:Bq P o a w N):Bq P o a w N':=by
 unfold Bq at *;generalize (execOp a.eval o).run P w=r at *
 cases r with
 | ok n w'=>
  cases n <;> dsimp only at hh ⊢
  case value v=>exact h _ _ hh
  case skip=>exact h _ _ hh
  case enter f args=>exact hh.mono fun e kG ⟨v,he,hn⟩=>⟨v,he,h _ _ hn⟩
  case row row args=>exact hh.mono fun v kG hn=>h _ _ hn
  case round l f tmps asg body=>exact hh.mono fun e kG ⟨v,he,hn⟩=>⟨v,he,h _ _ hn⟩
  all_goals exact hh
 | halt x w'=>exact hh
theorem zr4{o:Oper}{a:Act}{w:Wo}{N:Va->Wo->Prop}{K:Act->Wo->Prop}{Q':Exit->Act->Wo->Prop}{r:Option Nat}(hh:Bq P o a w N)(h:∀v w',N v w'->K (a.put o.dst v) w'):o.wpIn (Gy r) 0 P a w K Q':=by
 refine zj5 (fun c hc=>by unfold Bq at hh; rcases zcv (P:=P) (ρ:=a.eval) hc w with ⟨d,w',hr⟩ | ⟨x,w',hr⟩ <;> (rw[hr] at hh; exact hh)) ?_;unfold Bq at hh;generalize (execOp a.eval o).run P w=r at *
 cases r with
 | ok n w'=>
  cases n <;> dsimp only at hh <;> simp only[Oper.uponIn]
  case value v=>exact h _ _ hh
  case skip=>exact h _ _ hh
  case enter f args=>exact⟨fun hx=>(by simp[Gy,Fence.wide] at hx),PU (hh.mono fun e kG ⟨v,he,hn⟩=>by subst he; exact h _ _ hn)⟩
  case row row args=>exact⟨fun hx=>(by simp[Gy,Fence.wide] at hx),zo4 (hh.mono fun v kG hn=>h _ _ hn)⟩
  case round l f tmps asg body=>exact⟨fun hx=>(by simp[Gy,Fence.wide] at hx),zb6 (hh.mono fun e kG ⟨v,he,hn⟩=>by subst he; exact h _ _ hn)⟩
 | halt x w'=>exact hh.elim
theorem ziq{o:Oper}{a:Act}{w:Wo}{K:Act->Wo->Prop}{r:Option Nat}(hd:∀c,o.op≠.defer c)(hh:o.wpIn (Gy r) 0 P a w K fun _ _ _=>False)(hp:∀a' w',K a' w'->∃v,a'=a.put o.dst v):Bq P o a w fun v w'=>K (a.put o.dst v) w':=by
 have hh:=zvw hd hh;unfold Bq;generalize (execOp a.eval o).run P w=r at *
 cases r with
 | ok n w'=>
  cases n <;> simp only[Oper.uponIn] at hh ⊢
  case value v=>exact hh
  case skip=>exact hh
  case defer d=>
   obtain⟨v,hv⟩:=hp _ _ hh;have h1:(({ a with defers:=d::a.defers }:Act).put o.dst undef).defers=(a.put o.dst v).defers:=by rw[hv]
   have h2:∀(b:Act) (x:Option Tmp) (u:Va),(b.put x u).defers=b.defers:=fun b x u=>by cases x <;> rfl
   rw[h2,h2] at h1;have:=congrArg List.length h1;simp at this
  case enter f args=>
   exact(zr7 hh.2).mono fun e kG he=>by
    cases e with
    | returned v=>exact⟨v,rfl,he⟩
    | panicked c=>exact he.elim
    | outgrown=>obtain⟨_,_,he⟩:=he; exact he.elim
  case row row args=>exact fun c cs=>(let ⟨v,w1,h1,h2⟩:=hh.2 c cs (zgg _ _); ⟨v,w1,h1,StepsIn.steps h2⟩)
  case round l f tmps asg body=>
   refine⟨trivial,fun c cs _=>?_⟩;obtain⟨e,kG,he,hs⟩:=hh.2.2 c cs (zgg _ _);refine⟨e,kG,?_,hs⟩
   cases e with
   | returned v=>exact⟨v,rfl,he⟩
   | panicked c=>exact he.elim
   | outgrown=>obtain⟨_,_,he⟩:=he; exact he.elim
 | halt x w'=>cases x <;> simp only[Oper.uponIn] at hh
theorem H1:∀{n:Nat} {Rk:Array Bool} {Pd Pd':List (Nat×Option (Sem Next)×Va)} {a:Act} {R:Wo->Prop},(∀p∈Pd',p∈Pd)->L6 P ops un Q n Rk Pd a R->L6 P ops un Q n Rk Pd' a R
 | 0,_,_,_,_,_,_,h=>h
 | n+1,Rk,Pd,Pd',a,R,hs,h=>⟨h.1,fun i hi o ho=>by
  rcases h.2 i hi o ho with ⟨v,h1,h2⟩ | ⟨h1,h2⟩
  ·refine .inl ⟨v,h1,H1 (fun p hp=>?_) h2⟩;rcases Ij.1 hp with rfl | hp
   ·exact Ia ..
   ·exact I2 _ (hs p hp)
  ·exact .inr ⟨h1,fun w hw=>Ec (fun v w' ⟨R',h3,h4,h5⟩=>⟨R',h3,fun p hp=>h4 p (hs p hp),H1 hs h5⟩) (h2 w hw)⟩⟩
theorem MK{r:Option Nat}{Q':Exit->Act->Wo->Prop}(hQ:∀a R w,Q a R->R w->Q' .normal a w):∀(n:Nat) (Rk:Array Bool) (Pd:List (Nat×Option (Sem Next)×Va)) (a:Act) (R:Wo->Prop) (w:Wo),R w->L6 P ops un Q n Rk Pd a R->wpAnyIn (Gy r) 0 P .any ops Q' n Rk a w
 | 0,_,_,_,_,_,hw,h=>⟨h.1,hQ _ _ _ h.2 hw⟩
 | n+1,Rk,Pd,a,R,w,hw,h=>⟨fun h0=>hQ _ _ _ (h.1 h0) hw,fun i hi=>by
  obtain⟨_,o,ho,_⟩:=mem_ready.1 hi;unfold wpOpIn;simp only[ho];rcases h.2 i hi o ho with ⟨v,h1,h2⟩ | ⟨h1,h2⟩
  ·unfold U3 at h1
   by_cases hwt:Region.wanted o (yielded ops a.tmps)=true
   ·rw[E' hwt] at h1 ⊢;exact Dx (C:=R) (K:=fun a'=>a'=a.put o.dst v) hw (fun a' w' hw' ha'=>by subst ha'; exact MK hQ n _ _ _ R w' hw' h2) ⟨v,fun w' hw'=>h1 w' hw',rfl⟩
   ·rw[C' hwt] at h1 ⊢;rw[show v=undef from h1] at h2;exact⟨fun _ _=>trivial,MK hQ n _ _ _ R w hw h2⟩
  ·rw[E' h1];exact(zr4 (h2 w hw) fun v w' ⟨R',h3,_,h5⟩=>MK hQ n _ _ _ R' w' h3 h5)⟩
theorem znl{oi oj:Oper}{a:Act}{v:Va}(hap:oi.apart ops oj=true)(hsj:∀cs b,oj.op≠.select cs b):U3 ops oj (a.put oi.dst v)=U3 ops oj a:=by
 obtain⟨h1,_,_⟩:=Oper.apart_spec hap;unfold U3;rw[wanted_put oj a oi.dst v h1,execOp_put oj hsj a oi.dst v h1]
theorem zoz{oi oj:Oper}{a:Act}{v:Va}{w:Wo}{N:Va->Wo->Prop}(hap:oi.apart ops oj=true)(hsj:∀cs b,oj.op≠.select cs b)(h:Bq P oj (a.put oi.dst v) w N):Bq P oj a w N:=by
 obtain⟨h1,_,_⟩:=Oper.apart_spec hap;unfold Bq at *;rw[execOp_put oj hsj a oi.dst v h1] at h;exact h
theorem NT{x y:Oper}(h:x.apart ops y=true):∀d,y.dst=some d->d∉x.looksAt ops:=(Oper.apart_spec h).2.2
def G4(ops:Array Oper)(Rk:Array Bool):Prop:=∀j o,ops[j]? = some o->Rk.getD j true=true->∀e∈o.after,Region.binds .any e=true->Rk.getD e.on false=true
theorem zj0(BN4:∀(j:Nat) (o:Oper) cs b,ops[j]? = some o->o.op≠.select cs b)(hun:∀Rk i j,G4 ops Rk->i∈Region.ready .any ops Rk->j∈Region.ready .any ops Rk->i≠j->un i j=true){i:Nat}{oi:Oper}{v:Va}(hi:ops[i]? = some oi) :
  ∀(n:Nat) (Rk:Array Bool) (Pd:List (Nat×Option (Sem Next)×Va)) (a:Act) (R:Wo->Prop),G4 ops Rk->
   (∀j oj,ops[j]? = some oj->j≠i->Rk.getD j true=false->(∀e∈oj.after,Region.binds .any e=true->e.on≠i)->oi.apart ops oj=true)->
   i∈Region.ready .any ops Rk->YS P R (U3 ops oi a) v->
   L6 P ops un Q n (Rk.setIfInBounds i true) ((i,U3 ops oi a,v)::Pd) (a.put oi.dst v) R->L6 P ops un Q (n+1) Rk Pd a R:=by
 intro n
 induction n with
 | zero=>
  intro Rk Pd a R qW sI hr hy H;refine⟨fun h=>(by rw[h] at hr; cases hr),fun j hj oj hoj=>?_⟩
  by_cases hji:j=i
  ·subst hji; rw[hi] at hoj; cases hoj; exact .inl ⟨v,hy,H⟩
  ·have:=ready_mono hj hji;rw[H.1] at this;cases this
 | succ n ih=>
  intro Rk Pd a R qW sI hr hy H;refine⟨fun h=>(by rw[h] at hr; cases hr),fun j hj oj hoj=>?_⟩
  by_cases hji:j=i
  ·subst hji; rw[hi] at hoj; cases hoj; exact .inl ⟨v,hy,H⟩
  ·obtain⟨B17,oj',CU2,vB⟩:=mem_ready.1 hj;rw[hoj] at CU2; cases CU2
   have Cs7:∀e∈oj.after,Region.binds .any e=true->e.on≠i:=fun e he hb heq=>by
    have h1:=vB e he hb;have h0:=(mem_ready.1 hr).1;rw[heq] at h1;rcases Nat.lt_or_ge i Rk.size with h' | h'
    ·simp[h'] at h0 h1; rw[h0] at h1; cases h1
    ·simp[Array.getElem?_eq_none h'] at h1
   have hap:=sI j oj hoj hji B17 Cs7;have hsj:=fun cs b=>BN4 j oj cs b hoj
   have hsi:=fun cs b=>BN4 i oi cs b hi
   have BM4:G4 ops (Rk.setIfInBounds j true):=fun k ok hk rP e he hb=>by
    by_cases gG:j=k
    ·subst gG; rw[hoj] at hk; cases hk;exact getD_set_true (vB e he hb)
    ·rw[getD_set_ne true gG] at rP;exact getD_set_true (qW k ok hk rP e he hb)
   have Bq5:∀k ok,ops[k]? = some ok->k≠i->(Rk.setIfInBounds j true).getD k true=false->
     (∀e∈ok.after,Region.binds .any e=true->e.on≠i)->oi.apart ops ok=true:=fun k ok hk hki hun i'=>by
    refine sI k ok hk hki ?_ i'
    by_cases gG:j=k
    ·subst gG; exact B17
    ·rw[getD_set_ne true gG] at hun; exact hun
   have hr':=ready_mono hr (Ne.symm hji)
   have B23:∀u,U3 ops oi (a.put oj.dst u)=U3 ops oi a:=fun u=>by
    unfold U3;rw[wanted_put oi a oj.dst u (NT hap),execOp_put oi hsi a oj.dst u (NT hap)]
   have B68:∀u,(a.put oi.dst v).put oj.dst u=(a.put oj.dst u).put oi.dst v:=fun u=>Act.put_comm a v u (Oper.apart_spec hap).2.1
   rcases H.2 j (ready_mono hj hji) oj hoj with ⟨u,h1,h2⟩ | ⟨h1,h2⟩
   ·rw[znl hap hsj] at h1 h2;refine .inl ⟨u,h1,ih _ _ _ R BM4 Bq5 hr' (by rw[B23 u]; exact hy) ?_⟩;rw[B23 u,<-B68 u,Array.setIfInBounds_comm _ _ hji]
    exact H1 (fun p hp=>by
     simp only[Ij] at hp ⊢;rcases hp with h | h | h
     ·exact .inr (.inl h)
     ·exact .inl h
     ·exact .inr (.inr h)) h2
   ·refine .inr ⟨?_,fun w hw=>zoz hap hsj (Ec (fun u w' ⟨R',h3,h4,h5⟩=>⟨R',h3,fun p hp=>h4 p (I2 _ hp),?_⟩) (h2 w hw))⟩
    ·rw[wanted_put oj a oi.dst v (Oper.apart_spec hap).1] at h1; exact h1
    ·have hyi:YS P R' (U3 ops oi a) v:=h4 _ (Ia ..) (hun Rk i j qW hr hj (Ne.symm hji));refine ih _ _ _ R' BM4 Bq5 hr' (by rw[B23 u]; exact hyi) ?_;rw[B23 u,<-B68 u,Array.setIfInBounds_comm _ _ hji];exact h5
end
theorem Ai{acc:List Nat}{i:Nat}:∀(l:List Edge) (s:Nat),(l.foldl (fun s e=>if Region.binds .any e then s ||| 2 ^ e.on ||| acc.getD e.on 0 else s) s).testBit i=true->
  s.testBit i=true\/∃e∈l,Region.binds .any e=true/\(e.on=i\/(acc.getD e.on 0).testBit i=true)
 | [],s,h=>.inl h
 | e::l,s,h=>by
  rcases Ai l _ h with h1 | ⟨e',he',hb,h2⟩
  ·by_cases hb:Region.binds .any e=true
   ·simp only[E' hb] at h1;simp only[Nat.testBit_or,Iv] at h1;rcases h1 with (h1 | h1) | h1
    ·exact .inl h1
    ·refine .inr ⟨e,Ia ..,hb,.inl ?_⟩;rw[Nat.testBit_two_pow] at h1
     simpa using h1
    ·exact .inr ⟨e,Ia ..,hb,.inr h1⟩
   ·simp only[C' hb] at h1;exact .inl h1
  ·exact .inr ⟨e',I2 _ he',hb,h2⟩
theorem Ht:∀(l:List Oper) (acc:List Nat) (pre:List Oper),acc.length=pre.length->
  (∀(j:Nat) (o:Oper),pre[j]? = some o->∀i,(acc.getD j 0).testBit i=true->∃e∈o.after.toList,Region.binds .any e=true/\(e.on=i\/(e.on<j/\(acc.getD e.on 0).testBit i=true)))->
  ∀(j:Nat) (o:Oper),(pre++l)[j]? = some o->∀i,((Vc l acc).getD j 0).testBit i=true->∃e∈o.after.toList,Region.binds .any e=true/\(e.on=i\/(e.on<j/\((Vc l acc).getD e.on 0).testBit i=true))
 | [],acc,pre,hl,h,j,o,ho,i,hb=>by
  simp only[List.append_nil] at ho;exact h j o ho i hb
 | o'::l,acc,pre,hl,h,j,o,ho,i,hb=>by
  have Cn9:pre++o'::l=(pre++[o'])++l:=Qs;rw[Cn9] at ho;simp only[Vc] at hb ⊢;refine Ht l _ (pre++[o']) (by simp[hl]) (fun j o ho i hb=>?_) j o ho i hb
  by_cases hj:j<pre.length
  ·rw[Iq hj] at ho;rw[List.getD_eq_getElem?_getD,Iq Qo,<-List.getD_eq_getElem?_getD] at hb;obtain⟨e,he,nG,h2⟩:=h j o ho i hb;refine⟨e,he,nG,?_⟩;rcases h2 with h2 | ⟨h2,h3⟩
   ·exact .inl h2
   ·refine .inr ⟨h2,?_⟩;rw[List.getD_eq_getElem?_getD,Iq Qo,<-List.getD_eq_getElem?_getD];exact h3
  ·have hj':j=pre.length:=by
    have:j<(pre++[o']).length:=(I9.1 ho).1;simp at this; omega
   subst hj';simp only[List.getElem?_concat_length,I1] at ho;subst ho;rw[<-hl] at hb;rw[List.getD_eq_getElem?_getD,List.getElem?_concat_length] at hb;simp only[Option.getD_some] at hb;rcases Ai _ _ hb with h1 | ⟨e,he,nG,h2⟩
   ·simp at h1
   ·refine⟨e,he,nG,?_⟩;rcases h2 with h2 | h2
    ·exact .inl h2
    ·have IQ:e.on<acc.length:=by
      rcases Nat.lt_or_ge e.on acc.length with h' | h'
      ·exact h'
      ·rw[List.getD_eq_getElem?_getD,List.getElem?_eq_none h'] at h2; simp at h2
     refine .inr ⟨Qo,?_⟩;rw[List.getD_eq_getElem?_getD,Iq IQ,<-List.getD_eq_getElem?_getD];exact h2
theorem zh1{ops:Array Oper}(Rk:Array Bool)(i j:Nat)(qW:G4 ops Rk)(hi:i∈Region.ready .any ops Rk)(hj:j∈Region.ready .any ops Rk)(_:i≠j):zc9 (Vc ops.toList []) i j=true:=by
 unfold zc9;rw[IC];rw[Bool.eq_false_iff];intro hb;have B89:=Ht ops.toList [] [] rfl (fun j o ho=>by simp at ho);simp only[List.nil_append] at B89;have hin:=(mem_ready.1 hi).1
 have no:Rk.getD i false≠true:=fun h=>by
  rcases Nat.lt_or_ge i Rk.size with h' | h'
  ·simp[h'] at h hin; rw[h] at hin; cases hin
  ·simp[Array.getElem?_eq_none h'] at h
 have key:∀k:Nat,∀o,ops[k]? = some o->(∀e∈o.after,Region.binds .any e=true->Rk.getD e.on false=true)->((Vc ops.toList []).getD k 0).testBit i=true->False:=by
  intro k
  induction k using Nat.strongRecOn with
  | _ k ih=>
   intro o ho vB hb;obtain⟨e,he,nG,h2⟩:=B89 k o (by simpa using ho) i hb;have he':e∈o.after:=by rw[<-Array.mem_toList_iff]; exact he
   have hl:=vB e he' nG;rcases h2 with h2 | ⟨h2,h3⟩
   ·rw[h2] at hl; exact no hl
   ·have IQ:e.on<ops.size:=Nat.lt_trans h2 (Array.getElem?_eq_some_iff.1 ho).1;have hoe:ops[e.on]? = some ops[e.on]:=Array.getElem?_eq_getElem IQ;refine ih e.on h2 _ hoe (qW e.on _ hoe ?_) h3;rcases Nat.lt_or_ge e.on Rk.size with h' | h'
    ·simp[h'] at hl ⊢; exact hl
    ·simp[Array.getElem?_eq_none h'] at hl
 obtain⟨_,o,ho,vB⟩:=mem_ready.1 hj;exact key j o ho vB hb
def Gx(C:VT)(ops:Array Oper):List Nat->Option Nat
 | []=>none
 | i::r=>match ops[i]? with
  | some o=>bif HM C o.op then Gx C ops r else some i
  | none=>Gx C ops r
theorem Kv{C:VT}{ops:Array Oper}:∀{l:List Nat} {i:Nat},Gx C ops l=some i->i∈l/\∃o,ops[i]? = some o/\HM C o.op=false
 | [],_,h=>by cases h
 | j::r,i,h=>by
  simp only[Gx] at h
  split at h
  ·rename_i o ho
   cases he:HM C o.op with
   | true=>
    rw[he] at h;obtain⟨h1,h2⟩:=Kv h;exact⟨I2 _ h1,h2⟩
   | false=>
    rw[he] at h;simp only[cond_false,I1] at h;subst h;exact⟨Ia ..,o,ho,he⟩
  ·obtain⟨h1,h2⟩:=Kv h;exact⟨I2 _ h1,h2⟩
def EW(M:List Nat)(i:Nat)(S:St)(w:Wo):List (Nat×CG)->Prop->Prop
 | [],A=>A
 | (j,f)::r,A=>bif zc9 M j i then f S w/\EW M i S w r A else EW M i S w r A
theorem MH{M:List Nat}{i:Nat}{S:St}{w:Wo}:∀{l:List (Nat×CG)} {A:Prop},EW M i S w l A->A/\∀p∈l,zc9 M p.1 i=true->p.2 S w
 | [],A,h=>⟨h,fun p hp=>by cases hp⟩
 | (j,f)::r,A,h=>by
  simp only[EW] at h
  cases hu:zc9 M j i with
  | true=>
   rw[hu] at h;obtain⟨h1,h2⟩:=h;obtain⟨h3,h4⟩:=MH h2;refine⟨h3,fun p hp hpu=>?_⟩;rcases Ij.1 hp with rfl | hp
   ·exact h1
   ·exact h4 p hp hpu
  | false=>
   rw[hu] at h;obtain⟨h3,h4⟩:=MH (A:=A) h;refine⟨h3,fun p hp hpu=>?_⟩;rcases Ij.1 hp with rfl | hp
   ·rw[hu] at hpu; cases hpu
   ·exact h4 p hp hpu
def zio(l:List Nat)(A:Nat->Prop):Prop:=
 match l with
 | []=>True
 | [i]=>A i
 | i::r=>A i/\zio r A
theorem A9:∀{l:List Nat} {A:Nat->Prop},zio l A->∀i∈l,A i
 | [],_,_,_,hi=>by cases hi
 | [j],A,h,i,hi=>by simp only[IA] at hi; subst hi; exact h
 | j::k::r,A,h,i,hi=>by
  rcases Ij.1 hi with rfl | hi
  ·exact h.1
  ·exact A9 h.2 i hi
def zlf(i:Nat)(f:Ph)(uM:List (Nat×CG)):List (Nat×CG):=
 match f with
 | some f=>(i,f)::uM
 | none=>uM
def Gw(C:VT)(ops:Array Oper)(M:List Nat):Nat->Array Bool->List (Nat×CG)->St->Wo->(St->Wo->Prop)->Prop
 | 0,Rk,_,S,w,K=>match Region.ready .any ops Rk with
  | []=>K S w
  | _=>False
 | n+1,Rk,uM,S,w,K=>match Region.ready .any ops Rk with
  | []=>K S w
  | rs=>match Gx C ops rs with
   | some i=>match ops[i]? with
    | some o=>bif Region.free .any ops Rk i then Ac C ops (fun j=>Rk.getD j false) o S w fun f S' w'=>Gw C ops M n (Rk.setIfInBounds i true) (zlf i f uM) S' w' K else False
    | none=>False
   | none=>zio rs fun i=>match ops[i]? with
    | some o=>Ac C ops (fun j=>Rk.getD j false) o S w fun _ S' w'=>EW M i S' w' uM (Gw C ops M n (Rk.setIfInBounds i true) uM S' w' K)
    | none=>False
theorem zis{C:VT}(E:zn2 C){ops:Array Oper}{D D':Nat->Prop}{dn:Nat->Bool}{i:Nat}{o:Oper}{S:St}{w:Wo}{a:Act}{K:Ph->St->Wo->Prop}(hu:Dv ops=true)(ho:ops[i]? = some o)(hi:¬D i)(hD:∀j,D j->zn0 ops j)(hDD:∀j,D j->D' j)(hdn:∀j,dn j=true->zn0 ops j->D j)(hf:Pr C.n S ops D a)(WR:Kj S)(he:HM C o.op=false)(h:Ac C ops dn o S w K) :
  ∃f v S',K f S' w/\Pr C.n S' ops D' (a.put o.dst v)/\Kj S'/\Ps S S'/\S'.r=S.r/\S'.old=S.old/\(∀w wr,Zk S w wr↔Zk S' w wr)/\YS C.P (Zk S w) (U3 ops o a) v/\
   (∀(tF:St) (kG:Wo),Ps S tF->ziz f tF kG->YS C.P (Zk tF kG) (U3 ops o a) v):=by
 unfold Ac at h
 cases hb:(zuz dn o && !Gk o) with
 | false=>rw[hb] at h; exact h.elim
 | true=>
  rw[hb] at h;simp only[cond_true] at h;simp only[A',IC] at hb
  have hg:∀j b,o.guard=some (j,b)->D j:=fun j b hgd=>by
   refine hdn j ?_ ⟨o,by rw[Array.mem_toList_iff]; exact Array.mem_of_getElem? ho,b,hgd⟩;have:=hb.1;unfold zuz at this;rw[hgd] at this;exact this
  split at h
  ·exact h.elim
  ·rename_i pc nX;have AO9:=zjc hf nX hg;have oD:=KP hf.fit nX
   have uI:∀{sv:SV} (w wr:Wo),Zk S w wr↔Zk (S.bQ o.dst sv) w wr:=fun {sv} w wr=>by
    cases o.dst
    ·exact Iff.rfl
    ·exact⟨fun h=>⟨h.ext,h.loc,h.len,h.nE,h.fresh⟩,fun h=>⟨h.ext,h.loc,h.len,h.nE,h.fresh⟩⟩
   cases hdd:E2 S ops pc o with
   | true=>
    rw[hdd] at h;simp only[cond_true] at h;have hp:=Gm hf.fit nX hdd;have vE:¬Region.wanted o (yielded ops a.tmps)=true:=fun vE=>hp (oD.1 vE)
    obtain⟨h1,h2⟩:=Yf h;have hs:U3 ops o a=none:=by unfold U3; rw[C' vE]
    refine⟨none,undef,_,h1,hf.put hu ho hi hD hDD AO9 h2 ⟨fun hp'=>Is hp' hp,fun _=>rfl⟩,WR.bQ _ _,(Ps.refl S).bQ _ _,by cases o.dst <;> rfl,by cases o.dst <;> rfl,uI,?_,fun tF kG zN hfc=>?_⟩ <;> (rw[hs]; rfl)
   | false=>
   rw[hdd] at h;rw[he] at h;simp only[cond_false] at h
   by_cases hp:GQ ops a pc
   ·have vE:=oD.2 hp;obtain⟨e,fact,v,hK,CE5,kF,hq⟩:=zb4 E.T E.pf hf.fit hp h;obtain⟨h1,h2⟩:=Yf hK;refine⟨fact,v,_,h1,hf.put hu ho hi hD hDD AO9 h2 ⟨fun _=>CE5,fun hn=>Is hp hn⟩,WR.bQ _ _,(Ps.refl S).bQ _ _,by cases o.dst <;> rfl,by cases o.dst <;> rfl,uI,?_,fun tF kG zN hfc=>?_⟩
    ·unfold U3; rw[E' vE]; exact fun wr hw=>hq S w a rfl (fun _ _ h=>h) kF wr hw
    ·unfold U3; rw[E' vE]; exact fun wr hw=>hq tF kG a rfl zN.B hfc wr hw
   ·have vE:¬Region.wanted o (yielded ops a.tmps)=true:=fun vE=>hp (oD.1 vE)
    obtain⟨e,fact,hK⟩:=zgb h;obtain⟨h1,h2⟩:=Yf hK;have hs:U3 ops o a=none:=by unfold U3; rw[C' vE]
    refine⟨fact,undef,_,h1,hf.put hu ho hi hD hDD AO9 h2 ⟨fun hp'=>Is hp' hp,fun _=>rfl⟩,WR.bQ _ _,(Ps.refl S).bQ _ _,by cases o.dst <;> rfl,by cases o.dst <;> rfl,uI,?_,fun tF kG zN hfc=>?_⟩ <;> (rw[hs]; rfl)
def zo2(C:VT)(ops:Array Oper)(draw:Bool)(S:St)(w:Wo)(K:St->Wo->Prop):Prop:=
 bif Dv ops then
  (bif draw then
   (bif Region.noSelect ops then Gw C ops (Vc ops.toList []) ops.size (Array.replicate ops.size false) [] { S with r:=S.r+1 } w fun S' w'=>K { S' with r:=S'.r+1 } w' else False)
  else zo3 C ops ops.toList 0 { S with r:=S.r+1 } w fun S' w'=>K { S' with r:=S'.r+1 } w')
 else False
structure TX (n:Nat) (S:St) (a:Act):Prop where
 size:a.tmps.size=n
 fits:∀i x,S.F.get i=some (.un x)->EV.den S x (a.tmps.getD i undef)
 old:∀i r pc x,S.F.get i=some (.gd r pc x)->r<S.r
theorem TX.enter{n:Nat}{S:St}{a:Act}(h:TX n S a)(ops:Array Oper)(D:Nat->Prop):Pr n { S with r:=S.r+1 } ops D a:=
 ⟨⟨h.size,fun i s hs=>by
  cases s with
  | un x=>exact EV.gF (S:=S) (fun _ _ h=>h) (h.fits i x hs)
  | gd r pc x=>intro hr; have:=h.old i r pc x hs; simp only at hr; omega⟩,fun i pc x hx=>by have:=h.old i _ pc x hx; simp only at this; omega,fun i r pc x hx=>by have:=h.old i r pc x hx; show r<=S.r+1; omega⟩
theorem Pr.leave{n:Nat}{S:St}{ops:Array Oper}{D:Nat->Prop}{a:Act}(h:Pr n S ops D a):TX n { S with r:=S.r+1 } a:=
 ⟨h.fit.size,fun i x hx=>EV.gF (S:=S) (fun _ _ h=>h) (h.fit.fits i (.un x) hx),fun i r pc x hx=>Nat.lt_succ_of_le (h.st i r pc x hx)⟩
theorem zmo{C:VT}{ops:Array Oper}{D D':Nat->Prop}{dn:Nat->Bool}{i:Nat}{o:Oper}{S:St}{w:Wo}{a:Act}{K:Ph->St->Wo->Prop}(hu:Dv ops=true)(ho:ops[i]? = some o)(hi:¬D i)(hD:∀j,D j->zn0 ops j)(hDD:∀j,D j->D' j)(hdn:∀j,dn j=true->zn0 ops j->D j)(hf:Pr C.n S ops D a)(WR:Kj S)(he:HM C o.op=true)(vE:¬Region.wanted o (yielded ops a.tmps)=true)(h:Ac C ops dn o S w K) :
  ∃S',K none S' w/\Pr C.n S' ops D' (a.put o.dst undef)/\Kj S'/\Ps S S'/\S'.r=S.r/\S'.old=S.old/\(∀w wr,Zk S w wr↔Zk S' w wr):=by
 unfold Ac at h
 cases hb:(zuz dn o && !Gk o) with
 | false=>rw[hb] at h; exact h.elim
 | true=>
  rw[hb] at h;simp only[cond_true] at h;simp only[A',IC] at hb
  have hg:∀j b,o.guard=some (j,b)->D j:=fun j b hgd=>by
   refine hdn j ?_ ⟨o,by rw[Array.mem_toList_iff]; exact Array.mem_of_getElem? ho,b,hgd⟩;have:=hb.1;unfold zuz at this;rw[hgd] at this;exact this
  split at h
  ·exact h.elim
  ·rename_i pc nX;have AO9:=zjc hf nX hg;have oD:=KP hf.fit nX
   have uI:∀{sv:SV} (w wr:Wo),Zk S w wr↔Zk (S.bQ o.dst sv) w wr:=fun {sv} w wr=>by
    cases o.dst
    ·exact Iff.rfl
    ·exact⟨fun h=>⟨h.ext,h.loc,h.len,h.nE,h.fresh⟩,fun h=>⟨h.ext,h.loc,h.len,h.nE,h.fresh⟩⟩
   cases hdd:E2 S ops pc o with
   | true=>
    rw[hdd] at h;simp only[cond_true] at h;have hp:=Gm hf.fit nX hdd;obtain⟨h1,h2⟩:=Yf h;exact⟨_,h1,hf.put hu ho hi hD hDD AO9 h2 ⟨fun hp'=>Is hp' hp,fun _=>rfl⟩,WR.bQ _ _,(Ps.refl S).bQ _ _,by cases o.dst <;> rfl,by cases o.dst <;> rfl,uI⟩
   | false=>
   rw[hdd] at h;simp only[cond_false] at h;rw[he] at h;simp only[cond_true] at h
   split at h
   ·exact Is (oD.2 (fun p hp=>by cases hp)) vE
   ·cases hpo:znf S ops pc with
    | false=>rw[hpo] at h; exact h.elim
    | true=>
     rw[hpo] at h;simp only[cond_true] at h;have hp:¬GQ ops a pc:=fun hp=>vE (oD.2 hp)
     obtain⟨h1,h2⟩:=Yf (h.2 (zeg hf.fit hpo hp));exact⟨_,h1,hf.put hu ho hi hD hDD AO9 h2 ⟨fun hp'=>Is hp' hp,fun _=>rfl⟩,WR.bQ _ _,(Ps.refl S).bQ _ _,by cases o.dst <;> rfl,by cases o.dst <;> rfl,uI⟩
theorem Ku{C:VT}{ops:Array Oper}:∀{l:List Nat},Gx C ops l=none->∀i∈l,∀o,ops[i]? = some o->HM C o.op=true
 | [],_,i,hi,_,_=>by cases hi
 | j::r,h,i,hi,o,ho=>by
  simp only[Gx] at h
  split at h
  ·rename_i o' ho'
   cases he:HM C o'.op with
   | false=>rw[he] at h; cases h
   | true=>
    rw[he] at h;rcases Ij.1 hi with rfl | hi
    ·rw[ho'] at ho; cases ho; exact he
    ·exact Ku h i hi o ho
  ·rename_i ho';rcases Ij.1 hi with rfl | hi
   ·rw[ho'] at ho; cases ho
   ·exact Ku h i hi o ho
theorem zd6{ops:Array Oper}{i:Nat}{o:Oper}(ho:ops[i]? = some o):∀x,o.dst=some x->x∈Ks ops.toList:=fun x hx=>by
 have hm:o∈ops.toList:=by rw[Array.mem_toList_iff]; exact Array.mem_of_getElem? ho
 generalize ops.toList=q at hm
 induction q with
 | nil=>cases hm
 | cons y q ih=>
  simp only[Ks];rcases Ij.1 hm with rfl | hm
  ·rw[hx]; exact Ia ..
  ·split
   ·exact I2 _ (ih hm)
   ·exact ih hm
def DL(ops:Array Oper)(Rk:Array Bool)(j:Nat):Prop:=Rk.getD j false=true/\zn0 ops j
def PQ(C:VT)(ops:Array Oper)(K:St->Wo->Prop)(S0:St)(w0:Wo)(a0:Act)(ds:List Nat)(a:Act)(R:Wo->Prop):Prop:=
 ∃S' w',K S' w'/\TX C.n { S' with r:=S'.r+1 } a/\Kj S'/\Ps S0 S'/\S'.r=S0.r/\G6 ds a0 a/\(C.pm=true->w'=w0/\S'.old=S0.old)/\R=Zk S' w'
theorem On{C:VT}(E:zn2 C){ops:Array Oper}(hu:Dv ops=true)(BN4:Region.noSelect ops=true){K:St->Wo->Prop}{S0:St}{w0:Wo}{a0:Act}{ds:List Nat}(hds:∀x∈Ks ops.toList,x∈ds) :
  ∀(n:Nat) (Rk:Array Bool) (uM:List (Nat×CG)) (Pd:List (Nat×Option (Sem Next)×Va)) (S:St) (w:Wo) (a:Act),Gw C ops (Vc ops.toList []) n Rk uM S w K->G4 ops Rk->
   Pr C.n S ops (DL ops Rk) a->Kj S->Ps S0 S->S.r=S0.r->G6 ds a0 a->(C.pm=true->w=w0/\S.old=S0.old)->
   (∀p∈Pd,(∃f:CG,(p.1,f)∈uM/\∀(tF:St) (kG:Wo),Ps S tF->f tF kG->YS C.P (Zk tF kG) p.2.1 p.2.2)\/(∀(tF:St) (kG:Wo),Ps S tF->YS C.P (Zk tF kG) p.2.1 p.2.2))->
   L6 C.P ops (zc9 (Vc ops.toList [])) (PQ C ops K S0 w0 a0 ds) n Rk Pd a (Zk S w)
 | 0,Rk,uM,Pd,S,w,a,h,qW,hf,WR,zN,hr,hfa,jR,hpd=>by
  simp only[Gw] at h
  split at h
  ·rename_i hrd;exact⟨hrd,S,w,h,hf.leave,WR,zN,hr,hfa,jR,rfl⟩
  ·exact h.elim
 | n+1,Rk,uM,Pd,S,w,a,h,qW,hf,WR,zN,hr,hfa,jR,hpd=>by
  simp only[Gw] at h
  split at h
  ·rename_i hrd;exact⟨fun _=>⟨S,w,h,hf.leave,WR,zN,hr,hfa,jR,rfl⟩,fun i hi=>by rw[hrd] at hi; cases hi⟩
  ·rename_i hrd
   split at h
   ·rename_i i hi;obtain⟨him,o',ho',he⟩:=Kv hi
    split at h
    ·rename_i o ho;rw[ho] at ho'; cases ho'
     cases sI:Region.free .any ops Rk i with
     | false=>rw[sI] at h; exact h.elim
     | true=>
      rw[sI] at h;simp only[cond_true] at h;obtain⟨hun,_,_,vB⟩:=mem_ready.1 him
      have hni:¬DL ops Rk i:=fun hd=>by
       have h1:=hd.1;rcases Nat.lt_or_ge i Rk.size with h' | h'
       ·simp[h'] at h1 hun; rw[h1] at hun; cases hun
       ·simp[Array.getElem?_eq_none h'] at h1
      obtain⟨f,v,S',hK,hf',A31,pZ,hr',Br2,uI,hys,hyf⟩:=zis E (i:=i) (D':=DL ops (Rk.setIfInBounds i true)) hu ho hni (fun j hj=>hj.2) (fun j hj=>⟨getD_set_true hj.1,hj.2⟩) (fun j h1 h2=>⟨h1,h2⟩) hf WR he h
      have BM4:G4 ops (Rk.setIfInBounds i true):=fun k ok hk rP e he hb=>by
       by_cases hik:i=k
       ·subst hik;rw[ho] at hk; cases hk;obtain⟨_,o2,ho2,CQ8⟩:=mem_ready.1 him;rw[ho] at ho2; cases ho2;exact getD_set_true (CQ8 e he hb)
       ·rw[getD_set_ne true hik] at rP;exact getD_set_true (qW k ok hk rP e he hb)
      have heq:Zk S w=Zk S' w:=funext fun wr=>propext (uI w wr)
      refine zj0 (fun j o cs b hj=>Region.noSelect_spec BN4 j o cs b hj) (fun Rk i j h1 h2 h3 h4=>zh1 Rk i j h1 h2 h3 h4) ho n Rk Pd a (Zk S w) qW (fun j oj hj hji B17 i'=>Region.free_spec ho sI j oj hj hji B17 i') him hys ?_;rw[heq];refine On E hu BN4 hds n _ (zlf i f uM) _ S' w _ hK BM4 hf' A31 (zN.trans pZ) (hr'.trans hr) (hfa.trans (G6.put a _ v ds fun x hx=>hds x (zd6 ho x hx))) (fun hp=>⟨(jR hp).1,Br2.trans (jR hp).2⟩) fun p hp=>?_
      rcases Ij.1 hp with rfl | hp
      ·cases f with
       | none=>exact .inr fun tF kG hs=>hyf tF kG (pZ.trans hs) trivial
       | some f=>exact .inl ⟨f,Ia ..,fun tF kG hs hfc=>hyf tF kG (pZ.trans hs) hfc⟩
      ·rcases hpd p hp with ⟨f',hm,hs'⟩ | hs'
       ·refine .inl ⟨f',?_,fun tF kG hs hfc=>hs' tF kG (pZ.trans hs) hfc⟩
        cases f with
        | none=>exact hm
        | some f=>exact I2 _ hm
       ·exact .inr fun tF kG hs=>hs' tF kG (pZ.trans hs)
    ·exact h.elim
   ·rename_i AO8;refine⟨fun h0=>Is h0 (by assumption),fun i hi o ho=>?_⟩;have h1:=A9 h i hi;rw[ho] at h1;simp only at h1;have he:=Ku AO8 i hi o ho;obtain⟨hun,o2,ho2,vB⟩:=mem_ready.1 hi;rw[ho] at ho2; cases ho2
    have hni:¬DL ops Rk i:=fun hd=>by
     have h1:=hd.1;rcases Nat.lt_or_ge i Rk.size with h' | h'
     ·simp[h'] at h1 hun; rw[h1] at hun; cases hun
     ·simp[Array.getElem?_eq_none h'] at h1
    have BM4:G4 ops (Rk.setIfInBounds i true):=fun k ok hk rP e he hb=>by
     by_cases hik:i=k
     ·subst hik;rw[ho] at hk; cases hk;exact getD_set_true (vB e he hb)
     ·rw[getD_set_ne true hik] at rP;exact getD_set_true (qW k ok hk rP e he hb)
    by_cases vE:Region.wanted o (yielded ops a.tmps)=true
    case neg=>
     obtain⟨S',hK,hf',A31,pZ,hr',Br2,uI⟩:=zmo (i:=i) (D':=DL ops (Rk.setIfInBounds i true)) hu ho hni (fun j hj=>hj.2) (fun j hj=>⟨getD_set_true hj.1,hj.2⟩) (fun j h1 h2=>⟨h1,h2⟩) hf WR he vE h1;obtain⟨hev,_⟩:=MH hK;have heq:Zk S w=Zk S' w:=funext fun wr=>propext (uI w wr)
     have hs0:U3 ops o a=none:=by unfold U3; rw[C' vE]
     refine .inl ⟨undef,by rw[hs0]; rfl,?_⟩;rw[heq];refine On E hu BN4 hds n _ uM _ S' w _ hev BM4 hf' A31 (zN.trans pZ) (hr'.trans hr) (hfa.trans (G6.put a _ _ ds fun x hx=>hds x (zd6 ho x hx))) (fun hp=>⟨(jR hp).1,Br2.trans (jR hp).2⟩) fun p hp=>?_
     rcases Ij.1 hp with rfl | hp
     ·exact .inr fun tF kG hs=>by rw[hs0]; rfl
     ·rcases hpd p hp with ⟨f',hm,hs'⟩ | hs'
      ·exact .inl ⟨f',hm,fun tF kG hs hfc=>hs' tF kG (pZ.trans hs) hfc⟩
      ·exact .inr fun tF kG hs=>hs' tF kG (pZ.trans hs)
    refine .inr ⟨vE,fun wr uJ=>?_⟩
    have gW:=Ad E (i:=i) (D':=DL ops (Rk.setIfInBounds i true))
     (N:=fun a' w'=>(∃v,a'=a.put o.dst v)/\∃S' kG,EW (Vc ops.toList []) i S' kG uM (Gw C ops (Vc ops.toList []) n (Rk.setIfInBounds i true) uM S' kG K)/\ztw C S w ops (DL ops (Rk.setIfInBounds i true)) o a S' kG a' w') (Q:=fun _ _ _=>False)
     hu ho hni (fun j hj=>hj.2) (fun j hj=>⟨getD_set_true hj.1,hj.2⟩) (fun j h1 h2=>⟨h1,h2⟩) hf uJ WR (fun f S' w' a' WX hK hL=>⟨hL.put,S',w',hK,hL⟩) h1
    rw[E' vE] at gW;refine Ec (fun v w' hN=>?_) (ziq (zr6 h1) gW fun a' w' hN=>hN.1);obtain⟨_,S',kG,hpo,hL⟩:=hN;obtain⟨hev,CE9⟩:=MH hpo;refine⟨Zk S' kG,hL.rel,fun p hp hpu=>?_,On E hu BN4 hds n _ uM Pd S' kG _ hev BM4 hL.fit hL.wf (zN.trans hL.fr) (hL.r.trans hr) (hfa.trans (G6.put a o.dst v ds fun x hx=>hds x (zd6 ho x hx))) (fun hp=>⟨(hL.pm hp).1.trans (jR hp).1,(hL.pm hp).2.trans (jR hp).2⟩) fun p hp=>?_⟩
    ·rcases hpd p hp with ⟨f',hm,hs'⟩ | hs'
     ·exact hs' S' kG hL.fr (CE9 _ hm hpu)
     ·exact hs' S' kG hL.fr
    ·rcases hpd p hp with ⟨f',hm,hs'⟩ | hs'
     ·exact .inl ⟨f',hm,fun tF w3 hs hfc=>hs' tF w3 (hL.fr.trans hs) hfc⟩
     ·exact .inr fun tF w3 hs=>hs' tF w3 (hL.fr.trans hs)
structure X3 where
 uB:List (Nat×CK)
 Ws:List (Nat×List CK)
 A95:List Nat
 aM:List (TypeId×List CK):=[]
 ptr:List (Nat×Nat):=[]
def Jk:Code->List Nat
 | .region _ ops _=>Ks ops.toList
 | .seq a b=>Jk a++Jk b
 | .cond _ a b=>Jk a++Jk b
 | .block _ b=>Jk b
 | .loop b=>Jk b
 | .scope b=>Jk b
 | _=>[]
def HW:Code->Option Nat
 | .region id _ _=>some id
 | .seq a b=>match HW a with
  | some k=>some k
  | none=>HW b
 | .cond _ a b=>match HW a with
  | some k=>some k
  | none=>HW b
 | .block _ b=>HW b
 | .loop b=>HW b
 | .scope b=>HW b
 | _=>none
def zi5:CK->Va->Bool
 | .int k,.int k' _=>decide (k=k')
 | .bool,.bool _=>true
 | .str,.string _=>true
 | .slice,.slice _ _ _=>true
 | .ptr,.pointer _=>true
 | .fn,.func _ _ _=>true
 | .iface,_=>true
 | .map,_=>true
 | .other,_=>true
 | _,_=>false
def zwd:CK->(Va->Prop)->Prop
 | .int k,K=>∀n:Int,K (.int k n)
 | .bool,K=>∀b:Bool,K (.bool b)
 | .str,K=>∀s:ByteArray,K (.string s)
 | .slice,K=>∀(o:OA) (l c:Nat),K (.slice o l c)
 | .ptr,K=>∀o:OA,K (.pointer o)
 | .fn,K=>∀(f:Fn) (a c:Array Va),K (.func f a c)
 | _,K=>∀v:Va,K v
def Hs:List CK->(List Va->Prop)->Prop
 | [],K=>K []
 | k::r,K=>zwd k fun v=>Hs r fun l=>K (v::l)
theorem zn8{k:CK}{K:Va->Prop}(h:zwd k K){v:Va}(hv:zi5 k v=true):K v:=by
 cases k <;> cases v <;> simp only[zi5] at hv <;> first
  | exact h _
  | exact h _ _ _
  | (cases hv; done)
  | (simp only[Ik] at hv; subst hv; exact h _)
def Jt:List CK->List Va->Bool
 | [],[]=>true
 | k::r,v::l=>zi5 k v&&Jt r l
 | _,_=>false
theorem VW:∀{ks:List CK} {K:List Va->Prop} {vs:List Va},Hs ks K->Jt ks vs=true->K vs
 | [],_,[],h,_=>h
 | k::r,K,v::l,h,hk=>by
  simp only[Jt,A'] at hk;exact VW (K:=fun l=>K (v::l)) (zn8 (K:=fun v=>Hs r fun l=>K (v::l)) h hk.1) hk.2
 | [],_,_::_,_,hk=>by simp[Jt] at hk
 | _::_,_,[],_,hk=>by simp[Jt] at hk
def L2(S:St):List (Nat×CK)->Option (List Va)
 | []=>some []
 | (i,_)::r=>match S.F.get i with
  | some (.un e)=>match zty S e,L2 S r with
   | some x,some l=>some (x::l)
   | _,_=>none
  | _=>none
def Mg(S:St):List (Nat×List CK)->Option (List Va)
 | []=>some []
 | (id,ks)::r=>match S.L[id]?,Mg S r with
  | some (_,cs),some l=>bif Nat.beq cs.length ks.length then some (cs++l) else none
  | _,_=>none
def X3.ks(sp:X3):List CK:=sp.uB.map (·.2)++sp.Ws.flatMap (·.2)
def Ao(S:St)(sp:X3)(K:List Va->Prop):Prop:=
 match L2 S sp.uB,Mg S sp.Ws with
 | some xs,some ys=>bif Jt sp.ks (xs++ys) then K (xs++ys) else False
 | _,_=>False
def zca(F:PT SV):List Nat->PT SV
 | []=>.leaf
 | i::r=>match F.get i with
  | some (.un e)=>PT.set 12 (zca F r) i (.un e)
  | _=>zca F r
def zlq(F:PT SV):List (Nat×CK)->List Va->PT SV
 | (i,_)::r,v::vs=>PT.set 12 (zlq F r vs) i (.un (.v v))
 | _,_=>F
def Ul(L:List (TypeId×List Va)):List (Nat×List CK)->List Va->List (TypeId×List Va)
 | [],_=>L
 | (id,ks)::r,vs=>match L[id]? with
  | some (t,_)=>Ul (L.set id (t,vs.take ks.length)) r (vs.drop ks.length)
  | none=>Ul L r (vs.drop ks.length)
def G1(S:St)(sp:X3):List Nat:=(List.range S.L.length).filter fun id => !PG (sp.Ws.map (·.1)) id
def Ye(S:St)(sp:X3)(vs:List Va):St:=
 { S with F:=zlq (zca S.F sp.A95) sp.uB (vs.take sp.uB.length),L:=Ul S.L sp.Ws (vs.drop sp.uB.length),lk:=G1 S sp }
def AS:List Nat->Bool
 | []=>true
 | x::r => !PG r x&&AS r
def znp(S:St)(sp:X3)(ds:List Nat):Bool:=
 (sp.A95.all fun i => !PG ds i&&Nat.blt i 4000)&&(sp.uB.all fun p=>Nat.blt p.1 4000 && !PG sp.A95 p.1)&&AS (sp.uB.map (·.1))&&AS (sp.Ws.map (·.1))&&(sp.Ws.all fun p=>match S.L[p.1]? with
  | some (_,cs)=>Nat.beq cs.length p.2.length && !PG S.lk p.1
  | none=>false)
def X3.nks(sp:X3):List CK:=sp.aM.flatMap (·.2)
def zkc:Nat->(List Nat->Prop)->Prop
 | 0,K=>K []
 | n+1,K=>∀b:Nat,zkc n fun l=>K (b::l)
theorem DY:∀{n:Nat} {K:List Nat->Prop} {bs:List Nat},zkc n K->bs.length=n->K bs
 | 0,_,[],h,_=>h
 | n+1,K,b::l,h,hl=>DY (K:=fun l=>K (b::l)) (h b) (by simpa using hl)
 | 0,_,_::_,_,hl=>by simp at hl
 | _+1,_,[],_,hl=>by simp at hl
def KL:List (TypeId×List CK)->List Va->List (TypeId×List Va)
 | [],_=>[]
 | (t,ks)::r,vs=>(t,vs.take ks.length)::KL r (vs.drop ks.length)
def zci(S:St):Nat->List (TypeId×List CK)->Option (List Va)
 | _,[]=>some []
 | n,(t,ks)::r=>match S.L[n]?,zci S (n+1) r with
  | some (t',cs),some l=>bif Nat.beq t' t&&Nat.beq cs.length ks.length then some (cs++l) else none
  | _,_=>none
def zcq(S:St)(n k:Nat)(l:List (Nat×Nat)):Bool:=l.all fun p=>Nat.blt p.1 4000&&Nat.blt p.2 k&&match S.F.get p.1 with
 | some (.un (.loc id 0))=>Nat.beq id (n+p.2)
 | _=>false
def zlp(F:PT SV)(n:Nat):List (Nat×Nat)->PT SV
 | []=>F
 | (i,j)::r=>PT.set 12 (zlp F n r) i (.un (.loc (n+j) 0))
def LV(S:St)(sp:X3)(vs zs:List Va)(bs:List Nat):St:=
 { F:=zlp (Ye S sp vs).F S.L.length sp.ptr,L:=(Ye S sp vs).L++KL sp.aM zs,B:=S.B++bs,old:=S.old,lk:=S.lk,r:=S.r }
def zky(S S':St)(sp:X3)(K:List Va->List Nat->Prop):Prop:=
 match zci S' S.L.length sp.aM with
 | some zs=>bif Jt sp.nks zs&&zcq S' S.L.length sp.aM.length sp.ptr then Ao S' sp fun vs=>K (vs++zs) ((S'.B.drop S.B.length).take sp.aM.length) else False
 | none=>False
def zwl(sps:List (Nat×X3))(b:Code):Option X3:=match sps with
 | []=>none
 | _=>match HW b with
  | some k=>zih sps (k+1000000)
  | none=>none
def rI(S:St)(c:Operand)(x:Bool):St:=
 match c with
 | .tmp t=>bif Nat.blt t 4000 then { S with F:=PT.set 12 S.F t (.un (.kb x)) } else S
 | _=>S
def zed(C:VT)(sps:List (Nat×X3)):Code->St->Wo->(Exit->St->Wo->Prop)->Prop
 | .skip,S,w,K=>K .normal S w
 | .label _,S,w,K=>K .normal S w
 | .region _ ops d,S,w,K=>zo2 C ops d S w (K .normal)
 | .seq a b,S,w,K=>match zwl sps b with
  | none=>zed C sps a S w fun e S' w'=>match e with
   | .normal=>zed C sps b S' w' K
   | e=>K e S' w'
  | some sp=>bif znp S sp (Jk a) then
    bif C.pm then
     ∃kD:List Va->List Nat->Prop,(zed C sps a { S with lk:=G1 S sp } w fun e S' w'=>match e with
       | .normal=>zky S S' sp kD
       | e=>K e { S' with lk:=S.lk } w')/\
      Hs sp.ks fun vs=>Hs sp.nks fun zs=>zkc sp.aM.length fun bs=>kD (vs++zs) bs->zed C sps b (LV S sp vs zs bs) w K
    else
     ∃kD:List Va->List Nat->Wo->Prop,(zed C sps a { S with lk:=G1 S sp } w fun e S' w'=>match e with
       | .normal=>∀wr,Q0 S'.bs w' wr->(∀b∈S'.B,b<wr.heap.size)->zky S S' sp fun vs bs=>kD vs bs wr
       | e=>K e { S' with lk:=S.lk } w')/\
      Hs sp.ks fun vs=>Hs sp.nks fun zs=>zkc sp.aM.length fun bs=>∀w1,(∀b∈S.B++bs,b<w1.heap.size)->kD (vs++zs) bs w1->zed C sps b (LV S sp vs zs bs).bT w1 K
   else False
 | .cond c a b,S,w,K=>match CD S [] c with
  | some (.kb true)=>zed C sps a S w K
  | some (.kb false)=>zed C sps b S w K
  | some (.v (.bool x))=>(x=true->zed C sps a (rI S c true) w K)/\(x=false->zed C sps b (rI S c false) w K)
  | _=>False
 | .block id b,S,w,K=>zed C sps b S w fun e S' w'=>match e with
  | .exit id'=>bif Nat.beq id' id then K .normal S' w' else K e S' w'
  | e=>K e S' w'
 | .scope b,S,w,K=>zed C sps b S w fun e S' w'=>match e with
  | .goto _=>False
  | e=>K e S' w'
 | .exit id,S,w,K=>K (.exit id) S w
 | .ret,S,w,K=>K .ret S w
 | .loop b,S,w,K=>match HW b with
  | none=>False
  | some key=>match zih sps key with
   | none=>False
   | some sp=>bif znp S sp (Jk b) then
     bif C.pm then
      ∃(J0:List Va->Prop) (μ:List Va->Nat),Ao S sp J0/\Hs sp.ks fun vs=>J0 vs->zed C sps b (Ye S sp vs) w fun e S' w'=>match e with
       | .normal=>Ao S' sp fun vs'=>J0 vs'/\μ vs'<μ vs
       | e=>K e { S' with lk:=S.lk } w'
     else
      ∃(J0:List Va->Wo->Prop) (μ:List Va->Wo->Nat),(∀wr,Q0 S.bs w wr->(∀b∈S.B,b<wr.heap.size)->Ao S sp fun vs=>J0 vs wr)/\
       Hs sp.ks fun vs=>∀w1,(∀b∈S.B,b<w1.heap.size)->J0 vs w1->zed C sps b (Ye S.bT sp vs) w1 fun e S' w'=>match e with
       | .normal=>∀wr,Q0 S'.bs w' wr->(∀b∈S'.B,b<wr.heap.size)->Ao S' sp fun vs'=>J0 vs' wr/\μ vs' wr<μ vs w1
       | e=>K e { S' with lk:=S.lk } w'
    else False
 | _,_,_,_=>False
structure Mm (C:VT) (S:St) (w:Wo) (ds:List Nat) (a:Act) (S':St) (w':Wo) (a':Act) (WX:Wo):Prop where
 fit:TX C.n S' a'
 rel:Zk S' w' WX
 wf:Kj S'
 fr:Ps S S'
 fra:G6 ds a a'
 pm:C.pm=true->w'=w/\S'.old=S.old
theorem Mm.refl{C:VT}{S:St}{w wr:Wo}{a:Act}(ds:List Nat)(h1:TX C.n S a)(h2:Zk S w wr)(h3:Kj S):Mm C S w ds a S w a wr:=⟨h1,h2,h3,Ps.refl S,G6.refl _ _,fun _=>⟨rfl,rfl⟩⟩
theorem Mm.trans{C:VT}{S S1 S2:St}{w w1 w2 R2 O':Wo}{ds es fs:List Nat}{a a1 a2:Act}(h:Mm C S w ds a S1 w1 a1 R2)(k:Mm C S1 w1 es a1 S2 w2 a2 O')(hd:∀x∈ds,x∈fs)(he:∀x∈es,x∈fs):Mm C S w fs a S2 w2 a2 O':=
 ⟨k.fit,k.rel,k.wf,h.fr.trans k.fr,(h.fra.mono hd).trans (k.fra.mono he),fun hp=>⟨(k.pm hp).1.trans (h.pm hp).1,(k.pm hp).2.trans (h.pm hp).2⟩⟩
theorem Mm.mono{C:VT}{S S1:St}{w w1 R2:Wo}{ds fs:List Nat}{a a1:Act}(h:Mm C S w ds a S1 w1 a1 R2)(hd:∀x∈ds,x∈fs):Mm C S w fs a S1 w1 a1 R2:=
 ⟨h.fit,h.rel,h.wf,h.fr,h.fra.mono hd,h.pm⟩
theorem zga{C:VT}(E:zn2 C){id:Nat}{ops:Array Oper}{d:Bool}{S:St}{w wr:Wo}{a:Act}{K:St->Wo->Prop}{Q:Exit->Act->Wo->Prop}(h:zo2 C ops d S w K)(hf:TX C.n S a)(hw:Zk S w wr)(WR:Kj S)(hQ:∀S' w' a' WX,K S' w'->Mm C S w (Ks ops.toList) a S' w' a' WX->Q .normal a' WX):(Code.region id ops d).wpIn (Gy C.rd) 0 C.P Q a wr:=by
 unfold zo2 at h
 cases hu:Dv ops with
 | false=>rw[hu] at h; exact h.elim
 | true=>
  rw[hu] at h;simp only[cond_true] at h;have uI:∀{S1:St} {w1 R2:Wo},Zk S1 w1 R2->Zk { S1 with r:=S1.r+1 } w1 R2:=fun h=>⟨h.ext,h.loc,h.len,h.nE,h.fresh⟩
  have CW0:Kj { S with r:=S.r+1 }:=⟨WR.old,WR.lk⟩
  cases d with
  | false=>
   simp only[cond_false] at h;refine wpIn_region_list ?_
   refine Ff E hu (S0:={ S with r:=S.r+1 }) (w0:=w) (a0:=a) (ds:=Ks ops.toList) (fun x hx=>hx) (fun S' w' a' WX hK hf' hw' A31 pZ hr' CE8 CG2=>?_) ops.toList 0 _ w wr a (fun j=>by simp) Qs h
    (hf.enter ops _) (uI hw) CW0 (Ps.refl _) rfl (G6.refl _ _) (fun _=>⟨rfl,rfl⟩)
   exact hQ _ _ _ _ hK ⟨hf'.leave,uI hw',⟨A31.old,A31.lk⟩,⟨pZ.B,pZ.ty,pZ.lk⟩,CE8,CG2⟩
  | true=>
   simp only[cond_true] at h
   cases hs:Region.noSelect ops with
   | false=>rw[hs] at h; exact h.elim
   | true=>
    rw[hs] at h;simp only[cond_true] at h
    have hp:=On E hu hs (S0:={ S with r:=S.r+1 }) (w0:=w) (a0:=a) (ds:=Ks ops.toList) (fun x hx=>hx) ops.size (Array.replicate ops.size false) [] [] _ w a h
     (fun j o _ hl=>by
      rcases Nat.lt_or_ge j ops.size with h' | h'
      ·simp[h'] at hl
      ·rename_i ho; rw[Array.getElem?_eq_none h'] at ho; cases ho)
     (hf.enter ops _) CW0 (Ps.refl _) rfl (G6.refl _ _) (fun _=>⟨rfl,rfl⟩) (fun p hp=>by cases hp)
    refine wpIn_region_any E.mixed (MK (fun a' R w' hPQ hR=>?_) ops.size _ [] a (Zk { S with r:=S.r+1 } w) { wr with drawn:=wr.drawn+1 } ?_ hp)
    ·obtain⟨S',w1,hK,hf',A31,pZ,hr',CE8,CG2,rfl⟩:=hPQ;exact hQ _ _ _ _ hK ⟨hf',uI hR,⟨A31.old,A31.lk⟩,⟨pZ.B,pZ.ty,pZ.lk⟩,CE8,CG2⟩
    ·exact⟨hw.ext.drawn _,hw.loc,hw.len,hw.nE,hw.fresh⟩
theorem Eu{F:PT SV}:∀{l:List Nat} {i:Nat} {sv:SV},(∀x∈l,x<4000)->(zca F l).get i=some sv->i∈l/\F.get i=some sv/\∃e,sv=.un e
 | [],i,sv,_,h=>by simp[zca,PT.get] at h
 | k::r,i,sv,hl,h=>by
  have hr:∀x∈r,x<4000:=fun x hx=>hl x (I2 _ hx)
  simp only[zca] at h
  split at h
  ·rename_i e he;rw[PT.mQ _ 12 _ _ _ (by have h1:=hl k (Ia ..); show @LT.lt Nat _ (k+1) (2 ^ 12); omega)] at h
   by_cases hk:k=i
   ·subst hk;rw[E' rfl] at h;simp only[I1] at h;subst h;exact⟨Ia ..,he,e,rfl⟩
   ·rw[C' hk] at h;obtain⟨h1,h2,h3⟩:=Eu hr h;exact⟨I2 _ h1,h2,h3⟩
  ·obtain⟨h1,h2,h3⟩:=Eu hr h;exact⟨I2 _ h1,h2,h3⟩
theorem zcy{F:PT SV}:∀{uB:List (Nat×CK)} {vs:List Va} {i:Nat} {sv:SV},(∀p∈uB,p.1<4000)->(zlq F uB vs).get i=some sv->
  (∃(j:Nat) (k:CK) (v:Va),uB[j]? = some (i,k)/\vs[j]? = some v/\sv=.un (.v v))\/F.get i=some sv
 | [],vs,i,sv,_,h=>.inr h
 | (a,k)::r,[],i,sv,_,h=>.inr h
 | (a,k)::r,v::vs,i,sv,hl,h=>by
  have hr:∀p∈r,p.1<4000:=fun x hx=>hl x (I2 _ hx)
  simp only[zlq] at h;rw[PT.mQ _ 12 _ _ _ (by have h1:=hl (a,k) (Ia ..); show @LT.lt Nat _ (a+1) (2 ^ 12); simp only at h1; omega)] at h
  by_cases hk:a=i
  ·subst hk;rw[E' rfl] at h;simp only[I1] at h;exact .inl ⟨0,k,v,rfl,rfl,h.symm⟩
  ·rw[C' hk] at h;rcases zcy hr h with ⟨j,k',v',h1,h2,h3⟩ | h1
   ·exact .inl ⟨j+1,k',v',by simpa using h1,by simpa using h2,h3⟩
   ·exact .inr h1
theorem U0{S:St}:∀{uB:List (Nat×CK)} {xs:List Va},L2 S uB=some xs->xs.length=uB.length/\∀(j i:Nat) (k:CK) (v:Va),uB[j]? = some (i,k)->xs[j]? = some v->∃e,S.F.get i=some (.un e)/\zty S e=some v
 | [],xs,h=>by simp only[L2,I1] at h; subst h; exact⟨rfl,fun j i k v hj=>by simp at hj⟩
 | (a,k)::r,xs,h=>by
  simp only[L2] at h
  split at h
  ·rename_i e he
   split at h
   ·rename_i x l hx hl;simp only[I1] at h; subst h;obtain⟨h1,h2⟩:=U0 hl;refine⟨by simp[h1],fun j i k' v hj hv=>?_⟩
    cases j with
    | zero=>
     simp only[Ig,I1,Prod.mk.injEq] at hj hv;obtain⟨rfl,rfl⟩:=hj;subst hv;exact⟨e,he,hx⟩
    | succ j=>exact h2 j i k' v (by simpa using hj) (by simpa using hv)
   ·cases h
  ·cases h
theorem Fk:∀{l:List Nat},AS l=true->l.Nodup
 | [],_=>List.nodup_nil
 | x::r,h=>by
  simp only[AS,A',IC] at h;exact List.nodup_cons.2 ⟨M5 h.1,Fk h.2⟩
theorem Md{S':St}:∀{Ws:List (Nat×List CK)} {L:List (TypeId×List Va)} {ys:List Va},(Ws.map (·.1)).Nodup->Mg S' Ws=some ys->(∀(id:Nat) (t:TypeId) (cs:List Va),L[id]? = some (t,cs)->∃mD,S'.L[id]? = some (t,mD))->
  (Ul L Ws ys).length=L.length/\
  (∀(id:Nat),id∉Ws.map (·.1)->(Ul L Ws ys)[id]? = L[id]?)/\
  (∀(id:Nat) (t:TypeId) (cs:List Va),id∈Ws.map (·.1)->(Ul L Ws ys)[id]? = some (t,cs)->S'.L[id]? = some (t,cs))
 | [],L,ys,_,_,_=>⟨rfl,fun _ _=>rfl,fun id t cs h=>by cases h⟩
 | (a,ks)::r,L,ys,hnd,hv,hty=>by
  have B21:=List.nodup_cons.1 (by simpa using hnd:(a::r.map (·.1)).Nodup);simp only[Mg] at hv
  split at hv
  ·rename_i t' mD l ha hl
   cases hb:Nat.beq mD.length ks.length with
   | false=>rw[hb] at hv; cases hv
   | true=>
    rw[hb] at hv;simp only[cond_true,I1] at hv;subst hv;have hlen:mD.length=ks.length:=Ic hb;have ht:(mD++l).take ks.length=mD:=by rw[<-hlen]; exact List.take_left
    have hdr:(mD++l).drop ks.length=l:=by rw[<-hlen]; exact List.drop_left
    simp only[Ul]
    cases hLa:L[a]? with
    | none=>
     simp only[hdr];obtain⟨h1,h2,h3⟩:=Md (L:=L) B21.2 hl hty;refine⟨h1,fun id aX=>h2 id (fun h=>aX (I2 _ h)),fun id t cs aX hc=>?_⟩;rcases Ij.1 aX with rfl | aX
     ·rw[h2 _ B21.1] at hc;rw[hLa] at hc; cases hc
     ·exact h3 id t cs aX hc
    | some q=>
     obtain⟨t0,c0⟩:=q;simp only[ht,hdr];have IQ:a<L.length:=(I9.1 hLa).1;obtain⟨cs1,dX⟩:=hty a t0 c0 hLa;rw[ha] at dX;simp only[I1,Prod.mk.injEq] at dX;obtain⟨rfl,rfl⟩:=dX
     obtain⟨h1,h2,h3⟩:=Md (L:=L.set a (t',mD)) B21.2 hl (fun id t cs hc=>by
      by_cases he:a=id
      ·subst he;rw[List.getElem?_set_self IQ] at hc;cases hc;exact⟨_,ha⟩
      ·rw[List.getElem?_set_ne he] at hc;exact hty id t cs hc)
     refine⟨by rw[h1]; simp,fun id aX=>?_,fun id t cs aX hc=>?_⟩
     ·rw[h2 id (fun h=>aX (I2 _ h))];exact List.getElem?_set_ne (fun e=>aX (by subst e; exact Ia ..))
     ·rcases Ij.1 aX with rfl | aX
      ·rw[h2 _ B21.1] at hc;rw[List.getElem?_set_self IQ] at hc;cases hc;exact ha
      ·exact h3 id t cs aX hc
  ·cases hv
structure H8 (S:St) (sp:X3) (ds:List Nat):Prop where
 A95:∀i∈sp.A95,i∉ds/\i<4000
 uB:∀p∈sp.uB,p.1<4000
 nd:(sp.Ws.map (·.1)).Nodup
 Ws:∀id∈sp.Ws.map (·.1),id∉S.lk
theorem Cs{S:St}{sp:X3}{ds:List Nat}(h:znp S sp ds=true):H8 S sp ds:=by
 simp only[znp,A',List.all_eq_true,IC] at h;obtain⟨⟨⟨⟨h1,h2⟩,_⟩,h4⟩,h5⟩:=h;refine⟨fun i hi=>⟨M5 (h1 i hi).1,Il (h1 i hi).2⟩,fun p hp=>Il (h2 p hp).1,Fk h4,fun id aX=>?_⟩;obtain⟨p,hp,rfl⟩:=List.mem_map.1 aX;have:=h5 p hp
 split at this
 ·simp only[A',IC] at this;exact M5 this.2
 ·cases this
theorem Oz{S:St}{sp:X3}{id:Nat}:id∈G1 S sp↔id<S.L.length/\id∉sp.Ws.map (·.1):=by
 unfold G1;simp only[List.mem_filter,List.mem_range,IC];refine and_congr_right fun _=>?_
 constructor
 ·exact M5
 ·intro h;rw[Bool.eq_false_iff];intro hb;simp only[PG,List.any_eq_true] at hb;obtain⟨y,hy,he⟩:=hb;exact h (Ic he▸hy)
theorem Al{n:Nat}{S S':St}{sp:X3}{ds:List Nat}(hs:H8 S sp ds){a a':Act}(hf:TX n S a)(hf':TX n S' a')(hfa:G6 ds a a'){xs ys:List Va}(hx:L2 S' sp.uB=some xs):TX n (Ye S sp (xs++ys)) a':=by
 obtain⟨hxl,hxg⟩:=U0 hx;have htk:(xs++ys).take sp.uB.length=xs:=by rw[<-hxl]; exact List.take_left
 have A27:∀i sv,(Ye S sp (xs++ys)).F.get i=some sv->(∃(j:Nat) (k:CK) (v:Va),sp.uB[j]? = some (i,k)/\xs[j]? = some v/\sv=.un (.v v))\/(i∈sp.A95/\S.F.get i=some sv/\∃e,sv=.un e):=fun i sv h=>by
  simp only[Ye,htk] at h;rcases zcy (fun p hp=>hs.uB p hp) h with h1 | h1
  ·exact .inl h1
  ·exact .inr (Eu (fun x hx=>(hs.A95 x hx).2) h1)
 refine⟨hf'.size,fun i x h=>?_,fun i r pc x h=>?_⟩
 ·rcases A27 i _ h with ⟨j,k,v,h1,h2,h3⟩ | ⟨h1,h2,_⟩
  ·obtain⟨e,he,hv⟩:=hxg j i k v h1 h2;have:=zdq hv (hf'.fits i e he);cases h3;exact this
  ·have h3:=hf.fits i x h2;rw[<-hfa.2.2 i (hs.A95 i h1).1] at h3;exact EV.gF (S:=S) (fun _ _ h=>h) h3
 ·rcases A27 i _ h with ⟨j,k,v,h1,h2,h3⟩ | ⟨h1,h2,e,h3⟩ <;> cases h3
theorem zc5{l m:List Nat}{k:Nat}(hk:k<=l.length)(h:∀(i b:Nat),l[i]? = some b->m[i]? = some b):m.take k=l.take k:=by
 apply List.ext_getElem?
 intro i;rw[List.getElem?_take,List.getElem?_take]
 by_cases hi:i<k
 ·rw[E' hi,E' hi];have hl:i<l.length:=Nat.lt_of_lt_of_le hi hk;rw[h i l[i] (Im hl),Im hl]
 ·rw[C' hi,C' hi]
theorem Am{S S':St}{sp:X3}{w w' wr WX:Wo}{ds:List Nat}(hs:H8 S sp ds)(hw:Zk S w wr)(hw':Zk S' w' WX)(hB:∀(id b:Nat),S.B[id]? = some b->S'.B[id]? = some b)(hty:∀(id:Nat) (t:TypeId) (cs:List Va),S.L[id]? = some (t,cs)->∃mD,S'.L[id]? = some (t,mD))(hlk:∀id,id<S.L.length->id∉sp.Ws.map (·.1)->S'.L[id]? = S.L[id]?){xs ys:List Va}(hxl:xs.length=sp.uB.length)(hy:Mg S' sp.Ws=some ys) :
  (Ye S sp (xs++ys)).L.length=S.L.length/\∀(id:Nat) (t:TypeId) (cs:List Va),(Ye S sp (xs++ys)).L[id]? = some (t,cs)->∃b,S.B[id]? = some b/\WX.heap[b]? = some (Obj.cells cs.toArray t (0,0)):=by
 have hdr:(xs++ys).drop sp.uB.length=ys:=by rw[<-hxl]; exact List.drop_left
 obtain⟨h1,h2,h3⟩:=Md (L:=S.L) hs.nd hy hty;have hL:(Ye S sp (xs++ys)).L=Ul S.L sp.Ws ys:=by simp only[Ye,hdr]
 rw[hL];refine⟨h1,fun id t cs hc=>?_⟩;have aX:id<S.L.length:=by rw[<-h1]; exact(I9.1 hc).1
 have hb:S.B[id]? = some (S.B[id]'(by rw[<-hw.len]; exact aX)):=Im _
 have hS':S'.L[id]? = some (t,cs):=by
  by_cases hm:id∈sp.Ws.map (·.1)
  ·exact h3 id t cs hm hc
  ·rw[h2 id hm] at hc;rw[hlk id aX hm]; exact hc
 obtain⟨b',gU,hh⟩:=hw'.loc id t cs hS';rw[hB _ _ hb] at gU;cases gU;exact⟨_,hb,hh⟩
theorem PY{S:St}{sp:X3}{K:List Va->Prop}(h:Ao S sp K):∃xs ys,L2 S sp.uB=some xs/\Mg S sp.Ws=some ys/\Jt sp.ks (xs++ys)=true/\K (xs++ys):=by
 unfold Ao at h
 split at h
 ·rename_i xs ys hx hy
  cases hk:Jt sp.ks (xs++ys) with
  | false=>rw[hk] at h; exact h.elim
  | true=>rw[hk] at h; exact⟨xs,ys,hx,hy,hk,h⟩
 ·exact h.elim
theorem zgn{S S':St}{sp:X3}{ds:List Nat}(hs:H8 S sp ds)(WR:Kj S){vs:List Va}(hL:(Ye S sp vs).L.length=S.L.length)(hLt:∀(id:Nat) (t:TypeId) (cs:List Va),S.L[id]? = some (t,cs)->∃mD,(Ye S sp vs).L[id]? = some (t,mD))(hLk:∀id,id∉sp.Ws.map (·.1)->(Ye S sp vs).L[id]? = S.L[id]?)(zN:Ps (Ye S sp vs) S'):Ps S { S' with lk:=S.lk }/\(∀id,id<S.L.length->id∉sp.Ws.map (·.1)->S'.L[id]? = S.L[id]?):=by
 have h2:∀id,id<S.L.length->id∉sp.Ws.map (·.1)->S'.L[id]? = S.L[id]? := fun id aX hm=>by
  have:=zN.lk id (Oz.2 ⟨aX,hm⟩);rw[this.2,hLk id hm]
 refine⟨⟨fun id b hb=>zN.B id b hb,fun id t cs hc=>?_,fun id aX=>⟨aX,h2 id (WR.lk id aX) (fun hm=>hs.Ws id hm aX)⟩⟩,h2⟩;obtain⟨cs1,h1⟩:=hLt id t cs hc;exact zN.ty id t cs1 h1
theorem zcj{S:St}:∀{l:List (TypeId×List CK)} {n:Nat} {zs:List Va},zci S n l=some zs->(KL l zs).length=l.length/\(∀j,j<l.length->n+j<S.L.length)/\∀j,(KL l zs)[j]? = if j<l.length then S.L[n+j]? else none
 | [],n,zs,h=>⟨rfl,fun j hj=>Is hj (Nat.not_lt_zero j),fun j=>by simp[KL]⟩
 | (t,ks)::r,n,zs,h=>by
  simp only[zci] at h
  split at h
  ·rename_i t' cs l hL hl
   cases hb:Nat.beq t' t&&Nat.beq cs.length ks.length with
   | false=>rw[hb] at h; cases h
   | true=>
    rw[hb] at h;simp only[cond_true,I1] at h;subst h;simp only[A'] at hb;have h1:=Ic hb.1;have h2:=Ic hb.2;subst h1;obtain⟨g1,g2,g3⟩:=zcj hl;have ht:(cs++l).take ks.length=cs:=by rw[<-h2]; exact List.take_left
    have hdr:(cs++l).drop ks.length=l:=by rw[<-h2]; exact List.drop_left
    simp only[KL,ht,hdr];refine⟨by simp[g1],fun j hj=>?_,fun j=>?_⟩
    ·cases j with
     | zero=>exact(I9.1 hL).1
     | succ j=>have:=g2 j (by simpa using hj); omega
    ·cases j with
     | zero=>simp[hL]
     | succ j=>
      have:=g3 j;simp only[List.getElem?_cons_succ,List.length_cons];rw[this];have e:n+1+j=n+(j+1):=Qo;rw[e]
      by_cases hj:j<r.length
      ·rw[E' hj,E' Qo]
      ·rw[C' hj,C' Qo]
  ·cases h
theorem zjj{S:St}{n k:Nat}{l:List (Nat×Nat)}(h:zcq S n k l=true):∀p∈l,p.1<4000/\p.2<k/\S.F.get p.1=some (.un (.loc (n+p.2) 0)):=fun p hp=>by
 simp only[zcq,List.all_eq_true,A'] at h;obtain⟨⟨h1,h2⟩,h3⟩:=h p hp;refine⟨Il h1,Il h2,?_⟩
 split at h3
 ·rename_i id aX;rw[aX,Ic h3]
 ·cases h3
theorem EY{F:PT SV}{n:Nat}:∀{l:List (Nat×Nat)} {i:Nat} {sv:SV},(∀p∈l,p.1<4000)->(zlp F n l).get i=some sv->(∃j,(i,j)∈l/\sv=.un (.loc (n+j) 0))\/F.get i=some sv
 | [],i,sv,_,h=>.inr h
 | (a,j)::r,i,sv,hl,h=>by
  have hr:∀p∈r,p.1<4000:=fun x hx=>hl x (I2 _ hx)
  simp only[zlp] at h;rw[PT.mQ _ 12 _ _ _ (by have h1:=hl (a,j) (Ia ..); show @LT.lt Nat _ (a+1) (2 ^ 12); simp only at h1; omega)] at h
  by_cases hk:a=i
  ·subst hk;rw[E' rfl] at h;simp only[I1] at h;exact .inl ⟨j,Ia ..,h.symm⟩
  ·rw[C' hk] at h;rcases EY hr h with ⟨q,h1,h2⟩ | h1
   ·exact .inl ⟨q,I2 _ h1,h2⟩
   ·exact .inr h1
theorem zb9{S S':St}{sp:X3}{K:List Va->List Nat->Prop}(h:zky S S' sp K):∃xs ys zs,L2 S' sp.uB=some xs/\Mg S' sp.Ws=some ys/\zci S' S.L.length sp.aM=some zs/\Jt sp.ks (xs++ys)=true/\Jt sp.nks zs=true/\zcq S' S.L.length sp.aM.length sp.ptr=true/\
  K (xs++ys++zs) ((S'.B.drop S.B.length).take sp.aM.length):=by
 unfold zky at h
 split at h
 ·rename_i zs hz
  cases hb:Jt sp.nks zs&&zcq S' S.L.length sp.aM.length sp.ptr with
  | false=>rw[hb] at h; exact h.elim
  | true=>
   rw[hb] at h;simp only[cond_true] at h;simp only[A'] at hb;obtain⟨xs,ys,h1,h2,h3,h4⟩:=PY h;exact⟨xs,ys,zs,h1,h2,hz,h3,hb.1,hb.2,h4⟩
 ·exact h.elim
theorem zni{l m:List Nat}(h:∀(i b:Nat),l[i]? = some b->m[i]? = some b):m.take l.length=l:=by
 have:=zc5 (I8 l.length) h;rw[this,List.take_length]
theorem zkz{n:Nat}{S S':St}{sp:X3}{w w' wr WX:Wo}{ds:List Nat}{a a':Act}(hs:H8 S sp ds)(hf:TX n S a)(hw:Zk S w wr)(WR:Kj S)(hf':TX n S' a')(hw':Zk S' w' WX)(hfa:G6 ds a a')(zN:Ps { S with lk:=G1 S sp } S'){xs ys zs:List Va}(hx:L2 S' sp.uB=some xs)(hy:Mg S' sp.Ws=some ys)(hz:zci S' S.L.length sp.aM=some zs)(hp:zcq S' S.L.length sp.aM.length sp.ptr=true) :
  ((S'.B.drop S.B.length).take sp.aM.length).length=sp.aM.length/\(∀b∈S.B++(S'.B.drop S.B.length).take sp.aM.length,b∈S'.B)/\
  TX n (LV S sp (xs++ys) zs ((S'.B.drop S.B.length).take sp.aM.length)) a'/\Kj (LV S sp (xs++ys) zs ((S'.B.drop S.B.length).take sp.aM.length))/\Ps S (LV S sp (xs++ys) zs ((S'.B.drop S.B.length).take sp.aM.length))/\
  Zk (LV S sp (xs++ys) zs ((S'.B.drop S.B.length).take sp.aM.length)).bT WX WX/\(w'=w->S'.old=S.old->Zk (LV S sp (xs++ys) zs ((S'.B.drop S.B.length).take sp.aM.length)) w WX):=by
 obtain⟨n1,n2,n3⟩:=zcj hz;have hB:∀(id b:Nat),S.B[id]? = some b->S'.B[id]? = some b:=zN.B;have CU5:=zni hB;have CT0:=hw.len;have Cr8:=hw'.len
 have hk:S.B.length+sp.aM.length<=S'.B.length:=by
  rcases Nat.eq_zero_or_pos sp.aM.length with h0 | h0
  ·have:S.B.length<=S'.B.length:=by
    have:=congrArg List.length CU5;rw[List.length_take] at this;omega
   omega
  ·have:=n2 (sp.aM.length-1) Qo;omega
 have hbl:((S'.B.drop S.B.length).take sp.aM.length).length=sp.aM.length:=by rw[List.length_take,List.length_drop]; omega
 have hGB:S.B++(S'.B.drop S.B.length).take sp.aM.length=S'.B.take (S.B.length+sp.aM.length):=by
  rw[List.take_add,CU5]
 have A79:∀(id b:Nat),id<S.B.length+sp.aM.length->S'.B[id]? = some b->(S.B++(S'.B.drop S.B.length).take sp.aM.length)[id]? = some b:=fun id b aX hb=>by
  rw[hGB,List.getElem?_take,E' aX]; exact hb
 have CD2:∀(id b:Nat),(S.B++(S'.B.drop S.B.length).take sp.aM.length)[id]? = some b->S'.B[id]? = some b:=fun id b hb=>by
  rw[hGB,List.getElem?_take] at hb
  split at hb
  ·exact hb
  ·cases hb
 obtain⟨t1,t2⟩:=Md (L:=S.L) hs.nd hy zN.ty;have hlk:∀id,id<S.L.length->id∉sp.Ws.map (·.1)->S'.L[id]? = S.L[id]? := fun id aX hm=>(zN.lk id (Oz.2 ⟨aX,hm⟩)).2
 have hxl:=(U0 hx).1;obtain⟨g1,g2⟩:=Am hs hw hw' hB zN.ty hlk hxl hy;have hhf:=Al (ys:=ys) hs hf hf' hfa hx;have hdr:(xs++ys).drop sp.uB.length=ys:=by rw[<-hxl]; exact List.drop_left
 have hL:(Ye S sp (xs++ys)).L=Ul S.L sp.Ws ys:=by simp only[Ye,hdr]
 have hpp:=zjj hp
 have CF0:TX n (LV S sp (xs++ys) zs ((S'.B.drop S.B.length).take sp.aM.length)) a':=by
  have CT7:∀(id b:Nat),(Ye S sp (xs++ys)).B[id]? = some b->(LV S sp (xs++ys) zs ((S'.B.drop S.B.length).take sp.aM.length)).B[id]? = some b:=fun id b hb=>by
   have gU:S.B[id]? = some b:=hb;exact A79 id b (by have:=(I9.1 gU).1; omega) (hB id b gU)
  refine⟨hhf.size,fun i x h=>?_,fun i r pc x h=>?_⟩
  ·rcases EY (fun p hp=>(hpp p hp).1) h with ⟨j,h1,h2⟩ | h1
   ·obtain⟨_,hj,hF⟩:=hpp (i,j) h1;have hd:=hf'.fits i _ hF;cases h2;obtain⟨b,hb,hv⟩:=hd;exact⟨b,A79 _ _ (by simp only at hj; omega) hb,hv⟩
   ·exact EV.gF (S:=Ye S sp (xs++ys)) CT7 (hhf.fits i x h1)
  ·rcases EY (fun p hp=>(hpp p hp).1) h with ⟨j,h1,h2⟩ | h1
   ·cases h2
   ·exact hhf.old i r pc x h1
 have nH:∀(id:Nat) (t:TypeId) (cs:List Va),((Ye S sp (xs++ys)).L++KL sp.aM zs)[id]? = some (t,cs)->∃b,(S.B++(S'.B.drop S.B.length).take sp.aM.length)[id]? = some b/\WX.heap[b]? = some (Obj.cells cs.toArray t (0,0)):=fun id t cs hc=>by
  by_cases aX:id<S.L.length
  ·rw[Iq (by rw[g1]; exact aX)] at hc;obtain⟨b,h1,h2⟩:=g2 id t cs hc;exact⟨b,A79 id b Qo (hB id b h1),h2⟩
  ·rw[List.getElem?_append_right (by rw[g1]; omega),g1,n3] at hc
   split at hc
   ·rename_i IQ;have e:S.L.length+(id-S.L.length)=id:=Qo;rw[e] at hc;obtain⟨b,h1,h2⟩:=hw'.loc id t cs hc;exact⟨b,A79 id b Qo h1,h2⟩
   ·cases hc
 have hlen:((Ye S sp (xs++ys)).L++KL sp.aM zs).length=(S.B++(S'.B.drop S.B.length).take sp.aM.length).length:=by
  rw[Ip,Ip,g1,n1,hbl,CT0]
 have hnd:(S.B++(S'.B.drop S.B.length).take sp.aM.length).Nodup:=by
  rw[hGB]; exact hw'.nE.sublist (List.take_sublist _ _)
 refine⟨hbl,fun b hb=>by rw[hGB] at hb; exact List.mem_of_mem_take hb,CF0,⟨?_,fun id aX=>?_⟩,⟨fun id b hb=>?_,fun id t cs hc=>?_,fun id aX=>⟨aX,?_⟩⟩,⟨?_,nH,hlen,hnd,fun id b aX hb=>?_⟩,fun e1 e2=>⟨?_,nH,hlen,hnd,fun id b aX hb=>?_⟩⟩
 ·show S.old<=(S.B++(S'.B.drop S.B.length).take sp.aM.length).length;have:=WR.old;rw[Ip]; omega
 ·show id<((Ye S sp (xs++ys)).L++KL sp.aM zs).length;have:=WR.lk id aX;rw[Ip,g1]; omega
 ·exact A79 id b (by have:=(I9.1 hb).1; omega) (hB id b hb)
 ·have aX:id<S.L.length:=(I9.1 hc).1;obtain⟨u1,u2⟩:(∀(id:Nat) (t:TypeId) (cs:List Va),id∈sp.Ws.map (·.1)->(Ul S.L sp.Ws ys)[id]? = some (t,cs)->S'.L[id]? = some (t,cs))/\True:=⟨t2.2,trivial⟩;have IQ:id<(Ul S.L sp.Ws ys).length:=by rw[t1]; exact aX
  have hg:(Ul S.L sp.Ws ys)[id]? = some (((Ul S.L sp.Ws ys)[id]).1,((Ul S.L sp.Ws ys)[id]).2):=Im IQ;show ∃mD,((Ye S sp (xs++ys)).L++KL sp.aM zs)[id]? = some (t,mD);rw[Iq (by rw[g1]; exact aX),hL]
  by_cases hm:id∈sp.Ws.map (·.1)
  ·have h4:=u1 id _ _ hm hg;obtain⟨mD,h5⟩:=zN.ty id t cs hc;rw[h5] at h4;simp only[I1,Prod.mk.injEq] at h4;exact⟨((Ul S.L sp.Ws ys)[id]).2,by rw[hg,<-h4.1]⟩
  ·exact⟨cs,by rw[t2.1 id hm]; exact hc⟩
 ·have IQ:=WR.lk id aX;show ((Ye S sp (xs++ys)).L++KL sp.aM zs)[id]? = S.L[id]?;rw[Iq (by rw[g1]; exact IQ),hL,t2.1 id fun hm=>hs.Ws id hm aX]
 ·exact Q0.refl _ _
 ·have h1:id<(S.B++(S'.B.drop S.B.length).take sp.aM.length).length:=(I9.1 hb).1;have h2:(S.B++(S'.B.drop S.B.length).take sp.aM.length).length<=id:=aX;omega
 ·have hbs:(LV S sp (xs++ys) zs ((S'.B.drop S.B.length).take sp.aM.length)).bs=S'.bs:=by
   show (S.B++(S'.B.drop S.B.length).take sp.aM.length).take S.old=S'.B.take S'.old;rw[e2];have h1:=WR.old;rw[hGB,List.take_take,Nat.min_eq_left Qo]
  rw[hbs,<-e1]; exact hw'.ext
 ·have h1:S'.B[id]? = some b:=CD2 id b hb;have:=hw'.fresh id b (by rw[e2]; exact aX) h1;rw[e1] at this;exact this
structure zrm (C:VT) (S:St) (w:Wo) (ds:List Nat) (a:Act) (sp:X3) (vs:List Va) (w1:Wo) (a':Act) (WX:Wo):Prop where
 fit:TX C.n (Ye S sp vs) a'
 rel:Zk (Ye S sp vs) w1 WX
 wf:Kj (Ye S sp vs)
 fra:G6 ds a a'
theorem An{S S':St}{sp:X3}(hnd:(sp.Ws.map (·.1)).Nodup)(hty:∀(id:Nat) (t:TypeId) (cs:List Va),S.L[id]? = some (t,cs)->∃mD,S'.L[id]? = some (t,mD)){xs ys:List Va}(hxl:xs.length=sp.uB.length)(hy:Mg S' sp.Ws=some ys) :
  (∀(id:Nat) (t:TypeId) (cs:List Va),S.L[id]? = some (t,cs)->∃mD,(Ye S sp (xs++ys)).L[id]? = some (t,mD))/\(∀id,id∉sp.Ws.map (·.1)->(Ye S sp (xs++ys)).L[id]? = S.L[id]?):=by
 have hdr:(xs++ys).drop sp.uB.length=ys:=by rw[<-hxl]; exact List.drop_left
 obtain⟨h1,h2,h3⟩:=Md (L:=S.L) hnd hy hty;have hL:(Ye S sp (xs++ys)).L=Ul S.L sp.Ws ys:=by simp only[Ye,hdr]
 rw[hL];refine⟨fun id t cs hc=>?_,h2⟩;have aX:id<(Ul S.L sp.Ws ys).length:=by rw[h1]; exact(I9.1 hc).1
 by_cases hm:id∈sp.Ws.map (·.1)
 ·have hg:(Ul S.L sp.Ws ys)[id]? = some (((Ul S.L sp.Ws ys)[id]).1,((Ul S.L sp.Ws ys)[id]).2):=Im aX;have h4:=h3 id _ _ hm hg;obtain⟨mD,h5⟩:=hty id t cs hc;rw[h5] at h4;simp only[I1,Prod.mk.injEq] at h4;exact⟨((Ul S.L sp.Ws ys)[id]).2,by rw[hg,<-h4.1]⟩
 ·exact⟨cs,by rw[h2 id hm]; exact hc⟩
theorem AT{n:Nat}{S:St}{a:Act}(hf:TX n S a){x:Operand}{e:EV}(hb:CD S [] x=some e):EV.den S e (a.eval x):=by
 have:=ZP (ops:=#[]) (hf.enter #[] (fun _=>False)).fit (pc:=[]) (fun p hp=>by cases hp) (S:={ S with r:=S.r+1 }) (x:=x) (e:=e) (by
  cases x with
  | tmp t=>
   simp only[CD] at hb ⊢
   split at hb
   ·exact hb
   ·rename_i r uL y hg
    cases cD:Nat.beq r S.r&&Cf uL [] with
    | false=>rw[cD] at hb; cases hb
    | true=>
     simp only[A'] at cD;have:=Ic cD.1;have h2:=hf.old t r uL y hg;omega
   ·cases hb
  | const v=>exact hb
  | global g=>exact hb
  | func f=>exact hb)
 exact EV.gF (S:={ S with r:=S.r+1 }) (fun _ _ h=>h) this
theorem zfg(S:St)(c:Operand)(x:Bool):(rI S c x).L=S.L/\(rI S c x).B=S.B/\(rI S c x).old=S.old/\(rI S c x).lk=S.lk/\(rI S c x).r=S.r:=by
 unfold rI;split
 ·cases Nat.blt _ 4000 <;> exact⟨rfl,rfl,rfl,rfl,rfl⟩
 ·exact⟨rfl,rfl,rfl,rfl,rfl⟩
theorem TX.rI{n:Nat}{S:St}{a:Act}(hf:TX n S a){c:Operand}{x:Bool}(hc:a.eval c=.bool x):TX n (rI S c x) a:=by
 unfold YtnclplgaicdapaaGreatDoor.rI;split
 ·rename_i t
  cases hl:Nat.blt t 4000 with
  | false=>exact hf
  | true=>
   have IQ:t<4000:=Il hl;have hg:∀i,(PT.set 12 S.F t (.un (.kb x))).get i=if t=i then some (.un (.kb x)) else S.F.get i:=fun i=>PT.mQ _ 12 S.F t i (by have h1 : @LT.lt Nat _ t 4000:=IQ; show @LT.lt Nat _ (t+1) (2 ^ 12); omega)
   refine⟨hf.size,fun i y hy=>?_,fun i r pc y hy=>?_⟩
   ·have hy:(PT.set 12 S.F t (.un (.kb x))).get i=some (.un y):=hy;rw[hg i] at hy
    by_cases hti:t=i
    ·subst hti;rw[E' rfl] at hy;simp only[I1,SV.un.injEq] at hy;subst hy;exact hc
    ·rw[C' hti] at hy;exact EV.gF (S:=S) (fun _ _ h=>h) (hf.fits i y hy)
   ·have hy:(PT.set 12 S.F t (.un (.kb x))).get i=some (.gd r pc y):=hy;rw[hg i] at hy
    by_cases hti:t=i
    ·rw[E' hti] at hy; cases hy
    ·rw[C' hti] at hy; exact hf.old i r pc y hy
 ·exact hf
theorem zho{S:St}{w wr:Wo}{c:Operand}{x:Bool}(h:Zk S w wr):Zk (rI S c x) w wr:=by
 obtain⟨h1,h2,h3,h4,h5⟩:=zfg S c x;refine⟨?_,?_,?_,?_,?_⟩
 ·unfold St.bs; rw[h2,h3]; exact h.ext
 ·rw[h1,h2]; exact h.loc
 ·rw[h1,h2]; exact h.len
 ·rw[h2]; exact h.nE
 ·rw[h2,h3]; exact h.fresh
theorem zlo{S:St}{c:Operand}{x:Bool}(h:Kj S):Kj (rI S c x):=by
 obtain⟨h1,h2,h3,h4,h5⟩:=zfg S c x;exact⟨by rw[h2,h3]; exact h.old,by rw[h1,h4]; exact h.lk⟩
theorem zhn{C:VT}{S:St}{w:Wo}{ds:List Nat}{a:Act}{S':St}{w':Wo}{a':Act}{WX:Wo}{c:Operand}{x:Bool}(h:Mm C (rI S c x) w ds a S' w' a' WX):Mm C S w ds a S' w' a' WX:=by
 obtain⟨h1,h2,h3,h4,h5⟩:=zfg S c x;refine⟨h.fit,h.rel,h.wf,⟨?_,?_,?_⟩,h.fra,?_⟩
 ·have:=h.fr.B; rw[h2] at this; exact this
 ·have:=h.fr.ty; rw[h1] at this; exact this
 ·have:=h.fr.lk; rw[h1,h4] at this; exact this
 ·have:=h.pm; rw[h3] at this; exact this
theorem Yh{C:VT}(E:zn2 C){sps:List (Nat×X3)}:∀(c:Code) (S:St) (w wr:Wo) (a:Act) (K:Exit->St->Wo->Prop) (Q:Exit->Act->Wo->Prop),zed C sps c S w K->TX C.n S a->Zk S w wr->Kj S->
  (∀e S' w' a' WX,K e S' w'->Mm C S w (Jk c) a S' w' a' WX->Q e a' WX)->c.wpIn (Gy C.rd) 0 C.P Q a wr
 | .skip,S,w,wr,a,K,Q,h,hf,hw,WR,hQ=>wpIn_skip (hQ _ _ _ _ _ h (Mm.refl _ hf hw WR))
 | .label _,S,w,wr,a,K,Q,h,hf,hw,WR,hQ=>wpIn_label (hQ _ _ _ _ _ h (Mm.refl _ hf hw WR))
 | .exit _,S,w,wr,a,K,Q,h,hf,hw,WR,hQ=>wpIn_exit (hQ _ _ _ _ _ h (Mm.refl _ hf hw WR))
 | .ret,S,w,wr,a,K,Q,h,hf,hw,WR,hQ=>wpIn_ret (hQ _ _ _ _ _ h (Mm.refl _ hf hw WR))
 | .region _ ops d,S,w,wr,a,K,Q,h,hf,hw,WR,hQ=>zga E h hf hw WR fun S' w' a' WX hK he=>hQ _ _ _ _ _ hK he
 | .seq x y,S,w,wr,a,K,Q,h,hf,hw,WR,hQ=>by
  have Bu4:∀z∈Jk x,z∈Jk (.seq x y):=fun z hz=>Ib _ hz
  have CJ1:∀z∈Jk y,z∈Jk (.seq x y):=fun z hz=>Iy _ hz
  simp only[zed] at h
  split at h
  ·refine wpIn_seq (Yh E x S w wr a _ _ h hf hw WR fun e S' w' a' WX hK he=>?_)
   cases e with
   | normal=>exact Yh E y S' w' WX a' _ _ hK he.fit he.rel he.wf fun e2 S2 w2 a2 O' gV aQ=>hQ _ _ _ _ _ gV (he.trans aQ Bu4 CJ1)
   | _=>exact hQ _ _ _ _ _ hK (he.mono Bu4)
  ·rename_i sp _
   cases hok:znp S sp (Jk x) with
   | false=>rw[hok] at h; exact h.elim
   | true=>
    rw[hok] at h;simp only[cond_true] at h;have hs:=Cs hok;have hf0:TX C.n { S with lk:=G1 S sp } a:=⟨hf.size,hf.fits,hf.old⟩;have hw0:Zk { S with lk:=G1 S sp } w wr:=⟨hw.ext,hw.loc,hw.len,hw.nE,hw.fresh⟩;have CV9:Kj { S with lk:=G1 S sp }:=⟨WR.old,fun id aX=>(Oz.1 aX).1⟩
    have out:∀{S':St} {w':Wo} {a':Act} {WX:Wo},Mm C { S with lk:=G1 S sp } w (Jk x) a S' w' a' WX->Mm C S w (Jk (.seq x y)) a { S' with lk:=S.lk } w' a' WX:=fun {S' w' a' WX} he=>by
     have f1:Ps S { S' with lk:=S.lk }:=⟨he.fr.B,he.fr.ty,fun id aX=>⟨aX,(he.fr.lk id (Oz.2 ⟨WR.lk id aX,fun hm=>hs.Ws id hm aX⟩)).2⟩⟩
     exact⟨⟨he.fit.size,he.fit.fits,he.fit.old⟩,⟨he.rel.ext,he.rel.loc,he.rel.len,he.rel.nE,he.rel.fresh⟩,⟨he.wf.old,fun id aX=>by
      obtain⟨mD,hc'⟩:=f1.ty id (S.L[id]'(WR.lk id aX)).1 (S.L[id]'(WR.lk id aX)).2 (Im _);exact(I9.1 hc').1⟩,f1,he.fra.mono Bu4,he.pm⟩
    cases jR:C.pm with
    | true=>
     rw[jR] at h;simp only[cond_true] at h;obtain⟨kD,h1,h2⟩:=h;refine wpIn_seq (Yh E x _ w wr a _ _ h1 hf0 hw0 CV9 fun e S' w' a' WX hK he=>?_)
     cases e with
     | normal=>
      obtain⟨xs,ys,zs,g1,g2,g3,g4,g5,g6,g7⟩:=zb9 hK;obtain⟨j1,j2,j3,j4,j5,j6,j7⟩:=zkz hs hf hw WR he.fit he.rel he.fra he.fr g1 g2 g3 g6;obtain⟨p1,p2⟩:=he.pm jR;refine Yh E y _ w WX a' _ _ (DY (VW (VW h2 g4) g5) j1 g7) j3 (j7 p1 p2) j4 fun e2 S2 w2 a2 O' gV aQ=>hQ _ _ _ _ _ gV ⟨aQ.fit,aQ.rel,aQ.wf,j5.trans aQ.fr,(he.fra.mono Bu4).trans (aQ.fra.mono CJ1),fun hp=>aQ.pm hp⟩
     | _=>exact hQ _ _ _ _ _ hK (out he)
    | false=>
     rw[jR] at h;simp only[cond_false] at h;obtain⟨kD,h1,h2⟩:=h;refine wpIn_seq (Yh E x _ w wr a _ _ h1 hf0 hw0 CV9 fun e S' w' a' WX hK he=>?_)
     cases e with
     | normal=>
      obtain⟨xs,ys,zs,g1,g2,g3,g4,g5,g6,g7⟩:=zb9 (hK WX he.rel.ext he.rel.lt);obtain⟨j1,j2,j3,j4,j5,j6,j7⟩:=zkz hs hf hw WR he.fit he.rel he.fra he.fr g1 g2 g3 g6;refine Yh E y _ WX WX a' _ _ (DY (VW (VW h2 g4) g5) j1 WX (fun b hb=>he.rel.lt b (j2 b hb)) g7) ⟨j3.size,j3.fits,j3.old⟩ j6 ⟨I8 _,j4.lk⟩ fun e2 S2 w2 a2 O' gV aQ=>hQ _ _ _ _ _ gV ⟨aQ.fit,aQ.rel,aQ.wf,j5.trans ⟨aQ.fr.B,aQ.fr.ty,aQ.fr.lk⟩,(he.fra.mono Bu4).trans (aQ.fra.mono CJ1),fun hp=>by rw[jR] at hp; cases hp⟩
     | _=>exact hQ _ _ _ _ _ hK (out he)
 | .cond c x y,S,w,wr,a,K,Q,h,hf,hw,WR,hQ=>by
  simp only[zed] at h
  split at h
  ·rename_i hb;have hc:a.eval c=.bool true:=AT hf hb;refine wpIn_cond_split hc (fun hb=>?_) (fun hb=>by cases hb);exact Yh E x S w wr a _ _ h hf hw WR fun e S' w' a' WX hK he=>hQ _ _ _ _ _ hK (he.mono fun z hz=>Ib _ hz)
  ·rename_i hb;have hc:a.eval c=.bool false:=AT hf hb;refine wpIn_cond_split hc (fun hb=>by cases hb) (fun hb=>?_);exact Yh E y S w wr a _ _ h hf hw WR fun e S' w' a' WX hK he=>hQ _ _ _ _ _ hK (he.mono fun z hz=>Iy _ hz)
  ·rename_i b hb;have hc:a.eval c=.bool b:=AT hf hb;refine wpIn_cond_split hc (fun hb=>?_) (fun hb=>?_)
   ·subst hb;exact Yh E x (rI S c true) w wr a _ _ (h.1 rfl) (hf.rI hc) (zho hw) (zlo WR) fun e S' w' a' WX hK he=>hQ _ _ _ _ _ hK ((zhn he).mono fun z hz=>Ib _ hz)
   ·subst hb;exact Yh E y (rI S c false) w wr a _ _ (h.2 rfl) (hf.rI hc) (zho hw) (zlo WR) fun e S' w' a' WX hK he=>hQ _ _ _ _ _ hK ((zhn he).mono fun z hz=>Iy _ hz)
  ·exact h.elim
 | .scope b,S,w,wr,a,K,Q,h,hf,hw,WR,hQ=>by
  refine LP (Yh E b S w wr a _ _ h hf hw WR fun e S' w' a' WX hK he=>?_)
  cases e with
  | goto l=>exact hK.elim
  | _=>exact hQ _ _ _ _ _ hK he
 | .block id b,S,w,wr,a,K,Q,h,hf,hw,WR,hQ=>by
  refine wpIn_block (Yh E b S w wr a _ _ h hf hw WR fun e S' w' a' WX hK he=>?_)
  cases e with
  | exit id'=>
   simp only[Exit.inBlock]
   dsimp only at hK
   cases hb:Nat.beq id' id with
   | true=>
    rw[hb] at hK;rw[E' (Ic hb)];exact hQ _ _ _ _ _ hK he
   | false=>
    rw[hb] at hK;rw[C' (fun e=>by rw[e,Nat.beq_refl] at hb; cases hb)];exact hQ _ _ _ _ _ hK he
  | _=>exact hQ _ _ _ _ _ hK he
 | .loop b,S,w,wr,a,K,Q,h,hf,hw,WR,hQ=>by
  simp only[zed] at h
  split at h
  ·exact h.elim
  ·rename_i key DK4
   split at h
   ·exact h.elim
   ·rename_i sp hsp
    cases hok:znp S sp (Jk b) with
    | false=>rw[hok] at h; exact h.elim
    | true=>
     rw[hok] at h;simp only[cond_true] at h;have hs:=Cs hok
     cases jR:C.pm with
     | true=>
      rw[jR] at h;simp only[cond_true] at h;obtain⟨J0,μ,Bq8,vB⟩:=h
      have mk:∀(S':St) (a':Act) (WX:Wo) (xs ys:List Va),TX C.n S' a'->Zk S' w WX->S'.old=S.old->G6 (Jk b) a a'->(∀(id b:Nat),S.B[id]? = some b->S'.B[id]? = some b)->
        (∀(id:Nat) (t:TypeId) (cs:List Va),S.L[id]? = some (t,cs)->∃mD,S'.L[id]? = some (t,mD))->(∀id,id<S.L.length->id∉sp.Ws.map (·.1)->S'.L[id]? = S.L[id]?)->
        L2 S' sp.uB=some xs->Mg S' sp.Ws=some ys->zrm C S w (Jk b) a sp (xs++ys) w a' WX:=by
       intro S' a' WX xs ys h1 h2 h3 h4 h5 h6 h7 h8 h9;obtain⟨g1,g2⟩:=Am hs hw h2 h5 h6 h7 (U0 h8).1 h9;refine⟨Al hs hf h1 h4 h8,⟨?_,g2,by rw[g1]; exact hw.len,hw.nE,hw.fresh⟩,⟨WR.old,fun id aX=>by rw[g1]; exact(Oz.1 aX).1⟩,h4⟩;have hbs:S'.bs=S.bs:=by unfold St.bs; rw[h3]; exact zc5 WR.old h5
       have:=h2.ext;rw[hbs] at this;exact this
      obtain⟨xs,ys,hx,hy,hk,hI⟩:=PY Bq8
      refine Dw (fun n a' WX=>∃xs ys S',μ (xs++ys)=n/\J0 (xs++ys)/\Jt sp.ks (xs++ys)=true/\xs.length=sp.uB.length/\Mg S' sp.Ws=some ys/\(∀(id:Nat) (t:TypeId) (cs:List Va),S.L[id]? = some (t,cs)->∃mD,S'.L[id]? = some (t,mD))/\zrm C S w (Jk b) a sp (xs++ys) w a' WX)
       (m:=μ (xs++ys)) ⟨xs,ys,S,rfl,hI,hk,(U0 hx).1,hy,fun _ _ cs h=>⟨cs,h⟩,mk S a wr xs ys hf hw rfl (G6.refl _ _) (fun _ _ h=>h) (fun _ _ cs h=>⟨cs,h⟩) (fun _ _ _=>rfl) hx hy⟩ ?_
      rintro n a' WX ⟨xs,ys,S',rfl,hI,hk,hxl,hyl,hty,hH⟩;obtain⟨t1,t2⟩:=An hs.nd hty hxl hyl
      have hlen:(Ye S sp (xs++ys)).L.length=S.L.length:=by
       have:=hH.rel.len;rw[this]; exact hw.len.symm
      refine Yh E b _ w WX a' _ _ (VW vB hk hI) hH.fit hH.rel hH.wf fun e S2 w2 a2 O' hK he=>?_
      obtain⟨f1,f2⟩:=zgn hs WR hlen t1 t2 he.fr;obtain⟨p1,p2⟩:=he.pm jR;subst p1
      cases e with
      | normal=>
       obtain⟨xs',ys',eH,hy',hk',hI',IQ⟩:=PY hK;refine⟨μ (xs'++ys'),IQ,xs',ys',S2,rfl,hI',hk',(U0 eH).1,hy',f1.ty,?_⟩;exact mk S2 a2 O' xs' ys' he.fit he.rel p2 (hH.fra.trans he.fra) f1.B f1.ty f2 eH hy'
      | _=>
       exact hQ _ _ _ _ _ hK ⟨⟨he.fit.size,he.fit.fits,he.fit.old⟩,⟨he.rel.ext,he.rel.loc,he.rel.len,he.rel.nE,he.rel.fresh⟩,
        ⟨he.wf.old,fun id aX=>by
         obtain⟨mD,hc'⟩:=f1.ty id (S.L[id]'(WR.lk id aX)).1 (S.L[id]'(WR.lk id aX)).2 (Im _);exact(I9.1 hc').1⟩,f1,hH.fra.trans he.fra,fun _=>⟨rfl,p2⟩⟩
     | false=>
      rw[jR] at h;simp only[cond_false] at h;obtain⟨J0,μ,Bq8,vB⟩:=h
      have mk:∀(S':St) (w':Wo) (a':Act) (WX:Wo) (xs ys:List Va),TX C.n S' a'->Zk S' w' WX->G6 (Jk b) a a'->(∀(id b:Nat),S.B[id]? = some b->S'.B[id]? = some b)->
        (∀(id:Nat) (t:TypeId) (cs:List Va),S.L[id]? = some (t,cs)->∃mD,S'.L[id]? = some (t,mD))->(∀id,id<S.L.length->id∉sp.Ws.map (·.1)->S'.L[id]? = S.L[id]?)->
        L2 S' sp.uB=some xs->Mg S' sp.Ws=some ys->zrm C S.bT WX (Jk b) a sp (xs++ys) WX a' WX:=by
       intro S' w' a' WX xs ys h1 h2 h4 h5 h6 h7 h8 h9;obtain⟨g1,g2⟩:=Am hs hw h2 h5 h6 h7 (U0 h8).1 h9;have hf1:=Al (ys:=ys) hs hf h1 h4 h8;refine⟨⟨hf1.size,hf1.fits,hf1.old⟩,⟨Q0.refl _ _,g2,by show (Ye S sp (xs++ys)).L.length=_; rw[g1]; exact hw.len,hw.nE,fun id b aX hb=>?_⟩,⟨I8 _,fun id aX=>by show id<(Ye S sp (xs++ys)).L.length; rw[g1]; exact(Oz.1 aX).1⟩,h4⟩;have:id<S.B.length:=(I9.1 hb).1;have DJ8:S.B.length<=id:=aX;omega
      obtain⟨xs,ys,hx,hy,hk,hI⟩:=PY (Bq8 wr hw.ext hw.lt)
      refine Dw (fun n a' WX=>∃xs ys S',μ (xs++ys) WX=n/\J0 (xs++ys) WX/\Jt sp.ks (xs++ys)=true/\xs.length=sp.uB.length/\Mg S' sp.Ws=some ys/\(∀(id:Nat) (t:TypeId) (cs:List Va),S.L[id]? = some (t,cs)->∃mD,S'.L[id]? = some (t,mD))/\zrm C S.bT WX (Jk b) a sp (xs++ys) WX a' WX)
       (m:=μ (xs++ys) wr) ⟨xs,ys,S,rfl,hI,hk,(U0 hx).1,hy,fun _ _ cs h=>⟨cs,h⟩,mk S w a wr xs ys hf hw (G6.refl _ _) (fun _ _ h=>h) (fun _ _ cs h=>⟨cs,h⟩) (fun _ _ _=>rfl) hx hy⟩ ?_
      rintro n a' WX ⟨xs,ys,S',rfl,hI,hk,hxl,hyl,hty,hH⟩;obtain⟨t1,t2⟩:=An hs.nd hty hxl hyl
      have hlen:(Ye S sp (xs++ys)).L.length=S.L.length:=by
       have:(Ye S.bT sp (xs++ys)).L.length=S.B.length:=hH.rel.len;rw[<-hw.len] at this;exact this
      refine Yh E b _ WX WX a' _ _ (VW vB hk WX hH.rel.lt hI) hH.fit hH.rel hH.wf fun e S2 w2 a2 O' hK he=>?_
      have pZ:Ps (Ye S sp (xs++ys)) S2:=⟨he.fr.B,he.fr.ty,he.fr.lk⟩;obtain⟨f1,f2⟩:=zgn hs WR hlen t1 t2 pZ
      cases e with
      | normal=>
       obtain⟨xs',ys',eH,hy',hk',hI',IQ⟩:=PY (hK O' he.rel.ext he.rel.lt);refine⟨μ (xs'++ys') O',IQ,xs',ys',S2,rfl,hI',hk',(U0 eH).1,hy',f1.ty,?_⟩;exact mk S2 w2 a2 O' xs' ys' he.fit he.rel (hH.fra.trans he.fra) f1.B f1.ty f2 eH hy'
      | _=>
       exact hQ _ _ _ _ _ hK ⟨⟨he.fit.size,he.fit.fits,he.fit.old⟩,⟨he.rel.ext,he.rel.loc,he.rel.len,he.rel.nE,he.rel.fresh⟩,
        ⟨he.wf.old,fun id aX=>by
         obtain⟨mD,hc'⟩:=f1.ty id (S.L[id]'(WR.lk id aX)).1 (S.L[id]'(WR.lk id aX)).2 (Im _);exact(I9.1 hc').1⟩,f1,hH.fra.trans he.fra,fun hp=>by rw[jR] at hp; cases hp⟩
 | .rangeFunc _ _ _ _,_,_,_,_,_,_,h,_,_,_,_=>h.elim
 | .goto _,_,_,_,_,_,_,h,_,_,_,_=>h.elim
 | .refuse _,_,_,_,_,_,_,h,_,_,_,_=>h.elim
def zgq:List Va->Nat->PT SV
 | [],_=>.leaf
 | v::r,i=>PT.set 12 (zgq r (i+1)) i (.un (.v v))
theorem zb7:∀{l:List Va} {k i:Nat} {sv:SV},k+l.length<=4000->(zgq l k).get i=some sv->∃v,l[i-k]? = some v/\k<=i/\sv=.un (.v v)
 | [],k,i,sv,_,h=>by simp[zgq,PT.get] at h
 | v::r,k,i,sv,hl,h=>by
  simp only[zgq] at h;simp only[List.length_cons] at hl;rw[PT.mQ _ 12 _ _ _ (by show @LT.lt Nat _ (k+1) (2 ^ 12); have e:(2:Nat) ^ 12=4096:=rfl; omega)] at h
  by_cases hk:k=i
  ·subst hk;rw[E' rfl] at h;simp only[I1] at h;exact⟨v,Qs,I8 _,h.symm⟩
  ·rw[C' hk] at h;obtain⟨u,h1,h2,h3⟩:=zb7 Qo h;refine⟨u,?_,Qo,h3⟩;have:i-k=(i-(k+1))+1:=Qo;rw[this]; simpa using h1
def GB(args:List Va):St:={ F:=zgq args 0,L:=[],B:=[],old:=0,lk:=[],r:=1 }
def zhg(C:VT)(S:St)(w:Wo):List ResultVar->(List Va->Prop)->Prop
 | [],K=>K []
 | .tmp t::r,K=>match Lg S [] (.tmp t) with
  | some v=>zhg C S w r fun l=>K (v::l)
  | none=>False
 | .cell p t::r,K=>match C.T t,CD S [] (.tmp p) with
  | some ty,some (.loc id 0)=>match S.L[id]? with
   | some (_,cs)=>bif Nat.beq cs.length ty.ks.length then
     (match ty.val cs with
      | some v=>zhg C S w r fun l=>K (v::l)
      | none=>False)
    else False
   | none=>False
  | some ty,some (.el o n)=>zgc ty.ks fun vs=>match ty.val vs with
   | some v=>Q2 S.bs w o n vs/\zhg C S w r fun l=>K (v::l)
   | none=>False
  | _,_=>False
def zj1:List Va->Va
 | [v]=>v
 | l=>.tuple l.toArray
def zo1(C:VT)(sps:List (Nat×X3))(args:List Va)(body:Code)(res:List ResultVar)(w:Wo)(R:Va->Wo->Prop):Prop:=
 zed C sps body (GB args) w fun e S w'=>match e with
  | .normal | .ret=>zhg C S w' res fun l=>bif C.pm then R (zj1 l) w' else ∀wr,Q0 S.bs w' wr->R (zj1 l) wr
  | _=>False
theorem zqm{C:VT}(E:zn2 C){S:St}{w wr:Wo}{a:Act}(hf:TX C.n S a)(hw:Zk S w wr):∀{res:List ResultVar} {K:List Va->Prop},zhg C S w res K->
  ∃l,K l/\l.length=res.length/\(res.mapM (m:=Sem) fun
   | .tmp t=>pure (a.tmps.getD t undef)
   | .cell p t=>do loadVar t (<-asAddr (a.tmps.getD p undef))).run C.P wr=.ok l wr:=by
 have hd:∀{x:Operand} {e:EV},CD S [] x=some e->EV.den S e (a.eval x):=fun {x e} hb=>by
  have:=ZP (ops:=#[]) (hf.enter #[] (fun _=>False)).fit (pc:=[]) (fun p hp=>by cases hp) (S:={ S with r:=S.r+1 }) (x:=x) (e:=e) (by
   cases x with
   | tmp t=>
    simp only[CD] at hb ⊢
    split at hb
    ·exact hb
    ·rename_i r uL y hg
     cases cD:Nat.beq r S.r&&Cf uL [] with
     | false=>rw[cD] at hb; cases hb
     | true=>
      simp only[A'] at cD;have:=Ic cD.1;have h2:=hf.old t r uL y hg;omega
    ·cases hb
   | const v=>exact hb
   | global g=>exact hb
   | func f=>exact hb)
  exact EV.gF (S:={ S with r:=S.r+1 }) (fun _ _ h=>h) this
 intro res
 induction res with
 | nil=>intro K h; exact⟨[],h,rfl,Qs⟩
 | cons x r ih=>
  intro K h
  cases x with
  | tmp t=>
   simp only[zhg] at h
   split at h
   ·rename_i v hv;obtain⟨l,h1,h2,h3⟩:=ih h
    have hv':a.tmps.getD t undef=v:=by
     unfold Lg at hv
     split at hv
     ·rename_i e he;exact zdq hv (hd he)
     ·cases hv
    refine⟨v::l,h1,by simp[h2],?_⟩;simp only[List.mapM_cons,Sem.run_bind,Sem.run_pure,Result.andThen_ok,h3,hv']
   ·exact h.elim
  | cell p t=>
   simp only[zhg] at h
   split at h
   ·rename_i ty id ht he;obtain⟨b,hb,hx⟩:=hd he;simp only[Act.eval] at hx
    split at h
    ·rename_i t' cs hl
     cases hc:Nat.beq cs.length ty.ks.length with
     | false=>rw[hc] at h; exact h.elim
     | true=>
      rw[hc] at h;simp only[cond_true] at h
      split at h
      ·rename_i v hv;obtain⟨l,h1,h2,h3⟩:=ih h
       have hl2:=Tk E.T ht hv (Ic hc) (a:=⟨b,0,none⟩) (w:=wr) (fun j y hy=>by
        rw[Addr.add_lit,KI hw hl hb,Nat.zero_add]; exact hy)
       refine⟨v::l,h1,by simp[h2],?_⟩;have ha:(asAddr (a.tmps.getD p undef)).run C.P wr=.ok ⟨b,0,none⟩ wr:=by rw[hx]; rfl
       simp only[List.mapM_cons,Sem.run_bind,ha,Sem.run_pure,Result.andThen_ok,hl2,h3]
      ·exact h.elim
    ·exact h.elim
   ·rename_i ty o n ht he;obtain⟨ad,ho,hx⟩:=hd he;simp only[Act.eval] at hx;obtain⟨vs,hlen,h⟩:=TH h
    split at h
    ·rename_i v hv;obtain⟨hcx,h⟩:=h;obtain⟨l,h1,h2,h3⟩:=ih h;have hl2:=Tk E.T ht hv hlen (a:=ad.add n) (w:=wr) (hcx.cells hw.ext ho);refine⟨v::l,h1,by simp[h2],?_⟩;have ha:(asAddr (a.tmps.getD p undef)).run C.P wr=.ok (ad.add n) wr:=by rw[hx]; rfl
     simp only[List.mapM_cons,Sem.run_bind,ha,Sem.run_pure,Result.andThen_ok,hl2,h3]
    ·exact h.elim
   ·exact h.elim
theorem Fc{C:VT}(E:zn2 C){sps:List (Nat×X3)}{f:FuncId}{fn:Func}{body:Code}{args:List Va}{w:Wo}{R:Va->Wo->Prop}(hf:C.P.funcs[f]? = some fn)(hb:fn.body=some body)(hn:fn.ntmps=C.n)(hargs:args.length<=C.n)(hn4:C.n<=4000)(hrd:C.rd=none)(h:zo1 C sps args body fn.results.toList w R):Calls C.P f args.toArray w fun e w'=>∃v wv,e=.returned v/\(C.pm=true->wv=w/\Q0 [] w w')/\(C.pm=true->R v wv)/\(C.pm=false->R v w'):=by
 refine(callsIn_wide (n:=0)).1 (callsIn_of_wp hf hb trivial ?_);have hF:Gy C.rd=Fence.wide:=by rw[hrd]; rfl
 rw[<-hF]
 have CF0:TX C.n (GB args) { tmps:=args.toArray++Array.replicate (fn.ntmps-args.toArray.size) undef,defers:=[] }:=by
  have A27:∀i sv,(GB args).F.get i=some sv->∃v,args[i]? = some v/\sv=.un (.v v):=fun i sv hs=>by
   obtain⟨v,h1,_,h3⟩:=zb7 Qo hs;exact⟨v,by simpa using h1,h3⟩
  refine⟨by simp[hn]; omega,fun i x hx=>?_,fun i r pc x hx=>?_⟩
  ·obtain⟨v,h1,h2⟩:=A27 i _ hx;cases h2;show _=v;rw[Array.getD_eq_getD_getElem?,Array.getElem?_append_left (by simpa using (I9.1 h1).1)];simp[h1]
  ·obtain⟨v,h1,h2⟩:=A27 i _ hx;cases h2
 have uI:Zk (GB args) w w:=⟨Q0.refl _ _,fun id t cs hl=>by simp[GB] at hl,rfl,List.nodup_nil,fun id b _ hb=>by simp[GB] at hb⟩;refine Yh E body (GB args) w w _ _ _ h CF0 uI ⟨Ie _,fun id aX=>by cases aX⟩ fun e S w' a' WX hK he=>?_
 have fin:zhg C S w' fn.results.toList (fun l=>bif C.pm then R (zj1 l) w' else ∀wr,Q0 S.bs w' wr->R (zj1 l) wr)->a'.defers=[]/\∃v,(results fn a'.tmps).run C.P WX=.ok v WX/\∃v' wv,Ending.returned v=.returned v'/\(C.pm=true->wv=w/\Q0 [] w WX)/\(C.pm=true->R v' wv)/\(C.pm=false->R v' WX):=fun hr=>by
  obtain⟨l,h1,h2,h3⟩:=zqm E he.fit he.rel hr;refine⟨he.fra.1,zj1 l,?_,zj1 l,w',rfl,fun hp=>?_,fun hp=>?_,fun hp=>?_⟩
  ·simp only[results,Sem.run_bind,Array.mapM_eq_mapM_toList,Sem.run_map];refine(congrArg (fun r:Result (List Va)=>(r.andThen fun a w'=>Result.ok a.toArray w').andThen fun vs w'=>(Pure.pure (if h:vs.size=1 then vs[0] else .tuple vs):Sem Va).run C.P w') h3).trans ?_;simp only[Result.andThen_ok,Sem.run_pure]
   congr 1
   cases l with
   | nil=>rfl
   | cons x r=>
    cases r with
    | nil=>rfl
    | cons y q=>simp[zj1]
  ·obtain⟨p1,p2⟩:=he.pm hp;refine⟨p1,?_⟩;have hx:=he.rel.ext;rw[<-p1];have hbs:S.bs=[]:=by unfold St.bs; rw[p2]; rfl
   rw[hbs] at hx;exact hx
  ·rw[hp] at h1; exact h1
  ·rw[hp] at h1; exact h1 WX he.rel.ext
 cases e with
 | normal=>exact fin hK
 | ret=>exact fin hK
 | _=>exact hK.elim
theorem zjl{C:VT}(E:zn2 C){sps:List (Nat×X3)}{f:FuncId}{fn:Func}{body:Code}{args:List Va}{w:Wo}{bs:List Nat}{r:Va}(hf:C.P.funcs[f]? = some fn)(hb:fn.body=some body)(hn:fn.ntmps=C.n)(hargs:args.length<=C.n)(hn4:C.n<=4000)(jR:C.pm=true)(hrd:C.rd=none)(h:∀wr,Q0 bs w wr->zo1 C sps args body fn.results.toList wr fun v _=>v=r):Q4 bs C.P f args.toArray w r:=fun wr hx=>
 (Fc E hf hb hn hargs hn4 hrd (h wr hx)).mono fun e w' ⟨v,_,he,h1,h2,_⟩=>by
  have:=h2 jR;subst this;exact⟨he,(h1 jR).2⟩
theorem zmj{C:VT}(E:zn2 C){sps:List (Nat×X3)}{f:FuncId}{fn:Func}{body:Code}{args:List Va}{w:Wo}{R:Va->Wo->Prop}(hf:C.P.funcs[f]? = some fn)(hb:fn.body=some body)(hn:fn.ntmps=C.n)(hargs:args.length<=C.n)(hn4:C.n<=4000)(jR:C.pm=false)(hrd:C.rd=none)(h:zo1 C sps args body fn.results.toList w R):Calls C.P f args.toArray w fun e w'=>∃v,e=.returned v/\R v w':=
 (Fc E hf hb hn hargs hn4 hrd h).mono fun e w' ⟨v,_,he,_,_,h3⟩=>⟨v,he,h3 jR⟩
theorem OD{w:Wo}{b:Nat}{cs:Array Va}{t:TypeId}{fz:Nat×Nat}(h:w.heap[b]? = some (.cells cs t fz))(k:Nat):w.cell? ⟨b,k,none⟩=cs[k]? := by
 simp[World.cell?,h]
theorem VX{w:Wo}{b:Nat}{o:Obj}(h:w.heap[b]? = some o):b<w.heap.size:=by
 rcases Nat.lt_or_ge b w.heap.size with hl | hl
 ·exact hl
 ·rw[Array.getElem?_eq_none_iff.2 hl] at h; cases h
theorem J9{bs:List Nat}{w:Wo}{b k0:Nat}{cs:List Va}{t:TypeId}{fz:Nat×Nat}(h:w.heap[b]? = some (.cells cs.toArray t fz))(hb:b∉bs){k:Nat}{v:Va}(hk:cs[k0+k]? = some v):Jz bs w (some ⟨b,k0,none⟩) k v:=
 ⟨⟨b,k0,none⟩,rfl,hb,by rw[Addr.add_lit,OD h]; simpa using hk⟩
theorem UD{bs:List Nat}{w:Wo}{o:OA}{n:Nat}{v:Va}(h:Jz bs w o n v):Q2 bs w o n [v]:=h
theorem UY{bs:List Nat}{w:Wo}{o:OA}:∀{n:Nat} {vs:List Va},(∀j v,vs[j]? = some v->Jz bs w o (n+j) v)->Q2 bs w o n vs
 | _,[],_=>trivial
 | n,[v],h=>h 0 v rfl
 | n,v::u::r,h=>⟨h 0 v rfl,UY (vs:=u::r) fun j x hj=>by
   have:=h (j+1) x (by simpa using hj);rw[show n+1+j=n+(j+1) by omega]; exact this⟩
theorem OE{bs:List Nat}{w:Wo}{b k0:Nat}{cs:List Va}{t:TypeId}{fz:Nat×Nat}(h:w.heap[b]? = some (.cells cs.toArray t fz))(hb:b∉bs){n:Nat}{vs:List Va}(hk:∀j v,vs[j]? = some v->cs[k0+(n+j)]? = some v):Q2 bs w (some ⟨b,k0,none⟩) n vs:=
 UY fun j v hj=>J9 h hb (hk j v hj)
theorem Q2.ext{bs:List Nat}{w w':Wo}{o:OA}{n:Nat}{vs:List Va}(h:Q2 bs w o n vs)(hx:Q0 bs w w'):Q2 bs w' o n vs:=
 UY fun j v hj=>(h.get j v hj).ext hx
theorem Q2.less{bs cs:List Nat}{w:Wo}{o:OA}{n:Nat}{vs:List Va}(h:Q2 bs w o n vs)(hs:∀x∈cs,x∈bs):Q2 cs w o n vs:=
 UY fun j v hj=>(h.get j v hj).less hs
theorem Zg{bs:List Nat}{w w':Wo}{b:Nat}{o:Obj}(h:w.heap[b]? = some o)(hx:Q0 bs w w')(hb:b∉bs):w'.heap[b]? = some o:=by
 rw[hx.block b (VX h) hb]; exact h
theorem Lq{w:Wo}{b k n:Nat}{cs vs:List Va}{t:TypeId}{fz:Nat×Nat}(h:w.heap[b]? = some (.cells cs.toArray t fz)):(RD w (some ⟨b,k,none⟩) n vs).heap[b]? = some (.cells (zfh cs (k+n) vs).toArray t fz):=GW vs w b k n cs t fz h
theorem zhw(bs:List Nat)(a:Addr):∀(vs:List Va) (w:Wo) (n:Nat),a.block∈bs->Q0 bs w (eJ w a n vs)
 | [],w,n,_=>Q0.refl _ _
 | v::r,w,n,h=>((Q0.refl bs w).setCell (p:=a.add n) (.inr (by rw[ZJ]; exact h)) v).trans (zhw bs a r _ _ h)
theorem Pn{bs:List Nat}{w:Wo}{o:OA}{n:Nat}{vs:List Va}(h:∀a,o=some a->a.block∈bs):Q0 bs w (RD w o n vs):=by
 cases o with
 | none=>exact Q0.refl _ _
 | some a=>exact zhw bs a vs w n (h a rfl)
theorem Np{bs:List Nat}{w:Wo}{b k0 n k:Nat}{cs:List Va}{t:TypeId}(h:w.heap[b]? = some (.cells cs.toArray t (0,0)))(hb:b∉bs)(hk:k0+(n+k)<=cs.length):Xi bs w (some ⟨b,k0,none⟩) n k:=
 ⟨⟨b,k0,none⟩,rfl,hb,fun j h1 h2=>by
  rw[Addr.add_lit,OD h];refine⟨⟨cs[k0+j]' Qo,Qs⟩,?_⟩;simp[World.frozen?,h]⟩
theorem Q0.fresh{bs cs:List Nat}{w0 w w':Wo}(h:Q0 bs w0 w)(k:Q0 cs w w')(hc:∀x∈cs,w0.heap.size<=x\/x∈bs):Q0 bs w0 w':=
 ⟨k.os.trans h.os,k.tape.trans h.tape,k.output.trans h.output,IB h.size k.size,fun i hi hb=>(k.block i (Nat.lt_of_lt_of_le hi h.size) (fun hx=>by
  rcases hc i hx with h1 | h1
  ·omega
  ·exact hb h1)).trans (h.block i hi hb)⟩
theorem Dd{bs:List Nat}{P:Program}{f:FuncId}{args:Array Va}{w:Wo}{v:Va}(h:∀wr,Q0 bs w wr->Calls P f args wr fun e w'=>∃v0,e=.returned v0/\(v0=v/\Q0 [] wr w')):Q4 bs P f args w v:=
 fun wr hx=>(h wr hx).mono fun e w' ⟨v0,he,hv,eH⟩=>⟨by rw[he,hv],eH⟩
structure K0 where
 floor:Int
 on:Bool
 v:Int
 w:Int
 sum:Int
 deriving DecidableEq,Inhabited
structure Jj where
 I':Int
 Sp:Int
 Ww:Int
 locals:List Int
 RI:List Bool
 deriving DecidableEq,Inhabited
structure Zr where
 used:Bool
 parent:Int
 name:ByteArray
 weight:Int
 IE:Int
 period:Int
 next:Int
 sum:Int
 IT:Jj
 IF:List K0
 deriving DecidableEq,Inhabited
structure Pi where
 state:Int
 group:Int
 R9:Int
 nice:Int
 mask:Int
 v:Int
 sum:Int
 used:Int
 load:Int
 deriving DecidableEq,Inhabited
structure Pf where
 up:Bool
 cur:Int
 WS:Int
 busy:Int
 idle:Int
 deriving DecidableEq,Inhabited
structure Q7 where
 now:Int
 IE:List Pf
 tasks:List Pi
 ID:List Zr
 deriving DecidableEq,Inhabited
structure ztx where
 kind:Int
 rM:Int
 n:Int
 deriving DecidableEq,Inhabited
def gi{α:Type}[Inhabited α](l:List α)(i:Int):α:=l.getD i.toNat default
theorem zo6{α:Type}[Inhabited α](l:List α)(k:Nat):gi l (k:Int)=l.getD k default:=rfl
theorem Jr{α:Type}[Inhabited α]{l:List α}{k:Nat}(h:k<l.length):gi l (k:Int)=l[k]:=by
 simp[zo6,List.getD_eq_getElem?_getD,h]
theorem zsa{α:Type}[Inhabited α]{l:List α}{k:Nat}(h:k<l.length):l[k]? = some (gi l (k:Int)):=by
 rw[Jr h]; simp[h]
theorem zix{α:Type}[Inhabited α]{l:List α}{i:Int}(h0:0<=i)(h1:i<l.length):gi l i∈l:=by
 obtain⟨k,rfl⟩:=Int.eq_ofNat_of_zero_le h0;have:k<l.length:=Qo;rw[Jr this]; exact List.getElem_mem this
theorem ziw{α:Type}[Inhabited α]{l m:List α}(hl:l.length=m.length)(h:∀k:Nat,k<l.length->gi l (k:Int)=gi m (k:Int)):l=m:=by
 refine List.ext_getElem hl fun k h1 h2=>?_
 have:=h k h1
 rwa[Jr h1,Jr h2] at this
theorem QC{α:Type}[Inhabited α](l:List α)(x:α){i j:Int}(h0:0<=i)(hi:i<(l.length:Int))(hj:0<=j):gi (l.set i.toNat x) j=if i=j then x else gi l j:=by
 obtain⟨k,rfl⟩:=Int.eq_ofNat_of_zero_le h0;obtain⟨q,rfl⟩:=Int.eq_ofNat_of_zero_le hj;simp only[zo6,Ih,List.getD_eq_getElem?_getD,List.getElem?_set]
 by_cases hkq:k=q
 ·subst hkq;have:k<l.length:=Qo;simp[this]
 ·have:¬((k:Int)=q):=Qo;simp[hkq,this]
def PS(s:K0):List Va:=[I s.floor,.bool s.on,I s.v,I s.w,I s.sum]
def YT(t:Pi):List Va:=[I t.state,I t.group,I t.R9,I t.nice,I t.mask,I t.v,I t.sum,I t.used,I t.load]
def Mx(c:Pf):List Va:=[.bool c.up,I c.cur,I c.WS,I c.busy,I c.idle]
def zo0(o:ztx):List Va:=[I o.kind,I o.rM,I o.n]
def YR(n:Int):List Va:=[I n]
def OH(b:Bool):List Va:=[.bool b]
structure MG where
 lO:OA
 lC:Nat
 dO:OA
 dC:Nat
 sO:OA
 sC:Nat
 deriving Inhabited
def Yb(g:Zr)(m:MG):List Va:=[.bool g.used,I g.parent,.string g.name,I g.weight,I g.IE,I g.period,I g.next,I g.sum,
 I g.IT.I',I g.IT.Sp,I g.IT.Ww,.slice m.lO g.IT.locals.length m.lC,.slice m.dO g.IT.RI.length m.dC,.slice m.sO g.IF.length m.sC]
def Rd{α:Type}[Inhabited α](enc:α->List Va)(z:Nat)(bs:List Nat)(w:Wo)(o:OA)(l:List α):Prop:=
 ∀i:Int,0<=i->i<(l.length:Int)->Q2 bs w o (Int.toNat i*z) (enc (gi l i))
theorem Rd.ext{α:Type}[Inhabited α]{enc:α->List Va}{z:Nat}{bs:List Nat}{w w':Wo}{o:OA}{l:List α}(h:Rd enc z bs w o l)(hx:Q0 bs w w'):Rd enc z bs w' o l:=
 fun i h0 h1=>(h i h0 h1).ext hx
theorem Rd.less{α:Type}[Inhabited α]{enc:α->List Va}{z:Nat}{bs cs:List Nat}{w:Wo}{o:OA}{l:List α}(h:Rd enc z bs w o l)(hs:∀x∈cs,x∈bs):Rd enc z cs w o l:=
 fun i h0 h1=>(h i h0 h1).less hs
theorem Jz.wide{bs cs:List Nat}{w:Wo}{o:OA}{n:Nat}{v:Va}(h:Jz bs w o n v)(hs:∀x∈cs,x∈bs\/w.heap.size<=x):Jz cs w o n v:=by
 obtain⟨a,ho,hb,hc⟩:=h;refine⟨a,ho,fun hx=>?_,hc⟩;have IQ:=World.block_lt_of_cell? w _ hc;rw[ZJ] at IQ;rcases hs _ hx with h1 | h1
 ·exact hb h1
 ·omega
theorem Q2.wide{bs cs:List Nat}{w:Wo}{o:OA}{n:Nat}{vs:List Va}(h:Q2 bs w o n vs)(hs:∀x∈cs,x∈bs\/w.heap.size<=x):Q2 cs w o n vs:=
 UY fun j v hj=>(h.get j v hj).wide hs
theorem Rd.wide{α:Type}[Inhabited α]{enc:α->List Va}{z:Nat}{bs cs:List Nat}{w:Wo}{o:OA}{l:List α}(h:Rd enc z bs w o l)(hs:∀x∈cs,x∈bs\/w.heap.size<=x):Rd enc z cs w o l:=
 fun i h0 h1=>(h i h0 h1).wide hs
theorem Q2.some{bs:List Nat}{w:Wo}{o:OA}{n:Nat}{v:Va}{r:List Va}(h:Q2 bs w o n (v::r)):o.isSome=true:=by
 obtain⟨a,rfl,_,_⟩:=h.get 0 v rfl;rfl
theorem Rd.ix{α:Type}[Inhabited α]{enc:α->List Va}{z:Nat}{bs:List Nat}{w:Wo}{o:OA}{l:List α}(h:Rd enc z bs w o l)(he:∀x,∃v r,enc x=v::r){i:Int}(h0:0<=i)(h1:i<(l.length:Int)):Ix o l.length i:=by
 obtain⟨v,r,e⟩:=he (gi l i);have:=h i h0 h1;rw[e] at this;exact⟨h0,h1,this.some⟩
theorem ZK(x:K0):∃v r,PS x=v::r:=⟨_,_,rfl⟩
theorem QL(x:Pi):∃v r,YT x=v::r:=⟨_,_,rfl⟩
theorem Y0(x:Pf):∃v r,Mx x=v::r:=⟨_,_,rfl⟩
theorem Vg(x:Int):∃v r,YR x=v::r:=⟨_,_,rfl⟩
theorem Aa(x:Bool):∃v r,OH x=v::r:=⟨_,_,rfl⟩
abbrev zh7:=Rd PS 5
abbrev zrh:=Rd YT 9
abbrev zwc:=Rd Mx 5
abbrev zka:=Rd YR 1
abbrev zrg:=Rd OH 1
structure Mj (bs:List Nat) (w:Wo) (o:OA) (gs:List Zr) (ms:Nat->MG):Prop where
 cells:∀i:Int,0<=i->i<(gs.length:Int)->Q2 bs w o (Int.toNat i*14) (Yb (gi gs i) (ms i.toNat))
 locals:∀i:Int,0<=i->i<(gs.length:Int)->zka bs w (ms i.toNat).lO (gi gs i).IT.locals
 RI:∀i:Int,0<=i->i<(gs.length:Int)->zrg bs w (ms i.toNat).dO (gi gs i).IT.RI
 IF:∀i:Int,0<=i->i<(gs.length:Int)->zh7 bs w (ms i.toNat).sO (gi gs i).IF
theorem Mj.ext{bs:List Nat}{w w':Wo}{o:OA}{gs:List Zr}{ms:Nat->MG}(h:Mj bs w o gs ms)(hx:Q0 bs w w'):Mj bs w' o gs ms:=
 ⟨fun i a b=>(h.cells i a b).ext hx,fun i a b=>(h.locals i a b).ext hx,fun i a b=>(h.RI i a b).ext hx,fun i a b=>(h.IF i a b).ext hx⟩
theorem Mj.less{bs cs:List Nat}{w:Wo}{o:OA}{gs:List Zr}{ms:Nat->MG}(h:Mj bs w o gs ms)(hs:∀x∈cs,x∈bs):Mj cs w o gs ms:=
 ⟨fun i a b=>(h.cells i a b).less hs,fun i a b=>(h.locals i a b).less hs,fun i a b=>(h.RI i a b).less hs,fun i a b=>(h.IF i a b).less hs⟩
theorem Mj.wide{bs cs:List Nat}{w:Wo}{o:OA}{gs:List Zr}{ms:Nat->MG}(h:Mj bs w o gs ms)(hs:∀x∈cs,x∈bs\/w.heap.size<=x):Mj cs w o gs ms:=
 ⟨fun i a b=>(h.cells i a b).wide hs,fun i a b=>(h.locals i a b).wide hs,fun i a b=>(h.RI i a b).wide hs,fun i a b=>(h.IF i a b).wide hs⟩
theorem Mj.ix{bs:List Nat}{w:Wo}{o:OA}{gs:List Zr}{ms:Nat->MG}(h:Mj bs w o gs ms){i:Int}(h0:0<=i)(h1:i<(gs.length:Int)):Ix o gs.length i:=
 ⟨h0,h1,(h.cells i h0 h1).some⟩
def Y5(p:Nat)(vs:List Va):Int:=match vs[p]? with
 | some (.int _ i)=>i
 | _=>0
def zmf(I:Nat->Prop)(vs:List Va):Prop:=∃k:Nat,I k/\vs=[.int .i64 (k:Int)]
def Xl(n:Nat)(p:Nat)(vs:List Va):Nat:=((n:Int)+1-Y5 p vs).toNat
theorem Xg{B:(List Va->Prop)->(List Va->Nat)->Int->Prop}(n:Nat){si:Int}(s:Nat)(hs:si=s)(I:Nat->Prop)(h0:I s)(hB:∀k:Nat,I k->B (zmf I) (Xl n 0) (k:Int)) :
  ∃(IS:List Va->Prop) (mu:List Va->Nat),IS [.int .i64 si]/\∀i:Int,IS [.int .i64 i]->B IS mu i:=by
 refine⟨zmf I,Xl n 0,⟨s,h0,by rw[hs]⟩,?_⟩;rintro i ⟨k,hI,he⟩;simp only[I5,I6,true_and,and_true] at he;subst he;exact hB k hI
theorem QA{n k:Nat}{I:Nat->Prop}(hk:k<n)(hI:I (k+1)):zmf I [.int .i64 ((k:Int)+1)]/\Xl n 0 [.int .i64 ((k:Int)+1)]<Xl n 0 [.int .i64 (k:Int)]:=by
 refine⟨⟨k+1,hI,Qs⟩,?_⟩;simp only[Xl,Y5,Ig];omega
def zot(I:Nat->Wo->Prop)(vs:List Va)(w:Wo):Prop:=∃k:Nat,I k w/\vs=[.int .i64 (k:Int)]
def Zo(n:Nat)(p:Nat)(vs:List Va)(_:Wo):Nat:=Xl n p vs
theorem P1{B:(List Va->Wo->Prop)->(List Va->Wo->Nat)->Int->Wo->Prop}{bs L:List Nat}{wv:Wo}(n:Nat){si:Int}(s:Nat)(hs:si=s)(I:Nat->Wo->Prop)(h0:∀wr,Q0 bs wv wr->(∀bq∈L,bq<wr.heap.size)->I s wr)(hB:∀(k:Nat) (w1:Wo),(∀bq∈L,bq<w1.heap.size)->I k w1->B (zot I) (Zo n 0) (k:Int) w1) :
  ∃(IS:List Va->Wo->Prop) (mu:List Va->Wo->Nat),(∀wr,Q0 bs wv wr->(∀bq∈L,bq<wr.heap.size)->IS [.int .i64 si] wr)/\∀(i:Int) (w1:Wo),(∀bq∈L,bq<w1.heap.size)->IS [.int .i64 i] w1->B IS mu i w1:=by
 refine⟨zot I,Zo n 0,fun wr hx hq=>⟨s,h0 wr hx hq,by rw[hs]⟩,?_⟩;rintro i w1 hq ⟨k,hI,he⟩;simp only[I5,I6,true_and,and_true] at he;subst he;exact hB k w1 hq hI
theorem Z7{n k:Nat}{I:Nat->Wo->Prop}{wr w1:Wo}(hk:k<n)(hI:I (k+1) wr):zot I [.int .i64 ((k:Int)+1)] wr/\Zo n 0 [.int .i64 ((k:Int)+1)] wr<Zo n 0 [.int .i64 (k:Int)] w1:=by
 refine⟨⟨k+1,hI,Qs⟩,?_⟩;simp only[Zo,Xl,Y5,Ig];omega
def zos(I:Int->Nat->Prop)(vs:List Va):Prop:=∃(x:Int) (k:Nat),I x k/\vs=[.int .i64 x,.int .i64 (k:Int)]
theorem TN{B:(List Va->Prop)->(List Va->Nat)->Int->Int->Prop}(n:Nat){xi si:Int}(s:Nat)(hs:si=s)(I:Int->Nat->Prop)(h0:I xi s)(hB:∀(x:Int) (k:Nat),I x k->B (zos I) (Xl n 1) x (k:Int)) :
  ∃(IS:List Va->Prop) (mu:List Va->Nat),IS [.int .i64 xi,.int .i64 si]/\∀(x i:Int),IS [.int .i64 x,.int .i64 i]->B IS mu x i:=by
 refine⟨zos I,Xl n 1,⟨xi,s,h0,by rw[hs]⟩,?_⟩;rintro x i ⟨x',k,hI,he⟩;simp only[I5,I6,true_and,and_true] at he;obtain⟨rfl,rfl⟩:=he;exact hB x k hI
theorem QF{n k:Nat}{I:Int->Nat->Prop}{x x':Int}(hk:k<n)(hI:I x' (k+1)):zos I [.int .i64 x',.int .i64 ((k:Int)+1)]/\Xl n 1 [.int .i64 x',.int .i64 ((k:Int)+1)]<Xl n 1 [.int .i64 x,.int .i64 (k:Int)]:=by
 refine⟨⟨x',k+1,hI,Qs⟩,?_⟩;simp only[Xl,Y5,Ig,List.getElem?_cons_succ];omega
theorem XJ:maxLen<=9223372036854775807:=by simp[maxLen]
theorem zem{k n:Nat}(h:(k:Int)<(n:Int))(hn:n<=maxLen):Qq .i64 ((k:Int)+1):=by
 have:=XJ;exact⟨Qo,Qo⟩
end Go.Proofs.YtnclplgaicdapaaGreatDoor
