/- Part 2 of what the law FnPlug needs. -/
import Derived.Test.YtnclplgaicdapaaGreatDoorFnPlugPa
import Derived.RangeFuncRecord
import Derived.OrdersIn
import Derived.TacticsIn
import Derived.Scope
set_option linter.unusedVariables false
set_option linter.unusedSimpArgs false
set_option maxRecDepth 100000
set_option maxHeartbeats 8000000
namespace Go.Proofs.YtnclplgaicdapaaGreatDoor
open Go.RowKit
def Vf(r:Option Nat):Fence:={ Fence.wide with round:=r }
theorem zax(r:Option Nat)(n:Nat):(Vf r).room n:=fun d h=>by simp[Vf,Fence.wide] at h
theorem Pv{r:Option Nat}{n:Nat}{P:Program}{f:FuncId}{args:Array Va}{w:Wo}{R:Ending->Wo->Prop}(h:Calls P f args w R):CallsIn (Vf r) n P f args w R:=(callsIn_wide (n:=n)).2 h
theorem zo5{r:Option Nat}{n:Nat}{P:Program}{f:FuncId}{args:Array Va}{w:Wo}{R:Ending->Wo->Prop}(h:CallsIn (Vf r) n P f args w R):Calls P f args w R:=(callsIn_wide (n:=n)).1 h
theorem zgg{r:Option Nat}{n m:Nat}{P:Program}{l:Nat}{f:FuncId}{tmps:Array Va}{asg body:Code}{w:Wo}{R:Ending->Wo->Prop}(h:RoundIn Fence.wide n P l f tmps asg body w R):RoundIn (Vf r) m P l f tmps asg body w R:=
 ⟨trivial,fun c cs _=>h.2 c cs (room_wide _)⟩
theorem ztw{r:Option Nat}{n:Nat}{P:Program}{row:String}{args:Array Va}{w:Wo}{R:Va->Wo->Prop}(h:Rows P row args w R):RowsIn (Vf r) n P row args w R:=fun c cs _=>by
 obtain⟨v,w',hr,hs⟩:=h c cs;exact⟨v,w',hr,(stepsIn_wide (P:=P)).2 hs⟩
theorem zoj{r:Option Nat}{P:Program}{o:Oper}{a:Act}{w:Wo}{next:Act->Wo->Prop}{Q:Exit->Act->Wo->Prop}(hd:∀c,o.op≠.defer c)(h:o.uponIn (Vf r) 0 P a next Q ((execOp a.eval o).run P w)):o.wpIn (Vf r) 0 P a w next Q:=
 ⟨fun _ _=>trivial,by rw[Oper.semAt_eq _ _ _ hd]; exact h⟩
theorem z0m{r:Option Nat}{P:Program}{o:Oper}{a:Act}{w:Wo}{next:Act->Wo->Prop}{Q:Exit->Act->Wo->Prop}(hd:∀c,o.op≠.defer c)(h:o.wpIn (Vf r) 0 P a w next Q):o.uponIn (Vf r) 0 P a next Q ((execOp a.eval o).run P w):=by
 have:=h.2;rw[Oper.semAt_eq _ _ _ hd] at this;exact this
theorem zg4{P:Program}{o:Oper}{ρ:Operand->Va}{c:Call}(hc:o.op=.defer c)(w:Wo):(∃d w',(execOp ρ o).run P w=.ok (.defer d) w')\/∃x w',(execOp ρ o).run P w=.halt x w':=by
 simp only[execOp,hc,Sem.run_bind]
 cases hr:(resolve ρ c o.type).run P w with
 | ok d w'=>exact .inl ⟨d,w',by simp[Result.andThen]⟩
 | halt x w'=>exact .inr ⟨x,w',by simp[Result.andThen]⟩
theorem zlc{P:Program}{C:Wo->Prop}{o:Oper}{ρ:Operand->Va}{w:Wo}{v:Va}(h:Oper.quietUpon P C w v ((execOp ρ o).run P w)):∀c,o.op≠.defer c:=fun c hc=>by
 rcases zg4 (P:=P) (ρ:=ρ) hc w with ⟨d,w',hr⟩ | ⟨x,w',hr⟩ <;> (rw[hr] at h; exact h)
theorem FD{r:Option Nat}{P:Program}{C:Wo->Prop}{o:Oper}{a:Act}{K:Act->Prop}{K':Act->Wo->Prop}{Q':Exit->Act->Wo->Prop}{w:Wo}(hw:C w)(h:∀a w',C w'->K a->K' a w')(hh:o.quiet P a C K):o.wpIn (Vf r) 0 P a w K' Q':=by
 obtain⟨v,h1,h2⟩:=hh;have h3:=h1 w hw;refine zoj (zlc h3) ?_;unfold Oper.quietAt at h3;generalize (execOp a.eval o).run P w=res at *
 cases res with
 | ok n w'=>
  cases n <;> simp only[Oper.quietUpon] at h3 <;> simp only[Oper.uponIn]
  case value u=>
   obtain⟨e1,e2⟩:=h3;rw[e1,e2];exact h _ _ hw h2
  case skip=>
   obtain⟨e1,e2⟩:=h3;rw[e1,<-e2];exact h _ _ hw h2
  case enter f args=>
   obtain⟨e1,e2⟩:=h3;rw[e1];exact⟨fun hx=>(by simp[Vf,Fence.wide] at hx),Pv (e2.mono fun e jB ⟨he,hc⟩=>by subst he; exact h _ _ hc h2)⟩
 | halt x w'=>exact h3.elim
section
variable {P:Program}{b:Frame}{a:Act}{k:List Item}{cs:List Frame}{w:Wo}
theorem VJ{c:Code}:step P (lone (b.atR a (.code (.scope c)::k)) cs w)=.next (lone (b.atR a (.code c :: .inScope c::k)) cs w):=
 step_lone_go (by simp[stepG,stepG.exec,Frame.atR])
theorem zf3{c:Code}:step P (lone (b.atR a (.inScope c::k)) cs w)=.next (lone (b.atR a k) cs w):=
 step_lone_go (by simp[stepG,stepG.exec,Frame.atR])
end
section
variable {F:Fence}{n:Nat}{P:Program}{Q:Exit->Act->Wo->Prop}{a:Act}{w:Wo}
theorem HF{c:Code}(h:c.wpIn F n P (Exit.noGoto Q) a w):(Code.scope c).wpIn F n P Q a w:=by
 intro b k cs hro hb hr;have h0:(lone (b.atR a (.code (.scope c)::k)) cs w).fenced P F:=fenced_calm hb hr rfl;obtain⟨e,a₁,w₁,hq,tZ⟩:=h b (.inScope c::k) cs hro hb hr
 cases e with
 | normal=>exact⟨.normal,a₁,w₁,hq,.head h0 VJ (StepsIn.trans tZ (.one (fenced_calm hb hr rfl) zf3))⟩
 | exit id=>exact⟨.exit id,a₁,w₁,hq,fun k' hk=>.head h0 VJ (tZ.1 k' (by simp[exitTo,hk])),fun hr' hk=>(let ⟨k₁,h1,h2⟩:=tZ.2 hr' (by simp[exitTo,hk]); ⟨k₁,h1,.head h0 VJ h2⟩)⟩
 | goto l=>exact hq.elim
 | ret=>exact⟨_,a₁,w₁,hq,.of_steps (.one h0 VJ) tZ⟩
 | panic ch=>exact⟨_,a₁,w₁,hq,.of_steps (.one h0 VJ) tZ⟩
 | outgrown=>exact⟨_,a₁,w₁,hq,.of_steps (.one h0 VJ) tZ⟩
theorem FB{c:Code}(I:Nat->Act->Wo->Prop){m:Nat}(h₀:I m a w)(round:∀m a w,I m a w->c.wpIn F n P (Exit.then (fun a' w'=>∃j,j<m/\I j a' w') Q) a w):(Code.loop c).wpIn F n P Q a w:=by
 intro b k cs hro hb hr
 have key:∀m a w,I m a w->∃e a' w',Q e a' w'/\ArrivesIn (Machine.fenced P F) P (lone (b.atR a (.code c :: .inLoop c::k)) cs w) b k cs e a' w':=by
  intro m
  induction m using Nat.strongRecOn with
  | _ m ih=>
   intro a w hI;obtain⟨e,a₁,w₁,hq,tZ⟩:=round m a w hI b (.inLoop c::k) cs hro hb hr
   cases e with
   | normal=>
    obtain⟨j,IS,hI₁⟩:=hq;obtain⟨e₂,a₂,w₂,hq₂,harr₂⟩:=ih j IS a₁ w₁ hI₁;exact⟨e₂,a₂,w₂,hq₂,.of_steps (StepsIn.trans tZ (.one (fenced_calm hb hr rfl) stepR_inLoop)) harr₂⟩
   | exit id=>exact⟨_,a₁,w₁,hq,.pass (x:=.inLoop c) rfl (fun _ _=>.inl Qs) tZ⟩
   | goto l=>exact⟨_,a₁,w₁,hq,.pass (x:=.inLoop c) rfl (fun _ _=>.inl Qs) tZ⟩
   | ret=>exact⟨_,a₁,w₁,hq,.pass (x:=.inLoop c) rfl (fun _ _=>.inl Qs) tZ⟩
   | panic ch=>exact⟨_,a₁,w₁,hq,.pass (x:=.inLoop c) rfl (fun _ _=>.inl Qs) tZ⟩
   | outgrown=>exact⟨_,a₁,w₁,hq,.pass (x:=.inLoop c) rfl (fun _ _=>.inl Qs) tZ⟩
 obtain⟨e,a',w',hq,tZ⟩:=key m a w h₀;exact⟨e,a',w',hq,.of_steps (.one (fenced_calm hb hr rfl) stepR_loop) tZ⟩
end
def zab(v:Va)(vs:List Va):Sem Next:=do let d <-Deferred.ofValue v vs.toArray; invoke d.target d.args
def zys(m:String)(v:Va)(vs:List Va):Sem Next:=invoke (.fn (.method m) #[]) (#[v]++vs.toArray)
def Ov(P:Program)(v:Va)(vs:List Va)(w:Wo)(R:Ending->Wo->Prop):Prop:=
 (∃(f:FuncId) (as0:Array Va),(zab v vs).run P w=.ok (.enter f as0) w/\Calls P f as0 w R) \/
 ∃(l:Nat) (f:FuncId) (tmps:Array Va) (asg body:Code),(zab v vs).run P w=.ok (.round l f tmps asg body) w/\RoundIn Fence.wide 0 P l f tmps asg body w R
theorem Ov.mono{P:Program}{v:Va}{vs:List Va}{w:Wo}{R R':Ending->Wo->Prop}(h:Ov P v vs w R)(hr:∀e w',R e w'->R' e w'):Ov P v vs w R':=by
 rcases h with ⟨f,as0,h1,h2⟩ | ⟨l,f,tmps,asg,body,h1,h2⟩
 ·exact .inl ⟨f,as0,h1,h2.mono hr⟩
 ·exact .inr ⟨l,f,tmps,asg,body,h1,h2.mono hr⟩
def zuc(C:Ug)(t:TypeId):Bool:=match C.T t with
 | some { agg:=_,ks:=_,d:=.int _ }=>true
 | _=>false
def EL(C:Ug):Op->Bool
 | .alloc _ | .box _ _ | .store _ _ _ | .buildSlice _ _ _=>true
 | .call { callee:=.value (.func f),args:=_,argTypes:=_ } => !(zms C.pf f).isSome
 | .call { callee:=.builtin b,args:=_,argTypes:=_ }=>match b with
  | .append | .copy=>true
  | _=>false
 | .call { callee:=.value (.tmp _),args:=_,argTypes:=_ } | .call { callee:=.invoke _ _,args:=_,argTypes:=_ }=>true
 | .makeSlice _ _ _ | .makeMap _ _ | .lookup _ _ _ _ | .mapUpdate _ _ _ _ | .insert _ _ _ _ | .range _ _ | .next _ _=>true
 | .convert s d _ => !(zuc C s&&zuc C d)
 | _=>false
def St.aX(S:St):St:={ S with old:=S.B.length }
def Q9(B:List Nat)(w w':Wo):Prop:=∀b∈B,w'.heap[b]? = w.heap[b]?
def z2l:Builtin->List RK
 | .append=>[.cell .slice]
 | _=>[.cell (.int .i64)]
def ztl(args:Array Operand):Array Bool:=args.map fun | .const _=>true | _=>false
def PB(z:Nat):List (Nat×Operand)->Nat->List Va->Option (List Va)
 | [],_,[]=>some []
 | (i,_)::r,k,v::vs=>bif Nat.beq i k&&Nat.beq v.cells.toList.length z then
   match PB z r (k+1) vs with
   | some l=>some (v.cells.toList++l)
   | none=>none
  else none
 | _,_,_=>none
def zb3(C:Ug)(S:St)(w:Wo)(d:Option Tmp)(t:TypeId)(cells:List Va)(e:Nat->EV)(K:St->Wo->Prop):Prop:=
 ∀b,w.heap.size<=b->DS C { S with L:=S.L++[(t,cells)],B:=S.B++[b] } d (.un (e S.L.length)) fun S'=>K S' w
def BH(C:Ug)(S:St)(w:Wo)(d:Option Tmp)(t:TypeId)(cells:List Va)(e:Nat->EV)(K:St->Wo->Prop):Prop:=
 bif C.pm then False else ∀b w',Q0 S.bs w w'->w.heap.size<=b->w'.heap[b]? = some (Obj.cells cells.toArray t (0,0))->b∉S.B->DS C S.aX d (.un (e b)) fun S'=>K S' w'
def K0(l:List Nat)(x:Nat):Bool:=l.any fun y=>Nat.beq y x
def zji(C:Ug)(o:Oper):Option (List Operand×List RK×Bool×(List Va->Sem Va)):=
 match o.op with
 | .makeSlice t l c=>some ([l,c],[.cell .slice],false,fun | [x,y]=>Instr.makeSlice t x y | _=>pure undef)
 | .makeMap t none=>some ([],[.cell .map],false,fun _=>Instr.makeMap t none)
 | .makeMap t (some r)=>some ([r],[.cell .map],false,fun | [x]=>Instr.makeMap t (some x) | _=>pure undef)
 | .lookup t x i ok=>match z1o C o.type with
  | some rk=>some ([x,i],rk,false,fun | [a,b]=>Instr.lookup t a b ok | _=>pure undef)
  | none=>none
 | .mapUpdate t m k x=>some ([m,k,x],[],true,fun | [a,b,c]=>do Instr.mapUpdate t a b c; pure undef | _=>pure undef)
 | .insert t m k x=>some ([m,k,x],[],true,fun | [a,b,c]=>do Instr.mapUpdate t a b c; pure undef | _=>pure undef)
 | .range t x=>some ([x],[.cell .ptr],false,fun | [a]=>Instr.range t a | _=>pure undef)
 | .convert s d x=>match z1o C o.type with
  | some rk=>some ([x],rk,false,fun | [a]=>convert s d a | _=>pure undef)
  | none=>none
 | _=>none
theorem zcs{C:Ug}{o:Oper}{xs:List Operand}{rk:List RK}{u:Bool}{f:List Va->Sem Va}(h:zji C o=some (xs,rk,u,f))(ρ:Operand->Va){P:Program}{w w':Wo}{v:Va}(hr:(f (xs.map ρ)).run P w=.ok v w') :
  (execOp ρ o).run P w=.ok (if u then .skip else .value v) w':=by
 unfold zji at h
 split at h
 case h_5 t m k x ho=>
  simp only[I0,Prod.mk.injEq] at h;obtain⟨rfl,rfl,rfl,rfl⟩:=h;simp only[List.map_cons,List.map_nil,Sem.run_bind,Sem.run_pure] at hr;simp only[execOp,ho,Sem.run_bind,Sem.run_pure,if_true];generalize (Instr.mapUpdate t (ρ m) (ρ k) (ρ x)).run P w=q at hr ⊢
  cases q <;> simp_all [Result.andThen]
 case h_6 t m k x ho=>
  simp only[I0,Prod.mk.injEq] at h;obtain⟨rfl,rfl,rfl,rfl⟩:=h;simp only[List.map_cons,List.map_nil,Sem.run_bind,Sem.run_pure] at hr;simp only[execOp,ho,Sem.run_bind,Sem.run_pure,if_true];generalize (Instr.mapUpdate t (ρ m) (ρ k) (ρ x)).run P w=q at hr ⊢
  cases q <;> simp_all [Result.andThen]
 all_goals
  (try split at h)
  all_goals first
   | cases h; done
   | (rename_i ho _ _ _
      simp only[I0,Prod.mk.injEq] at h;obtain⟨rfl,rfl,rfl,rfl⟩:=h;simp only[List.map_cons,List.map_nil] at hr;simp[execOp,ho,hr]
      done)
   | (rename_i ho
      simp only[I0,Prod.mk.injEq] at h;obtain⟨rfl,rfl,rfl,rfl⟩:=h;simp only[List.map_cons,List.map_nil] at hr;simp[execOp,ho,hr])
def M1(w:Wo)(b:Nat)(s:ByteArray)(p:Nat):Wo:={ w with heap:=w.heap.setIfInBounds b (.stringIter s p) }
def z0q(C:Ug)(S:St)(w:Wo)(o:Oper)(pc:List (Nat×Bool))(K:St->Wo->Prop):Prop:=
 match o.op with
 | .alloc t=>match C.T t with
  | some ty=>bif ty.ks.contains .other then False
   else match o.dst with
    | some d=>bif K0 C.vis d then BH C S w o.dst t (ty.ks.map zv) (fun b=>.el (some ⟨b,0,none⟩) 0) K else zb3 C S w o.dst t (ty.ks.map zv) (fun i=>.loc i 0) K
    | none=>False
  | none=>False
 | .box t x=>match Gx S pc x with
  | some v=>match o.dst with
    | some d=>bif K0 C.vis d then BH C S w o.dst t v.cells.toList (fun b=>.el (some ⟨b,0,none⟩) 0) K else zb3 C S w o.dst t v.cells.toList (fun i=>.loc i 0) K
    | none=>False
  | none=>False
 | .buildSlice t n parts=>match C.T t,Ko S pc (parts.toList.map (·.2)) with
  | some { agg:=_,ks:=_,d:=.slice e z },some vs=>match C.T e,PB z parts.toList 0 vs with
   | some _,some cells=>bif Nat.beq n vs.length&&Nat.blt 0 z&&Nat.blt 0 n&&Nat.blt (n*z) 16777216 then
     (match o.dst with
      | some d=>bif K0 C.vis d then BH C S w o.dst e cells (fun b=>.v (.slice (some ⟨b,0,none⟩) n n)) K else zb3 C S w o.dst e cells (fun i=>.ls i n) K
      | none=>False)
    else False
   | _,_=>False
  | _,_=>False
 | .store t x y=>match C.T t,zdf S pc x,Gx S pc y with
  | some ty,some (.loc id off),some v=>match S.L[id]? with
   | some (t',cs)=>bif Nat.beq v.cells.toList.length ty.ks.length&&Nat.ble (off+v.cells.toList.length) cs.length&&Zd v.cells.toList && !K0 S.lk id then
     K { S with L:=S.L.set id (t',cs.take off++v.cells.toList++cs.drop (off+v.cells.toList.length)) } w
    else False
   | none=>False
  | some ty,some (.le id i m),some v=>match S.L[id]? with
   | some (t',cs)=>bif Nat.beq v.cells.toList.length ty.ks.length&&Nat.beq v.cells.toList.length 1&&Zd [v] && !K0 S.lk id then
     (i.toNat+m<cs.length)/\zkj (cs.map z2a) fun vs=>cs.set (i.toNat+m) v=vs/\K { S with L:=S.L.set id (t',vs) } w
    else False
   | none=>False
  | some ty,some (.el ob n),some v=>bif Nat.beq v.cells.toList.length ty.ks.length&&Zd v.cells.toList && !C.pm&&Nat.blt 0 ty.ks.length then
    X0 S.bs w ob n v.cells.toList.length/\K S (Rl w ob n v.cells.toList)
   else False
  | some ty,some (.v (.pointer ob)),some v=>bif Nat.beq v.cells.toList.length ty.ks.length&&Zd v.cells.toList && !C.pm&&Nat.blt 0 ty.ks.length then
    X0 S.bs w ob 0 v.cells.toList.length/\K S (Rl w ob 0 v.cells.toList)
   else False
  | _,_,_=>False
 | .call { callee:=.value (.func f),args:=args,argTypes:=_ }=>match zms C.ef f,Ko S pc args.toList with
  | some rks,some vs=>bif C.pm then False else ∀wr,Q0 S.bs w wr->(∀b∈S.B,b<wr.heap.size)->Jk S wr (zle S pc args.toList)
    (Calls C.P f vs.toArray wr fun e w'=>HJ rks fun r=>e=.returned r/\Q9 S.B wr w'/\DS C S.aX o.dst (.un (.v r)) fun S'=>K S' w')
  | _,_=>False
 | .call { callee:=.builtin bi,args:=args,argTypes:=ts }=>match Ko S pc args.toList with
  | some vs=>bif C.pm then False else ∀wr,Q0 S.bs w wr->(∀b∈S.B,b<wr.heap.size)->Jk S wr (zle S pc args.toList)
    (HJ (z2l bi) fun r=>∃w',(builtin bi ts o.type (ztl args) vs.toArray).run C.P wr=.ok (.value r) w'/\Q9 S.B wr w'/\DS C S.aX o.dst (.un (.v r)) fun S'=>K S' w')
  | none=>False
 | .call { callee:=.value (.tmp t),args:=args,argTypes:=_ }=>match Gx S pc (.tmp t),Ko S pc args.toList,z1o C o.type with
  | some v,some vs,some rks=>bif C.pm then False else ∀wr,Q0 S.bs w wr->(∀b∈S.B,b<wr.heap.size)->Jk S wr (zle S pc args.toList)
    (Ov C.P v vs wr fun e w'=>HJ rks fun r=>e=.returned r/\Q9 S.B wr w'/\DS C S.aX o.dst (.un (.v r)) fun S'=>K S' w')
  | _,_,_=>False
 | .call { callee:=.invoke rc m,args:=args,argTypes:=_ }=>match Gx S pc rc,Ko S pc args.toList,z1o C o.type with
  | some v,some vs,some rks=>bif C.pm then False else ∀wr,Q0 S.bs w wr->(∀b∈S.B,b<wr.heap.size)->Jk S wr (zle S pc args.toList)
    (∃(f:FuncId) (as0:Array Va),(zys m v vs).run C.P wr=.ok (.enter f as0) wr/\Calls C.P f as0 wr fun e w'=>HJ rks fun r=>e=.returned r/\Q9 S.B wr w'/\DS C S.aX o.dst (.un (.v r)) fun S'=>K S' w')
  | _,_,_=>False
 | .next it true=>match Gx S pc it with
  | some (.pointer ob)=>bif C.pm then False else ∀wr,Q0 S.bs w wr->(∀b∈S.B,b<wr.heap.size)->
    ∃(b:Nat) (s:ByteArray) (pos:Nat),ob=some ⟨b,0,none⟩/\b∉S.B/\wr.heap[b]? = some (.stringIter s pos)/\
     (s.size<=pos->DS C S.aX o.dst (.un (.v (.tuple #[.bool false]))) fun S'=>K S' wr)/\
     (pos<s.size->DS C S.aX o.dst (.un (.v (.tuple #[.bool true,.int .i64 pos,.int .i32 (Utf8.decode s pos).1]))) fun S'=>K S' (M1 wr b s (pos+(Utf8.decode s pos).2)))
  | _=>False
 | _=>match zji C o with
  | some (xs,rk,u,f)=>match Ko S pc xs with
   | some vs=>bif C.pm then False else ∀wr,Q0 S.bs w wr->(∀b∈S.B,b<wr.heap.size)->
     (bif u then (match o.dst with
      | none=>∃w',(f vs).run C.P wr=.ok undef w'/\Q9 S.B wr w'/\K S.aX w'
      | some _=>False)
     else HJ rk fun r=>∃w',(f vs).run C.P wr=.ok r w'/\Q9 S.B wr w'/\DS C S.aX o.dst (.un (.v r)) fun S'=>K S' w')
   | none=>False
  | none=>False
structure MJ (S S':St):Prop where
 B:∀(id b:Nat),S.B[id]? = some b->S'.B[id]? = some b
 ty:∀(id:Nat) (t:TypeId) (cs:List Va),S.L[id]? = some (t,cs)->∃lA:List Va,S'.L[id]? = some (t,lA)
 lk:∀id∈S.lk,id∈S'.lk/\S'.L[id]? = S.L[id]?
theorem MJ.refl(S:St):MJ S S:=⟨fun _ _ h=>h,fun _ _ cs h=>⟨cs,h⟩,fun _ h=>⟨h,rfl⟩⟩
theorem MJ.trans{S S' sQ:St}(h:MJ S S')(k:MJ S' sQ):MJ S sQ:=
 ⟨fun id b hb=>k.B id b (h.B id b hb),fun id t cs hc=>(let ⟨cs1,h1⟩:=h.ty id t cs hc; k.ty id t cs1 h1),fun id hi=>⟨(k.lk id (h.lk id hi).1).1,((k.lk id (h.lk id hi).1).2).trans (h.lk id hi).2⟩⟩
theorem MJ.aV{S S':St}(h:MJ S S')(d:Option Tmp)(sv:SV):MJ S (S'.aV d sv):=by
 cases d <;> exact⟨h.B,h.ty,h.lk⟩
theorem Zg.aV{S:St}{w wr:Wo}(h:Zg S w wr)(d:Option Tmp)(sv:SV):Zg (S.aV d sv) w wr:=by
 cases d <;> exact⟨h.ext,h.loc,h.len,h.mC,h.fresh⟩
theorem Kk{l:List Nat}{x:Nat}(h:K0 l x=false):x∉l:=by
 intro hx;have:K0 l x=true:=by simp only[K0,List.any_eq_true]; exact⟨x,hx,Nat.beq_refl x⟩
 rw[h] at this; cases this
structure Lk (S:St):Prop where
 old:S.old<=S.B.length
 lk:∀id∈S.lk,id<S.L.length
theorem Lk.aV{S:St}(h:Lk S)(d:Option Tmp)(sv:SV):Lk (S.aV d sv):=by
 cases d <;> exact⟨h.old,h.lk⟩
theorem Lk.aX{S:St}(h:Lk S):Lk S.aX:=⟨I7 _,h.lk⟩
theorem Zg.push{S:St}{w wr:Wo}(h:Zg S w wr)(ho:S.old<=S.B.length)(t:TypeId)(cells:List Va) :
  Zg { S with L:=S.L++[(t,cells)],B:=S.B++[wr.heap.size] } w (wr.alloc (.cells cells.toArray t)):=by
 have IS:∀b∈S.B,b<wr.heap.size:=fun b hb=>by
  obtain⟨id,aG⟩:=List.getElem?_of_mem hb;have hl:id<S.L.length:=by rw[h.len]; exact(I8.1 aG).1
  obtain⟨b',fD,hh⟩:=h.loc id (S.L[id]).1 (S.L[id]).2 (by rw[Il hl]);rw[aG] at fD; cases fD;exact Co hh
 have hbs:(S.B++[wr.heap.size]).take S.old=S.B.take S.old:=List.take_append_of_le_length ho;refine⟨?_,fun id t' cs hl=>?_,by simp[h.len],?_,fun id b aG hb=>?_⟩
 ·show Q0 ((S.B++[wr.heap.size]).take S.old) w _;rw[hbs]; exact h.ext.alloc _
 ·by_cases hi:id<S.L.length
  ·have hl':S.L[id]? = some (t',cs):=by rw[<-hl]; exact(Ip hi).symm
   obtain⟨b,hb,hh⟩:=h.loc id t' cs hl';refine⟨b,?_,(Below.heap_alloc wr _ b (Co hh)).trans hh⟩;show (S.B++[wr.heap.size])[id]? = some b;rw[Ip (by rw[<-h.len]; exact hi)]; exact hb
  ·have hi':id=S.L.length:=by
    have:id<(S.L++[(t,cells)]).length:=(I8.1 hl).1;simp at this; omega
   subst hi';simp only[List.getElem?_concat_length,I0,Prod.mk.injEq] at hl;obtain⟨rfl,rfl⟩:=hl;refine⟨wr.heap.size,?_,heap_alloc_new wr _⟩;show (S.B++[wr.heap.size])[S.L.length]? = _;rw[h.len]; simp
 ·refine List.nodup_append.2 ⟨h.mC,Qs,fun x hx y hy=>?_⟩;simp only[Iz] at hy;subst hy;have:=IS x hx;omega
 ·have fD:(S.B++[wr.heap.size])[id]? = some b:=hb
  by_cases hi:id<S.B.length
  ·rw[Ip hi] at fD;exact h.fresh id b aG fD
  ·have:id=S.B.length:=by
    have:id<(S.B++[wr.heap.size]).length:=(I8.1 fD).1;simp at this; omega
   subst this;simp at fD;subst fD;exact h.ext.size
theorem Zg.age{S:St}{w wr W9:Wo}(h:Zg S w wr)(hk:Q9 S.B wr W9):Zg S.aX W9 W9:=
 ⟨Q0.refl _ _,fun id t cs hl=>by
  obtain⟨b,hb,hh⟩:=h.loc id t cs hl;exact⟨b,hb,(hk b (List.mem_of_getElem? hb)).trans hh⟩,h.len,h.mC,fun id b aG hb=>by
  have:id<S.B.length:=(I8.1 hb).1;simp only[St.aX] at aG;omega⟩
theorem Zg.lt{S:St}{w wr:Wo}(h:Zg S w wr):∀b∈S.B,b<wr.heap.size:=fun b hb=>by
 obtain⟨id,aG⟩:=List.getElem?_of_mem hb;have hl:id<S.L.length:=by rw[h.len]; exact(I8.1 aG).1
 obtain⟨b',fD,hh⟩:=h.loc id (S.L[id]).1 (S.L[id]).2 (by rw[Il hl]);rw[aG] at fD; cases fD;exact Co hh
theorem Zg.Cn2{S:St}{w wr:Wo}(h:Zg S w wr){i j b:Nat}(hi:S.B[i]? = some b)(hj:S.B[j]? = some b):i=j:=by
 obtain⟨h1l,h1e⟩:=I8.1 hi;obtain⟨h2l,h2e⟩:=I8.1 hj;have hp:=List.pairwise_iff_getElem.1 h.mC;rcases Nat.lt_trichotomy i j with IS | heq | hgt
 ·exact Ir (h1e.trans h2e.symm) (hp i j h1l h2l IS)
 ·exact heq
 ·exact Ir (h2e.trans h1e.symm) (hp j i h2l h1l hgt)
theorem zj0{P:Program}{T:TypeId->Option Ty}(hT:zsr P T){t:TypeId}{ty:Ty}(ht:T t=some ty)(iW:ty.ks.contains .other=false) :
  ∃i z,P.info? t=some i/\i.zero=some z/\z.cells=(ty.ks.map zv).toArray:=by
 obtain⟨i,z,hi,hz,_,hks⟩:=(hT.facts ht).info;refine⟨i,z,hi,hz,?_⟩
 have h0:∀(l:List Va),(l.map Ml).contains .other=false->(l.map Ml).map zv=l:=by
  intro l
  induction l with
  | nil=>intro _; rfl
  | cons x r ih=>
   intro hc;simp only[List.map_cons,List.contains_cons,H'] at hc;have hx:Ml x≠.other:=by intro e; rw[e] at hc; simp at hc
   simp only[List.map_cons,ih hc.2,<-zh9 hx]
 have h1:=h0 z.cells.toList (by rw[hks]; exact iW);rw[hks] at h1;rw[h1,Array.toArray_toList]
theorem EV.eD{S S':St}(h:Cg S S'):∀{e:EV} {u:Va},EV.den S e u->EV.den S' e u
 | .v _,_,h'=>h'
 | .el _ _,_,h'=>h'
 | .loc _ _,_,⟨b,hb,h'⟩=>⟨b,h _ _ hb,h'⟩
 | .ls _ _,_,⟨b,hb,h'⟩=>⟨b,h _ _ hb,h'⟩
 | .le _ _ _,_,⟨b,hb,h'⟩=>⟨b,h _ _ hb,h'⟩
 | .no,_,h'=>h'
 | .kb _,_,h'=>h'
theorem MI.mono{n:Nat}{S S':St}{ops:Array Oper}{D:Nat->Prop}{a:Act}(h:MI n S ops D a)(hl:Cg S S')(hF:S'.F=S.F)(hr:S'.r=S.r):MI n S' ops D a:=
 ⟨⟨h.fit.size,fun i s hs=>by
  rw[hF] at hs;have:=h.fit.fits i s hs
  cases s with
  | un x=>exact EV.eD hl this
  | gd r pc x=>
   intro hrr;rw[hr] at hrr;have h1:=this hrr;exact⟨fun hp=>EV.eD hl (h1.1 hp),h1.2⟩⟩,fun i pc x hx=>by rw[hF,hr] at hx; exact h.dn i pc x hx,fun i r pc x hx=>by rw[hF] at hx; rw[hr]; exact h.st i r pc x hx⟩
def zjp(cs:List Va):Nat->List Va->List Va
 | _,[]=>cs
 | k,v::r=>zjp (cs.set k v) (k+1) r
theorem Hc:∀(vs cs:List Va) (k:Nat),k+vs.length<=cs.length->zjp cs k vs=cs.take k++vs++cs.drop (k+vs.length)
 | [],cs,k,_=>by simp[zjp]
 | v::r,cs,k,h=>by
  simp only[zjp,List.length_cons] at *;rw[Hc r (cs.set k v) (k+1) (by simp; omega)];have hk:k<cs.length:=Qo;rw[List.take_succ_eq_append_getElem (by simpa using hk),List.getElem_set_self,List.take_set_of_le (I7 _),List.drop_set_of_lt Qo];simp[Nat.add_assoc,Nat.add_comm 1]
theorem DW:∀(vs:List Va) (w:Wo) (b k n:Nat) (cs:List Va) (t:TypeId) (fz:Nat×Nat),w.heap[b]? = some (.cells cs.toArray t fz)->
  (cN w ⟨b,k,none⟩ n vs).heap[b]? = some (.cells (zjp cs (k+n) vs).toArray t fz)
 | [],_,_,_,_,_,_,_,h=>h
 | v::r,w,b,k,n,cs,t,fz,h=>by
  simp only[cN,zjp];refine DW r _ b k (n+1) (cs.set (k+n) v) t fz ?_;rw[Addr.add_lit];simp only[World.setCell,Array.getElem?_modify,if_true,h,Option.map_some,Option.isSome_none,Bool.false_eq_true,if_false];simp
structure zsu (C:Ug) (S:St) (w:Wo) (o:Oper) (a:Act) (K:St->Wo->Prop) (N:Act->Wo->Prop):Prop where
 go:∀(S1:St) (w' W9:Wo) (e:EV) (v:Va),MJ S S1->S1.F=S.F->S1.r=S.r->Lk S1->Zg S1 w' W9->(C.pm=true->w'=w/\S1.old=S.old)->EV.den S1 e v->(∀x,o.dst=some x->x<C.n/\x<4000)->K (S1.aV o.dst (.un e)) w'->N (a.put o.dst v) W9
theorem zja{C:Ug}{S:St}{w:Wo}{o:Oper}{a:Act}{K:St->Wo->Prop}{N:Act->Wo->Prop}(hN:zsu C S w o a K N){wr:Wo}(hw:Zg S w wr)(Wt:Lk S){t:TypeId}{cells:List Va}{e:Nat->EV}(h:zb3 C S w o.dst t cells e K){v:Va}(hv:EV.den { S with L:=S.L++[(t,cells)],B:=S.B++[wr.heap.size] } (e S.L.length) v):N (a.put o.dst v) (wr.alloc (.cells cells.toArray t)):=by
 obtain⟨h1,h2⟩:=Yu (h wr.heap.size hw.ext.size);refine hN.go { S with L:=S.L++[(t,cells)],B:=S.B++[wr.heap.size] } w _ (e S.L.length) v ⟨fun id b hb=>?_,fun id t' cs hc=>⟨cs,?_⟩,fun id hi=>⟨hi,?_⟩⟩ rfl rfl ⟨by simp; have:=Wt.old; omega,fun id hi=>by have:=Wt.lk id hi; simp; omega⟩ (hw.push Wt.old t cells) (fun _=>⟨rfl,rfl⟩) hv h2 h1
 ·show (S.B++[wr.heap.size])[id]? = some b;rw[Ip (I8.1 hb).1]; exact hb
 ·show (S.L++[(t,cells)])[id]? = some (t',cs);rw[Ip (I8.1 hc).1]; exact hc
 ·exact Ip (Wt.lk id hi)
theorem zjb{C:Ug}{S:St}{w:Wo}{o:Oper}{a:Act}{K:St->Wo->Prop}{N:Act->Wo->Prop}(hN:zsu C S w o a K N){wr:Wo}(hw:Zg S w wr)(Wt:Lk S){t:TypeId}{cells:List Va}{e:Nat->EV}(h:BH C S w o.dst t cells e K){v:Va}(hv:EV.den S.aX (e wr.heap.size) v):N (a.put o.dst v) (wr.alloc (.cells cells.toArray t)):=by
 have IS:=hw.lt;unfold BH at h
 have iV:C.pm=false:=by
  cases hp:C.pm with
  | false=>rfl
  | true=>rw[hp] at h; exact h.elim
 rw[iV] at h;simp only[cond_false] at h;obtain⟨h1,h2⟩:=Yu (h wr.heap.size (wr.alloc (.cells cells.toArray t)) (hw.ext.alloc _) hw.ext.size (heap_alloc_new wr _) (fun hb=>by have:=IS _ hb; omega));exact hN.go S.aX _ _ _ v ⟨fun _ _ h=>h,fun _ _ cs h=>⟨cs,h⟩,fun id hi=>⟨hi,rfl⟩⟩ rfl rfl Wt.aX (hw.age fun b hb=>Below.heap_alloc wr _ b (IS b hb)) (fun hp=>by rw[iV] at hp; cases hp) hv h2 h1
theorem HH{z:Nat}(hz:0<z):∀{ps:List (Nat×Operand)} {k:Nat} {vs cells:List Va},PB z ps k vs=some cells->ps.length=vs.length/\cells.length=vs.length*z/\
  ∀(pre:List Va),pre.length=k*z->∀(init:List Va),init.length=vs.length*z->
   Instr.fill (fun i=>some (i*z,z)) (pre++init).toArray ((ps.map (·.1)).zip vs)=some (pre++cells).toArray
 | [],k,[],cells,h=>by
  simp only[PB,I0] at h; subst h;refine⟨rfl,Qs,fun pre _ init hi=>?_⟩;have:init=[]:=List.eq_nil_of_length_eq_zero (by simpa using hi);subst this;simp[Instr.fill]
 | (i,x)::ps,k,v::vs,cells,h=>by
  simp only[PB] at h
  cases hb:(Nat.beq i k&&Nat.beq v.cells.toList.length z) with
  | false=>rw[hb] at h; cases h
  | true=>
   rw[hb] at h;simp only[cond_true] at h;simp only[A'] at hb;have e1:i=k:=Ib hb.1;have e2:v.cells.toList.length=z:=Ib hb.2;subst e1
   split at h
   ·rename_i l hl;simp only[I0] at h; subst h;obtain⟨h1,h2,h3⟩:=HH hz hl;refine⟨by simp[h1],by simp[h2,e2,Nat.add_mul]; omega,fun pre hp init hi=>?_⟩;have qJ:v.cells.size=z:=by simpa using e2
    have hvl:(v::vs).length*z=z+vs.length*z:=by simp[Nat.add_mul,Nat.add_comm]
    rw[hvl] at hi
    have hc:(decide (v.cells.size≠z)||decide (i*z+v.cells.size>(pre++init).toArray.size))=false:=by
     simp only[qJ,List.size_toArray,Io,hp,hi];simp
    simp only[List.map_cons,List.zip_cons_cons,Instr.fill];rw[hc];simp only[Bool.false_eq_true,if_false]
    have CF9:∀(l:List Va) (j:Nat) (arr:List Va),(l.zipIdx j).foldl (fun cs (c,j)=>cs.setIfInBounds (i*z+j) c) arr.toArray=(zjp arr (i*z+j) l).toArray:=by
     intro l
     induction l with
     | nil=>intro j arr; rfl
     | cons c l ih=>
      intro j arr;simp only[List.zipIdx_cons,List.foldl_cons,zjp];rw[show (arr.toArray.setIfInBounds (i*z+j) c)=(arr.set (i*z+j) c).toArray by simp];exact ih (j+1) _
    have hz2:(v.cells.zipIdx.foldl (fun cs (c,j)=>cs.setIfInBounds (i*z+j) c) (pre++init).toArray)=(pre++v.cells.toList++init.drop z).toArray:=by
     rw[<-Array.foldl_toList,Array.toList_zipIdx];rw[CF9 v.cells.toList 0 (pre++init),Hc _ _ _ (by simp[hp,hi,qJ])];have t1:(pre++init).take (i*z)=pre:=by rw[<-hp]; exact List.take_left
     have t2:(pre++init).drop (i*z+z)=init.drop z:=by rw[<-hp,List.drop_append]; simp
     simp only[Nat.add_zero,e2,t1,t2]
    rw[hz2];have:=h3 (pre++v.cells.toList) (by simp[hp,qJ,Nat.add_mul]) (init.drop z) (by simp[hi])
    simpa using this
   ·cases h
 | [],_,_::_,_,h=>by simp[PB] at h
 | (_,_)::_,_,[],_,h=>by simp[PB] at h
theorem zcx{P:Program}(t:TypeId)(v:Va)(w:Wo):(newVar t v).run P w=.ok ⟨w.heap.size,0,none⟩ (w.alloc (.cells v.cells t)):=by
 simp[newVar,newRow]
theorem Zg.Az5{S:St}{w wr:Wo}(h:Zg S w wr){id b off:Nat}{t:TypeId}{cs vs:List Va}(hl:S.L[id]? = some (t,cs))(hb:S.B[id]? = some b)(hlen:off+vs.length<=cs.length)(hold:S.old<=S.B.length) :
  Zg { S with L:=S.L.set id (t,cs.take off++vs++cs.drop (off+vs.length)) } w (cN wr ⟨b,off,none⟩ 0 vs):=by
 obtain⟨b',fD,hh⟩:=h.loc id t cs hl;rw[hb] at fD; cases fD;have aG:id<S.L.length:=(I8.1 hl).1
 have AU5:b∈S.bs\/w.heap.size<=b:=by
  by_cases ho:S.old<=id
  ·exact .inr (h.fresh id b ho hb)
  ·refine .inl ?_;have:(S.B.take S.old)[id]? = some b:=by rw[List.getElem?_take,C' Qo]; exact hb
   exact List.mem_of_getElem? this
 obtain⟨r1,r2,r3⟩:=Hd vs wr ⟨b,off,none⟩ 0;refine⟨⟨r1.trans h.ext.os,r2.trans h.ext.tape,r3.trans h.ext.output,by rw[Px]; exact h.ext.size,fun k hk hnb=>?_⟩,fun id' t' lA hl'=>?_,by simp[h.len],h.mC,h.fresh⟩
 ·refine(Od vs wr ⟨b,off,none⟩ 0 k ?_).trans (h.ext.block k hk hnb);rintro rfl;rcases AU5 with hm | hm
  ·exact hnb hm
  ·exact Nat.lt_irrefl _ (Nat.lt_of_lt_of_le hk hm)
 ·by_cases he:id=id'
  ·subst he;simp only[List.getElem?_set_self aG,I0,Prod.mk.injEq] at hl';obtain⟨rfl,rfl⟩:=hl';refine⟨b,hb,?_⟩;rw[DW vs wr b off 0 cs _ _ hh,Nat.add_zero,Hc _ _ _ hlen]
  ·have hl2:S.L[id']? = some (t',lA):=by rw[<-hl']; exact(List.getElem?_set_ne he).symm
   obtain⟨b2,bT,hh2⟩:=h.loc id' t' lA hl2;refine⟨b2,bT,?_⟩
   rw[Od vs wr ⟨b,off,none⟩ 0 b2 (by
    show b2≠b;rintro rfl;exact he (h.Cn2 hb bT))]
   exact hh2
theorem Zg.Az6{S:St}{w wr:Wo}(h:Zg S w wr){a:Addr}{n:Nat}{vs:List Va}(hb:a.block∉S.bs)(IS:a.block<w.heap.size):Zg S (cN w a n vs) (cN wr a n vs):=by
 obtain⟨r1,r2,r3⟩:=Hd vs wr a n;obtain⟨q1,q2,q3⟩:=Hd vs w a n;refine⟨⟨by rw[r1,q1]; exact h.ext.os,by rw[r2,q2]; exact h.ext.tape,by rw[r3,q3]; exact h.ext.output,by rw[Px,Px]; exact h.ext.size,fun k hk hnb=>?_⟩,fun id t cs hl=>?_,h.len,h.mC,fun id b ho aG=>by rw[Px]; exact h.fresh id b ho aG⟩
 ·rw[Px] at hk;have he:=h.ext.block k hk hnb
  by_cases hka:k=a.block
  ·subst hka; exact zhc vs wr w a n he
  ·rw[Od vs wr a n k hka,Od vs w a n k hka]; exact he
 ·obtain⟨b,aG,hh⟩:=h.loc id t cs hl;refine⟨b,aG,?_⟩;rw[Od vs wr a n b]
  ·exact hh
  ·rintro rfl
   by_cases ho:S.old<=id
   ·have:=h.fresh id _ ho aG; omega
   ·refine hb (List.mem_of_getElem? (i:=id) ?_);show (S.B.take S.old)[id]? = _;rw[List.getElem?_take,C' Qo]; exact aG
theorem X0.run{P:Program}{S:St}{w wr:Wo}(h:Zg S w wr){ob:OA}{n:Nat}{vs:List Va}(hx:X0 S.bs w ob n vs.length)(Bb1:0<vs.length)(h1:Zd vs=true){a:Addr}(ho:ob=some a) :
  (storeCells (a.add n) vs 0).run P wr=.ok () (cN wr (a.add n) 0 vs)/\a.block∉S.bs/\a.block<w.heap.size:=by
 obtain⟨a',ha,hb,hc⟩:=hx;rw[ho] at ha; cases ha;obtain⟨⟨u,hu⟩,_⟩:=hc n (I7 _) Qo;have IS:a.block<w.heap.size:=by have:=World.block_lt_of_cell? w _ hu; rwa[Zz] at this
 refine⟨Vk vs wr (a.add n) 0 (JC h1) fun j _ hj=>?_,hb,IS⟩;obtain⟨⟨u',hu'⟩,hf'⟩:=hc (n+j) Qo Qo;have he:=h.ext.block a.block IS hb;rw[U3];refine⟨⟨u',?_⟩,?_⟩
 ·rw[<-hu']; exact World.cell?_of_block (w:=w) (by rw[Zz]; exact he)
 ·rw[<-hf']; exact frozen?_of_block (by rw[Zz]; exact he)
theorem zc6:∀(vs:List Va) (w:Wo) (a:Addr) (n k:Nat),cN w (a.add n) k vs=cN w a (n+k) vs
 | [],_,_,_,_=>rfl
 | v::r,w,a,n,k=>by
  simp only[cN,U3];exact zc6 r _ a n (k+1)
theorem zjr{P:Program}{T:TypeId->Option Ty}(hT:zsr P T){t:TypeId}{ty:Ty}(ht:T t=some ty){a:Addr}{v:Va}(hl:v.cells.toList.length=ty.ks.length){w w':Wo}(h:(storeCells a v.cells.toList).run P w=.ok () w'):(storeVar t a v).run P w=.ok () w':=by
 obtain⟨i,z,hi,_,qJ,_⟩:=(hT.facts ht).info;have hn:¬v.cells.size≠ty.ks.length:=by simpa using hl
 simp only[storeVar,Sem.run_bind,Yg hi,Result.andThen_ok,qJ,Sem.run_ite,B' hn,Sem.run_pure,h]
theorem zr0(parts:Array (Nat×Operand))(f:Operand->Va):(parts.map fun (i,x)=>(i,f x)).toList=(parts.toList.map (·.1)).zip ((parts.toList.map (·.2)).map f):=by
 have:(parts.map fun (i,x)=>(i,f x)).toList=parts.toList.map fun (i,x)=>(i,f x):=Qs
 rw[this];generalize parts.toList=q
 induction q with
 | nil=>rfl
 | cons y q ih=>simp[ih]
theorem zby{C:Ug}{S:St}{w:Wo}{o:Oper}{a:Act}{K:St->Wo->Prop}{N:Act->Wo->Prop}(hN:zsu C S w o a K N){wr:Wo}(hw:Zg S w wr)(Wt:Lk S){t:TypeId}{cells:List Va}{e1 e2:Nat->EV}{v:Va}(h:match o.dst with
   | some d=>bif K0 C.vis d then BH C S w o.dst t cells e1 K else zb3 C S w o.dst t cells e2 K
   | none=>False)(h1:EV.den S.aX (e1 wr.heap.size) v)(h2:EV.den { S with L:=S.L++[(t,cells)],B:=S.B++[wr.heap.size] } (e2 S.L.length) v):N (a.put o.dst v) (wr.alloc (.cells cells.toArray t)):=by
 split at h
 ·rename_i d hd
  cases hm:K0 C.vis d with
  | true=>
   rw[hm] at h;simp only[cond_true] at h;exact zjb hN hw Wt h h1
  | false=>
   rw[hm] at h;simp only[cond_false] at h;exact zja hN hw Wt h h2
 ·exact h.elim
theorem zz4{S:St}{w wr:Wo}(hw:Zg S w wr)(b:Nat):(S.B++[b])[S.L.length]? = some b:=by rw[hw.len]; simp
theorem MC{Q:Exit->Act->Wo->Prop}{C:Ug}{S:St}{w wr:Wo}{a:Act}{K:St->Wo->Prop}{N:Act->Wo->Prop}{o:Oper}(hdn:o.dst=none)(hN:zsu C S w o a K N)(hw:Zg S w wr)(Wt:Lk S)(hT:zsr C.P C.T){t:TypeId}{x y:Operand}(ho:o.op=.store t x y){ty:Ty}(ht:C.T t=some ty){e:EV}(hx:EV.den S e (a.eval x)){v:Va}(hy:a.eval y=v)(h:match e with
   | .loc id off=>match S.L[id]? with
    | some (t',cs)=>bif Nat.beq v.cells.toList.length ty.ks.length&&Nat.ble (off+v.cells.toList.length) cs.length&&Zd v.cells.toList && !K0 S.lk id then
      K { S with L:=S.L.set id (t',cs.take off++v.cells.toList++cs.drop (off+v.cells.toList.length)) } w
     else False
    | none=>False
   | .le id i m=>match S.L[id]? with
    | some (t',cs)=>bif Nat.beq v.cells.toList.length ty.ks.length&&Nat.beq v.cells.toList.length 1&&Zd [v] && !K0 S.lk id then
      (i.toNat+m<cs.length)/\zkj (cs.map z2a) fun vs=>cs.set (i.toNat+m) v=vs/\K { S with L:=S.L.set id (t',vs) } w
     else False
    | none=>False
   | .el ob n=>bif Nat.beq v.cells.toList.length ty.ks.length&&Zd v.cells.toList && !C.pm&&Nat.blt 0 ty.ks.length then
     X0 S.bs w ob n v.cells.toList.length/\K S (Rl w ob n v.cells.toList)
    else False
   | .v (.pointer ob)=>bif Nat.beq v.cells.toList.length ty.ks.length&&Zd v.cells.toList && !C.pm&&Nat.blt 0 ty.ks.length then
     X0 S.bs w ob 0 v.cells.toList.length/\K S (Rl w ob 0 v.cells.toList)
    else False
   | _=>False):o.uponIn (Vf C.rd) 0 C.P a N Q ((execOp a.eval o).run C.P wr):=by
 have hgo:∀(S1:St) (w' W9:Wo),MJ S S1->S1.F=S.F->S1.r=S.r->Lk S1->Zg S1 w' W9->(C.pm=true->w'=w/\S1.old=S.old)->K S1 w'->N (a.put o.dst undef) W9:=fun S1 w' W9 h1 h2 h3 h4 h5 h7 h6=>
  hN.go S1 w' W9 (.v undef) undef h1 h2 h3 h4 h5 h7 rfl (fun x hx=>by rw[hdn] at hx; cases hx) (by rw[hdn]; exact h6)
 have Wp:∀{ad:Addr} {w':Wo},a.eval x=.pointer (some ad)->v.cells.toList.length=ty.ks.length->(storeCells ad v.cells.toList).run C.P wr=.ok () w'->(execOp a.eval o).run C.P wr=.ok .skip w':=fun {ad w'} h1 h2 h3=>by
  have:=zjr hT ht h2 h3;simp[execOp,ho,h1,hy,Instr.storeAt,Instr.sureAddr,this]
 have SE:∀{id:Nat} {t':TypeId} {cs r:List Va},S.L[id]? = some (t',cs)->K0 S.lk id=false->MJ S { S with L:=S.L.set id (t',r) }:=fun {id t' cs r} hl hm=>
  ⟨fun _ _ h=>h,fun id' t2 cs2 h2=>by
   show ∃lA,(S.L.set id (t',r))[id']? = some (t2,lA)
   by_cases he:id=id'
   ·subst he;rw[hl] at h2;cases h2;exact⟨r,List.getElem?_set_self (I8.1 hl).1⟩
   ·exact⟨cs2,by rw[List.getElem?_set_ne he]; exact h2⟩,fun id' hi=>⟨hi,by
   show (S.L.set id (t',r))[id']? = _;exact List.getElem?_set_ne (by rintro rfl; exact Kk hm hi)⟩⟩
 cases e with
 | loc id off=>
  obtain⟨b,hb,hxp⟩:=hx
  dsimp only at h
  split at h
  ·rename_i t' cs hl
   cases hc:(Nat.beq v.cells.toList.length ty.ks.length&&Nat.ble (off+v.cells.toList.length) cs.length&&Zd v.cells.toList && !K0 S.lk id) with
   | false=>rw[hc] at h; exact h.elim
   | true=>
    rw[hc] at h;simp only[cond_true] at h;simp only[A',IB] at hc;obtain⟨⟨⟨c1,c2⟩,c3⟩,c4⟩:=hc;have c1:=Ib c1;have c2:=Ik c2
    have hrc:=Vk (P:=C.P) v.cells.toList wr ⟨b,off,none⟩ 0 (JC c3) (fun j _ hj=>by
     rw[Addr.add_lit,Gq hw hl hb];obtain⟨b',fD,hh⟩:=hw.loc id t' cs hl;rw[hb] at fD; cases fD;have IS:off+j<cs.length:=Qo;refine⟨⟨cs[off+j],Il IS⟩,?_⟩;simp[World.frozen?,hh])
    rw[Wp hxp c1 hrc];exact hgo _ _ _ (SE hl c4) rfl rfl ⟨Wt.old,fun id hi=>by simpa using Wt.lk id hi⟩ (hw.Az5 hl hb c2 Wt.old) (fun _=>⟨rfl,rfl⟩) h
  ·exact h.elim
 | le id i m=>
  obtain⟨b,hb,h0,hxp⟩:=hx
  dsimp only at h
  split at h
  ·rename_i t' cs hl
   cases hc:(Nat.beq v.cells.toList.length ty.ks.length&&Nat.beq v.cells.toList.length 1&&Zd [v] && !K0 S.lk id) with
   | false=>rw[hc] at h; exact h.elim
   | true=>
    rw[hc] at h;simp only[cond_true] at h;simp only[A',IB] at hc;obtain⟨⟨⟨c1,c2⟩,c3⟩,c4⟩:=hc;have c1:=Ib c1;have c2:=Ib c2;obtain⟨IS,h⟩:=h;obtain⟨_,_,rfl,h⟩:=OL h
    have hvc:v.cells.toList=[v]:=by
     cases v with
     | agg cs=>cases c3
     | _=>rfl
    rw[<-hvc] at c3
    have hrc:=Vk (P:=C.P) v.cells.toList wr ⟨b,i.toNat+m,none⟩ 0 (JC c3) (fun j _ hj=>by
     rw[Addr.add_lit,Gq hw hl hb];obtain⟨b',fD,hh⟩:=hw.loc id t' cs hl;rw[hb] at fD; cases fD;have IS:i.toNat+m+j<cs.length:=Qo;refine⟨⟨cs[i.toNat+m+j],Il IS⟩,?_⟩;simp[World.frozen?,hh])
    rw[Wp hxp c1 hrc];have kW:=hw.Az5 (vs:=v.cells.toList) hl hb (off:=i.toNat+m) Qo Wt.old
    have he:cs.take (i.toNat+m)++v.cells.toList++cs.drop (i.toNat+m+v.cells.toList.length)=cs.set (i.toNat+m) v:=by
     rw[<-Hc _ _ _ Qo,hvc]; rfl
    rw[he] at kW;exact hgo _ _ _ (SE hl c4) rfl rfl ⟨Wt.old,fun id hi=>by simpa using Wt.lk id hi⟩ kW (fun _=>⟨rfl,rfl⟩) h
  ·exact h.elim
 | el ob n=>
  obtain⟨ad,hob,hxp⟩:=hx
  dsimp only at h
  cases hc:(Nat.beq v.cells.toList.length ty.ks.length&&Zd v.cells.toList && !C.pm&&Nat.blt 0 ty.ks.length) with
  | false=>rw[hc] at h; exact h.elim
  | true=>
   rw[hc] at h;simp only[cond_true] at h;simp only[A',IB] at hc;obtain⟨⟨⟨c1,c2⟩,c3⟩,c4⟩:=hc;have c1:=Ib c1;have c4:0<ty.ks.length:=Ik c4;obtain⟨h1,h2⟩:=h;obtain⟨hr,hbs,IS⟩:=h1.run (P:=C.P) hw Qo c2 hob;rw[Wp hxp c1 hr,zc6,Nat.add_zero];subst hob;exact hgo S _ _ (MJ.refl S) rfl rfl Wt (hw.Az6 hbs IS) (fun hp=>by rw[hp] at c3; cases c3) h2
 | v x0=>
  cases x0 with
  | pointer ob=>
    simp only[EV.den] at hx
    dsimp only at h
    cases hc:(Nat.beq v.cells.toList.length ty.ks.length&&Zd v.cells.toList && !C.pm&&Nat.blt 0 ty.ks.length) with
    | false=>rw[hc] at h; exact h.elim
    | true=>
     rw[hc] at h;simp only[cond_true] at h;simp only[A',IB] at hc;obtain⟨⟨⟨c1,c2⟩,c3⟩,c4⟩:=hc;have c1:=Ib c1;have c4:0<ty.ks.length:=Ik c4;obtain⟨h1,h2⟩:=h;obtain⟨ad,hob,_⟩:=id h1;obtain⟨hr,hbs,IS⟩:=h1.run (P:=C.P) hw Qo c2 hob;rw[Addr.add_zero'] at hr;rw[Wp (by rw[hx,hob]) c1 hr];subst hob;exact hgo S _ _ (MJ.refl S) rfl rfl Wt (hw.Az6 hbs IS) (fun hp=>by rw[hp] at c3; cases c3) h2
  | _=>exact h.elim
 | ls id len=>exact h.elim
 | no=>exact h.elim
 | kb x=>exact h.elim
theorem zq8{C:Ug}(hT:zsr C.P C.T)(Rg:∀f ks,zms C.ef f=some ks->Ow C.P f){S:St}{w wr:Wo}{ops:Array Oper}{D:Nat->Prop}{o:Oper}{a:Act}{pc:List (Nat×Bool)}{K:St->Wo->Prop}{N:Act->Wo->Prop}{Q:Exit->Act->Wo->Prop}(hf:MI C.n S ops D a)(hw:Zg S w wr)(Wt:Lk S)(hp:DQ ops a pc)(hN:zsu C S w o a K N)(h:z0q C S w o pc K)(hnd:∀t x y,o.op=.store t x y->o.dst=none):o.wpIn (Vf C.rd) 0 C.P a wr N Q:=by
 refine zoj (fun c hc=>by unfold z0q at h; simp[hc,zji] at h) ?_;unfold z0q at h
 split at h
 case h_1 t ho=>
  split at h
  ·rename_i ty ht
   cases hc:ty.ks.contains .other with
   | true=>rw[hc] at h; exact h.elim
   | false=>
    rw[hc] at h;simp only[cond_false] at h;obtain⟨i,z,hi,hz,hzc⟩:=zj0 hT ht hc
    have Wp:(execOp a.eval o).run C.P wr=.ok (.value (.pointer (some ⟨wr.heap.size,0,none⟩))) (wr.alloc (.cells (ty.ks.map zv).toArray t)):=by
     simp[execOp,ho,Instr.alloc,zeroValue,JD hi,hz,zcx,hzc]
    rw[Wp];simp only[Oper.uponIn];exact zby hN hw Wt h ⟨_,rfl,by rw[Addr.add_zero']⟩ ⟨wr.heap.size,zz4 hw _,rfl⟩
  ·exact h.elim
 case h_2 t x ho=>
  split at h
  ·rename_i v hv;have hv':=QP hf.fit hp hv
   have Wp:(execOp a.eval o).run C.P wr=.ok (.value (.pointer (some ⟨wr.heap.size,0,none⟩))) (wr.alloc (.cells v.cells.toList.toArray t)):=by
    simp[execOp,ho,Instr.box,zcx,hv']
   rw[Wp];simp only[Oper.uponIn];exact zby hN hw Wt h ⟨_,rfl,by rw[Addr.add_zero']⟩ ⟨wr.heap.size,zz4 hw _,rfl⟩
  ·exact h.elim
 case h_3 t n parts ho=>
  split at h
  ·rename_i ag ks e z vs ht hvs;have hv':=XB hf.fit hp hvs
   split at h
   ·rename_i ety cells hte Cf8
    cases hb:(Nat.beq n vs.length&&Nat.blt 0 z&&Nat.blt 0 n&&Nat.blt (n*z) 16777216) with
    | false=>rw[hb] at h; exact h.elim
    | true=>
     rw[hb] at h;simp only[cond_true] at h;simp only[A'] at hb;obtain⟨⟨⟨b1,b2⟩,b3⟩,b4⟩:=hb;have b1:=Ib b1;have b2:0<z:=Ik b2;have b3:0<n:=Ik b3;have b4:n*z<16777216:=Ik b4;obtain⟨d,hu,_,nD⟩:=(hT.facts ht).desc;obtain⟨inf,rfl,nC,Ch4⟩:=Me nD.symm;obtain⟨i2,z2,hi2,hz2,DC6,_⟩:=(hT.facts hte).info;rw[nC] at hi2; cases hi2;obtain⟨_,rJ,AL9⟩:=HH b2 Cf8;have hf0:=AL9 [] Qs (((Array.range (n*z)).map (z2.cells[· % z2.cells.size]!)).toList) (by simp[b1]);simp only[List.nil_append,Array.toArray_toList] at hf0;have AB6:=zr0 parts a.eval;rw[hv'] at AB6
     have hn0:¬n*z=0:=by
      have:=Nat.mul_pos b3 b2;omega
     have Ce9:¬n*z>2 ^ 24:=by
      have:(2:Nat) ^ 24=16777216:=rfl;omega
     have Wp:(execOp a.eval o).run C.P wr=.ok (.value (.slice (some ⟨wr.heap.size,0,none⟩) n n)) (wr.alloc (.cells cells.toArray e)):=by
      simp only[execOp,ho,Instr.buildSlice,Sem.run_bind,run_underlying hu,Result.andThen_ok,Yg nC,Ch4,Sem.run_ite,B' Ce9,B' hn0,zeroValue,JD nC,hz2,Sem.run_pure,AB6,hf0,newRow,run_newObj];rfl
     rw[Wp];simp only[Oper.uponIn];exact zby hN hw Wt h rfl ⟨wr.heap.size,zz4 hw _,rfl⟩
   ·exact h.elim
  ·exact h.elim
 case h_4 t x y ho=>
  have hdn:=hnd t x y ho
  split at h
  ·rename_i ty id off v ht hx hy;exact MC hdn hN hw Wt hT ho ht (ZW hf.fit hp hx) (QP hf.fit hp hy) h
  ·rename_i ty id i m v ht hx hy;exact MC hdn hN hw Wt hT ho ht (ZW hf.fit hp hx) (QP hf.fit hp hy) h
  ·rename_i ty ob n v ht hx hy;exact MC hdn hN hw Wt hT ho ht (ZW hf.fit hp hx) (QP hf.fit hp hy) h
  ·rename_i ty ob v ht hx hy;exact MC hdn hN hw Wt hT ho ht (ZW hf.fit hp hx) (QP hf.fit hp hy) h
  ·exact h.elim
 case h_5 f args ts ho=>
  split at h
  ·rename_i rks vs hef hvs;have hv:=XB hf.fit hp hvs;have ea:args.map a.eval=vs.toArray:=by rw[<-hv,<-Array.toList_map,Array.toArray_toList]
   have iV:C.pm=false:=by
    cases hp:C.pm with
    | false=>rfl
    | true=>rw[hp] at h; exact h.elim
   rw[iV] at h;simp only[cond_false] at h;rw[zlu (Rg f rks hef) args ts a ho,ea];simp only[Oper.uponIn];refine⟨fun hx=>(by simp[Vf,Fence.wide] at hx),Pv ((Jk.out hw (h wr hw.ext hw.lt)).mono fun e w' he=>?_)⟩;obtain⟨r,rfl,hk,hp⟩:=Uj he;obtain⟨h1,h2⟩:=Yu hp;exact hN.go S.aX _ _ (.v r) r ⟨fun _ _ h=>h,fun _ _ cs h=>⟨cs,h⟩,fun id hi=>⟨hi,rfl⟩⟩ rfl rfl Wt.aX (hw.age hk) (fun hp=>by rw[iV] at hp; cases hp) rfl h2 h1
  ·exact h.elim
 case h_6 bi args ts ho=>
  split at h
  ·rename_i vs hvs;have hv:=XB hf.fit hp hvs;have ea:args.map a.eval=vs.toArray:=by rw[<-hv,<-Array.toList_map,Array.toArray_toList]
   have iV:C.pm=false:=by
    cases hp:C.pm with
    | false=>rfl
    | true=>rw[hp] at h; exact h.elim
   rw[iV] at h;simp only[cond_false] at h;obtain⟨r,w',Wp,hk,hp⟩:=Uj (Jk.out hw (h wr hw.ext hw.lt))
   have sS:(execOp a.eval o).run C.P wr=.ok (.value r) w':=by
    rw[<-Wp];simp only[execOp,ho,resolve,Sem.run_bind,Sem.run_pure,Result.andThen_ok,invoke,ea];rfl
   rw[sS];obtain⟨h1,h2⟩:=Yu hp;exact hN.go S.aX _ _ (.v r) r ⟨fun _ _ h=>h,fun _ _ cs h=>⟨cs,h⟩,fun id hi=>⟨hi,rfl⟩⟩ rfl rfl Wt.aX (hw.age hk) (fun hp=>by rw[iV] at hp; cases hp) rfl h2 h1
  ·exact h.elim
 case h_7 t args ts ho=>
  split at h
  ·rename_i v vs rks hv0 hvs hrk;have hv1:=QP hf.fit hp hv0;have hv:=XB hf.fit hp hvs;have ea:args.map a.eval=vs.toArray:=by rw[<-hv,<-Array.toList_map,Array.toArray_toList]
   have iV:C.pm=false:=by
    cases hp:C.pm with
    | false=>rfl
    | true=>rw[hp] at h; exact h.elim
   rw[iV] at h;simp only[cond_false] at h
   have hgo:∀(e:Ending) (w':Wo),(HJ rks fun r=>e=.returned r/\Q9 S.B wr w'/\DS C S.aX o.dst (.un (.v r)) fun S'=>K S' w')->(match e with
     | .returned v=>N (a.put o.dst v) w'
     | .panicked chain=>Q (.panic chain) a w'
     | .outgrown=>LetsOut Q):=fun e w' he=>by
    obtain⟨r,rfl,hk,hp⟩:=Uj he;obtain⟨h1,h2⟩:=Yu hp;exact hN.go S.aX _ _ (.v r) r ⟨fun _ _ h=>h,fun _ _ cs h=>⟨cs,h⟩,fun id hi=>⟨hi,rfl⟩⟩ rfl rfl Wt.aX (hw.age hk) (fun hp=>by rw[iV] at hp; cases hp) rfl h2 h1
   rcases Jk.out hw (h wr hw.ext hw.lt) with ⟨f,as0,Wp,hc⟩ | ⟨l,f,tmps,asg,body,Wp,hc⟩
   ·have sS:(execOp a.eval o).run C.P wr=.ok (.enter f as0) wr:=by
     rw[<-Wp];simp only[execOp,ho,resolve,zab,ea,hv1]
    rw[sS];simp only[Oper.uponIn];exact⟨fun hx=>(by simp[Vf,Fence.wide] at hx),Pv (hc.mono fun e w' he=>by have:=hgo e w' he; cases e <;> exact this)⟩
   ·have sS:(execOp a.eval o).run C.P wr=.ok (.round l f tmps asg body) wr:=by
     rw[<-Wp];simp only[execOp,ho,resolve,zab,ea,hv1]
    rw[sS];simp only[Oper.uponIn];exact⟨fun hx=>(by simp[Vf,Fence.wide] at hx),zgg (hc.mono fun e w' he=>by have:=hgo e w' he; cases e <;> exact this)⟩
  ·exact h.elim
 case h_8 rc m args ts ho=>
  split at h
  ·rename_i v vs rks hv0 hvs hrk;have hv1:=QP hf.fit hp hv0;have hv:=XB hf.fit hp hvs;have ea:args.map a.eval=vs.toArray:=by rw[<-hv,<-Array.toList_map,Array.toArray_toList]
   have iV:C.pm=false:=by
    cases hp:C.pm with
    | false=>rfl
    | true=>rw[hp] at h; exact h.elim
   rw[iV] at h;simp only[cond_false] at h;obtain⟨f,as0,Wp,hc⟩:=Jk.out hw (h wr hw.ext hw.lt)
   have sS:(execOp a.eval o).run C.P wr=.ok (.enter f as0) wr:=by
    rw[<-Wp];simp only[execOp,ho,resolve,Sem.run_bind,Sem.run_pure,Result.andThen_ok,zys,ea,hv1]
   rw[sS];simp only[Oper.uponIn];refine⟨fun hx=>(by simp[Vf,Fence.wide] at hx),Pv (hc.mono fun e w' he=>?_)⟩;obtain⟨r,rfl,hk,hp⟩:=Uj he;obtain⟨h1,h2⟩:=Yu hp;exact hN.go S.aX _ _ (.v r) r ⟨fun _ _ h=>h,fun _ _ cs h=>⟨cs,h⟩,fun id hi=>⟨hi,rfl⟩⟩ rfl rfl Wt.aX (hw.age hk) (fun hp=>by rw[iV] at hp; cases hp) rfl h2 h1
  ·exact h.elim
 case h_9 it ho=>
  split at h
  ·rename_i ob hx;have dF:=QP hf.fit hp hx
   have iV:C.pm=false:=by
    cases hp:C.pm with
    | false=>rfl
    | true=>rw[hp] at h; exact h.elim
   rw[iV] at h;simp only[cond_false] at h;obtain⟨b,s,pos,rfl,hb,hh,h1,h2⟩:=h wr hw.ext hw.lt;have hg:(getObj b).run C.P wr=.ok (.stringIter s pos) wr:=by simp[getObj,Sem.run,hh]
   by_cases IS:pos<s.size
   ·have SE:(setObj b (.stringIter s (pos+(Utf8.decode s pos).2))).run C.P wr=.ok () (M1 wr b s (pos+(Utf8.decode s pos).2)):=by
     simp[setObj,Sem.run,hh,M1]
    have Wp:(execOp a.eval o).run C.P wr=.ok (.value (.tuple #[.bool true,.int .i64 pos,.int .i32 (Utf8.decode s pos).1])) (M1 wr b s (pos+(Utf8.decode s pos).2)):=by
     simp[execOp,ho,dF,Instr.next,hg,IS,SE,goInt]
    rw[Wp];simp only[Oper.uponIn];obtain⟨g1,g2⟩:=Yu (h2 IS)
    have hk:Q9 S.B wr (M1 wr b s (pos+(Utf8.decode s pos).2)):=fun x hx=>by
     have dE:b≠x:=fun e=>hb (e▸hx)
     simp only[M1];rw[Array.getElem?_setIfInBounds_ne dE]
    exact hN.go S.aX _ _ (.v _) _ ⟨fun _ _ h=>h,fun _ _ cs h=>⟨cs,h⟩,fun id hi=>⟨hi,rfl⟩⟩ rfl rfl Wt.aX (hw.age hk) (fun hp=>by rw[iV] at hp; cases hp) rfl g2 g1
   ·have Wp:(execOp a.eval o).run C.P wr=.ok (.value (.tuple #[.bool false])) wr:=by
     simp[execOp,ho,dF,Instr.next,hg,IS]
    rw[Wp];simp only[Oper.uponIn];obtain⟨g1,g2⟩:=Yu (h1 (Nat.le_of_not_lt IS));exact hN.go S.aX _ _ (.v _) _ ⟨fun _ _ h=>h,fun _ _ cs h=>⟨cs,h⟩,fun id hi=>⟨hi,rfl⟩⟩ rfl rfl Wt.aX (hw.age fun _ _=>rfl) (fun hp=>by rw[iV] at hp; cases hp) rfl g2 g1
  ·exact h.elim
 case h_10=>
  split at h
  ·rename_i xs rk u f hpr
   split at h
   ·rename_i vs hvs;have hv:=XB hf.fit hp hvs
    have iV:C.pm=false:=by
     cases hp:C.pm with
     | false=>rfl
     | true=>rw[hp] at h; exact h.elim
    rw[iV] at h;simp only[cond_false] at h;have h:=h wr hw.ext hw.lt
    cases u with
    | true=>
     simp only[cond_true] at h
     split at h
     ·rename_i hd;obtain⟨w',hr,hk,hK⟩:=h;rw[<-hv] at hr;rw[zcs hpr a.eval hr];simp only[if_true,Oper.uponIn];exact hN.go S.aX _ _ (.v undef) undef ⟨fun _ _ h=>h,fun _ _ cs h=>⟨cs,h⟩,fun id hi=>⟨hi,rfl⟩⟩ rfl rfl Wt.aX (hw.age hk) (fun hp=>by rw[iV] at hp; cases hp) rfl (fun x hx=>by rw[hd] at hx; cases hx) (by rw[hd]; exact hK)
     ·exact h.elim
    | false=>
     simp only[cond_false] at h;obtain⟨r,w',hr,hk,hp⟩:=Uj h;rw[<-hv] at hr;rw[zcs hpr a.eval hr];simp only[Bool.false_eq_true,if_false,Oper.uponIn];obtain⟨h1,h2⟩:=Yu hp;exact hN.go S.aX _ _ (.v r) r ⟨fun _ _ h=>h,fun _ _ cs h=>⟨cs,h⟩,fun id hi=>⟨hi,rfl⟩⟩ rfl rfl Wt.aX (hw.age hk) (fun hp=>by rw[iV] at hp; cases hp) rfl h2 h1
   ·exact h.elim
  ·exact h.elim
theorem zm0{G:Prop->Prop}{d:TD}{op:BinOp}{a b:Va}{K:Va->Prop}(h:zkg G d op a b K):∃v,K v:=by
 have kk:∀{p:Prop} [Decidable p] {A:Prop},(bif decide p then A else False)->A:=fun {p _ A} h=>by
  by_cases hk:p
  ·simpa[hk] using h
  ·simp[hk] at h
 unfold zkg at h
 split at h <;> first
  | exact h.elim
  | exact⟨_,h⟩
  | exact⟨_,h.2⟩
  | exact⟨_,(kk h).2⟩
  | exact⟨_,kk h⟩
theorem zjh{a b:Operand}{cb:Bool}{x y:Va}{K:Va->Prop}(h:Fj a b cb x y K):∃v,K v:=by
 unfold Fj at h
 split at h <;> first | exact h.elim | exact⟨_,h⟩
theorem zki{C:Ug}{S:St}{w:Wo}{ops:Array Oper}{o:Oper}{pc:List (Nat×Bool)}{K:EV->Mq->Prop}(h:z1b C S w ops o pc K):∃e fact,K e fact:=by
 unfold z1b at h
 split at h
 case h_3=>
  split at h
  ·split at h
   ·split at h
    ·exact⟨_,_,h⟩
    ·exact h.elim
   ·split at h
    ·exact⟨_,_,h⟩
    ·exact h.elim
   ·split at h
    ·obtain⟨v,h⟩:=zjh h; exact⟨_,_,h⟩
    ·exact h.elim
  ·exact h.elim
 case h_5=>
  split at h
  ·rename_i ty u v ht hu hv
   cases hb:z17 ty.d _ C.wr with
   | true=>
    rw[hb] at h;simp only[cond_true] at h;obtain⟨v,h⟩:=Mt h;exact⟨_,_,h.2⟩
   | false=>
    rw[hb] at h;simp only[cond_false] at h;obtain⟨v,h⟩:=zm0 h;exact⟨_,_,h⟩
  ·exact h.elim
 case h_14=>
  (repeat' split at h) <;> first
   | exact h.elim
   | (obtain⟨l,_,h⟩:=BE h; obtain⟨u,_,h⟩:=Dw h; exact⟨_,_,h.2⟩)
 case h_19=>
  split at h
  ·obtain⟨l,_,h⟩:=OL h
   split at h
   ·exact⟨_,_,h.2⟩
   ·exact h.elim
  ·rename_i ty ob ht hx
   cases hk:ty.ks.isEmpty with
   | true=>rw[hk] at h; exact h.elim
   | false=>
    rw[hk] at h;obtain⟨l,_,h⟩:=OL h
    split at h
    ·exact⟨_,_,h.2⟩
    ·exact h.elim
  ·(repeat' split at h) <;> first
    | exact h.elim
    | exact⟨_,_,h⟩
  ·(repeat' split at h) <;> first
    | exact h.elim
    | (obtain⟨v,h⟩:=Mt h; exact⟨_,_,h.2⟩)
  ·exact h.elim
 case h_21=>
  (repeat' split at h) <;> first
   | exact h.elim
   | (obtain⟨v,h⟩:=Uj h; exact⟨_,_,h.2⟩)
 case h_16=>
  split at h
  ·rename_i ty v ht hx
   cases ho':ty.d.AK2 with
   | true=>rw[ho'] at h; exact h.elim
   | false=>rw[ho'] at h; exact⟨_,_,h⟩
  ·exact h.elim
 case h_17=>
  (repeat' split at h) <;> first
   | exact h.elim
   | (obtain⟨v,h⟩:=Uj h; exact⟨_,_,h.2⟩)
 all_goals
  (repeat' split at h) <;> first
   | exact h.elim
   | exact⟨_,_,h⟩
   | exact⟨_,_,h.2⟩
   | (obtain⟨v,h⟩:=Mt h; exact⟨_,_,h.2⟩)
def Df(o:Oper):Bool:=
 match o.op,o.dst with
 | .store _ _ _,some _=>true
 | .defer _,_=>true
 | _,_=>false
def zzp(dn:Nat->Bool)(o:Oper):Bool:=
 match o.guard with
 | some (j,_)=>dn j
 | none=>true
def zpa(S:St)(ops:Array Oper)(o:Oper):Bool:=match o.guard with
 | none=>false
 | some (j,_)=>match (ops[j]?).bind (·.dst) with
  | some d=>match S.F.get d with
   | some (.gd _ _ .no)=>true
   | _=>false
  | none=>false
def B8(S:St)(ops:Array Oper)(pc:List (Nat×Bool))(o:Oper):Bool:=zpa S ops o||o.op.operands.toList.any fun x=>match zdf S pc x with
 | some .no=>true
 | _=>false
theorem Dh{n:Nat}{S:St}{ops:Array Oper}{a:Act}(hf:Nv n S ops a){pc:List (Nat×Bool)}{o:Oper}(mZ:znp S ops o=some pc)(h:B8 S ops pc o=true):¬DQ ops a pc:=fun hp=>by
 unfold B8 at h;rcases Bool.or_eq_true_iff.1 h with h | h
 ·unfold zpa at h
  split at h
  ·cases h
  ·rename_i j want hg
   split at h
   ·rename_i d hd
    split at h
    ·rename_i r tJ hv;unfold znp at mZ;rw[hg] at mZ;simp only[hd,hv] at mZ
     cases hr:Nat.beq r S.r with
     | false=>rw[hr] at mZ; cases mZ
     | true=>
      rw[hr] at mZ;simp only[cond_true,I0] at mZ;subst mZ;exact((hf.fits d _ hv (Ib hr)).1 fun p hm=>hp p (I1 _ hm)).elim
    ·cases h
   ·cases h
 ·obtain⟨x,_,hx⟩:=List.any_eq_true.1 h
  split at hx
  ·rename_i hv;exact(ZW hf hp hv).elim
  ·cases hx
def zas(C:Ug)(ops:Array Oper)(dn:Nat->Bool)(o:Oper)(S:St)(w:Wo)(K:Mq->St->Wo->Prop):Prop:=
 bif zzp dn o && !Df o then
  match znp S ops o with
  | none=>False
  | some pc=>bif B8 S ops pc o then DS C S o.dst (zf4 S pc .no) fun S'=>K none S' w else bif EL C o.op then (match pc with
   | []=>z0q C S w o [] (K none)
   | pc=>bif zr2 S ops pc then Hz S ops pc (z0q C S w o pc (K none))/\(Hz S ops pc False->DS C S o.dst (zf4 S pc .no) fun S'=>K none S' w) else False)
   else z1b C S w ops o pc fun e f=>DS C S o.dst (zf4 S pc e) fun S'=>K f S' w
 else False
structure zyq (C:Ug) (S:St) (w:Wo) (ops:Array Oper) (D:Nat->Prop) (o:Oper) (a:Act) (S':St) (w':Wo) (a':Act) (W9:Wo):Prop where
 fit:MI C.n S' ops D a'
 rel:Zg S' w' W9
 wf:Lk S'
 fr:MJ S S'
 r:S'.r=S.r
 put:∃v,a'=a.put o.dst v
 pm:C.pm=true->w'=w/\S'.old=S.old
theorem znq{S:St}{ops:Array Oper}{D:Nat->Prop}{n:Nat}{a:Act}(hf:MI n S ops D a){o:Oper}{pc:List (Nat×Bool)}(h:znp S ops o=some pc)(hg:∀j b,o.guard=some (j,b)->D j):∀p∈pc,D p.1:=by
 unfold znp at h
 split at h
 ·simp only[I0] at h; subst h; intro p hp; cases hp
 ·rename_i j want hgd
  split at h
  ·rename_i d hd
   split at h
   ·simp only[I0] at h; subst h;intro p hp;simp only[Iz] at hp;subst hp;exact hg j want hgd
   ·rename_i r tJ b hv
    cases hr:Nat.beq r S.r with
    | false=>rw[hr] at h; cases h
    | true=>
     rw[hr] at h;simp only[cond_true,I0] at h; subst h;intro p hp;rcases Ii.1 hp with rfl | hp
     ·exact hg j want hgd
     ·have:=Ib hr;subst this;exact hf.dn d tJ _ hv p hp
   ·rename_i r tJ hv
    cases hr:Nat.beq r S.r with
    | false=>rw[hr] at h; cases h
    | true=>
     rw[hr] at h;simp only[cond_true,I0] at h; subst h;intro p hp;rcases Ii.1 hp with rfl | hp
     ·exact hg j want hgd
     ·have:=Ib hr;subst this;exact hf.dn d tJ _ hv p hp
   ·cases h
  ·cases h
structure zon (C:Ug):Prop where
 T:zsr C.P C.T
 pf:∀f ks,zms C.pf f=some ks->Ow C.P f
 ef:∀f ks,zms C.ef f=some ks->Ow C.P f
 mixed:C.P.follows .mixedOrders=true
theorem zat{C:Ug}(E:zon C){ops:Array Oper}{D D':Nat->Prop}{dn:Nat->Bool}{i:Nat}{o:Oper}{S:St}{w wr:Wo}{a:Act}{K:Mq->St->Wo->Prop}{N:Act->Wo->Prop}{Q:Exit->Act->Wo->Prop}(hu:FA ops=true)(ho:ops[i]? = some o)(hi:¬D i)(hD:∀j,D j->zss ops j)(hDD:∀j,D j->D' j)(hdn:∀j,dn j=true->zss ops j->D j)(hf:MI C.n S ops D a)(hw:Zg S w wr)(Wt:Lk S)(hN:∀f S' w' a' W9,K f S' w'->zyq C S w ops D' o a S' w' a' W9->N a' W9)(h:zas C ops dn o S w K) :
  if Region.wanted o (yielded ops a.tmps) then o.wpIn (Vf C.rd) 0 C.P a wr N Q else N (a.put o.dst undef) wr:=by
 unfold zas at h
 cases hb:(zzp dn o && !Df o) with
 | false=>rw[hb] at h; exact h.elim
 | true=>
  rw[hb] at h;simp only[cond_true] at h;simp only[A',IB] at hb
  have hg:∀j b,o.guard=some (j,b)->D j:=fun j b hgd=>by
   refine hdn j ?_ ⟨o,by rw[Array.mem_toList_iff]; exact Array.mem_of_getElem? ho,b,hgd⟩;have:=hb.1;unfold zzp at this;rw[hgd] at this;exact this
  split at h
  ·exact h.elim
  ·rename_i pc mZ;have AM4:=znq hf mZ hg;have nE:=Gw hf.fit mZ
   cases hdd:B8 S ops pc o with
   | true=>
    rw[hdd] at h;simp only[cond_true] at h;have hp:=Dh hf.fit mZ hdd;rw[B' (fun uA=>hp (nE.1 uA))];obtain⟨h1,h2⟩:=Yu h;exact hN _ _ _ _ _ h1 ⟨hf.put hu ho hi hD hDD AM4 h2 ⟨fun hp'=>Ir hp' hp,fun _=>rfl⟩,hw.aV _ _,Wt.aV _ _,(MJ.refl S).aV _ _,by cases o.dst <;> rfl,⟨undef,rfl⟩,fun _=>⟨rfl,by cases o.dst <;> rfl⟩⟩
   | false=>
   rw[hdd] at h;simp only[cond_false] at h
   cases he:EL C o.op with
   | true=>
    rw[he] at h;simp only[cond_true] at h
    have run:DQ ops a pc->z0q C S w o pc (K none)->o.wpIn (Vf C.rd) 0 C.P a wr N Q:=fun Cj7 h=>by
     refine zq8 E.T E.ef hf hw Wt Cj7 ⟨fun S1 w' W9 e v h1 h2 h3 h4 h5 h9 h6 h7 h8=>?_⟩ h (fun t x y hs=>?_)
     ·refine hN none _ _ _ _ h8 ⟨?_,h5.aV _ _,h4.aV _ _,h1.aV _ _,by cases o.dst <;> exact h3,⟨v,rfl⟩,fun hp=>by cases o.dst <;> exact h9 hp⟩;have hf1:MI C.n S1 ops D a:=hf.mono h1.B h2 h3;exact hf1.put (pc:=[]) hu ho hi hD hDD (fun p hp=>by cases hp) h7 ⟨fun _=>h6,fun hn=>Ir (fun p hp=>by cases hp) hn⟩
     ·have:=hb.2;unfold Df at this;rw[hs] at this
      cases hd:o.dst with
      | none=>rfl
      | some d=>rw[hd] at this; cases this
    split at h
    ·have uA:Region.wanted o (yielded ops a.tmps)=true:=nE.2 (fun p hp=>by cases hp);rw[C' uA];exact run (fun p hp=>by cases hp) h
    ·cases hpo:zr2 S ops pc with
     | false=>rw[hpo] at h; exact h.elim
     | true=>
      rw[hpo] at h;simp only[cond_true] at h
      by_cases hp:DQ ops a pc
      ·rw[C' (nE.2 hp)];exact run hp (Cm hf.fit hp h.1)
      ·rw[B' (fun uA=>hp (nE.1 uA))];obtain⟨h1,h2⟩:=Yu (h.2 (ziq hf.fit hpo hp));exact hN _ _ _ _ _ h1 ⟨hf.put hu ho hi hD hDD AM4 h2 ⟨fun hp'=>Ir hp' hp,fun _=>rfl⟩,hw.aV _ _,Wt.aV _ _,(MJ.refl S).aV _ _,by cases o.dst <;> rfl,⟨undef,rfl⟩,fun _=>⟨rfl,by cases o.dst <;> rfl⟩⟩
   | false=>
    rw[he] at h;simp only[cond_false] at h
    by_cases hp:DQ ops a pc
    ·rw[C' (nE.2 hp)];obtain⟨e,fact,v,hK,B18,i',hq⟩:=zgf E.T E.pf hf.fit hp h;obtain⟨h1,h2⟩:=Yu hK;refine FD (C:=Zg S w) (K:=fun a'=>a'=a.put o.dst v) hw (fun a' w' hw' ha'=>?_) ⟨v,fun W9 hw'=>hq S w a rfl (fun _ _ h=>h) i' W9 hw',rfl⟩;subst ha';exact hN _ _ _ _ _ h1 ⟨hf.put hu ho hi hD hDD AM4 h2 ⟨fun _=>B18,fun hn=>Ir hp hn⟩,hw'.aV _ _,Wt.aV _ _,(MJ.refl S).aV _ _,by cases o.dst <;> rfl,⟨v,rfl⟩,fun _=>⟨rfl,by cases o.dst <;> rfl⟩⟩
    ·rw[B' (fun uA=>hp (nE.1 uA))];obtain⟨e,fact,hK⟩:=zki h;obtain⟨h1,h2⟩:=Yu hK;exact hN _ _ _ _ _ h1 ⟨hf.put hu ho hi hD hDD AM4 h2 ⟨fun hp'=>Ir hp' hp,fun _=>rfl⟩,hw.aV _ _,Wt.aV _ _,(MJ.refl S).aV _ _,by cases o.dst <;> rfl,⟨undef,rfl⟩,fun _=>⟨rfl,by cases o.dst <;> rfl⟩⟩
def ztu(C:Ug)(ops:Array Oper):List Oper->Nat->St->Wo->(St->Wo->Prop)->Prop
 | [],_,S,w,K=>K S w
 | o::rest,k,S,w,K=>zas C ops (fun j=>Nat.blt j k) o S w fun _ S' w'=>ztu C ops rest (k+1) S' w' K
def G0:List Oper->List Nat
 | []=>[]
 | o::r=>match o.dst with
  | some d=>d::G0 r
  | none=>G0 r
def D1(ds:List Nat)(a a':Act):Prop:=a'.defers=a.defers/\a'.tmps.size=a.tmps.size/\∀i,i∉ds->a'.tmps.getD i undef=a.tmps.getD i undef
theorem D1.refl(ds:List Nat)(a:Act):D1 ds a a:=⟨rfl,rfl,fun _ _=>rfl⟩
theorem D1.trans{ds:List Nat}{a b c:Act}(h:D1 ds a b)(k:D1 ds b c):D1 ds a c:=⟨k.1.trans h.1,k.2.1.trans h.2.1,fun i hi=>(k.2.2 i hi).trans (h.2.2 i hi)⟩
theorem D1.mono{ds es:List Nat}{a b:Act}(h:D1 ds a b)(hs:∀x∈ds,x∈es):D1 es a b:=⟨h.1,h.2.1,fun i hi=>h.2.2 i (fun hx=>hi (hs i hx))⟩
theorem D1.put(a:Act)(d:Option Tmp)(v:Va)(ds:List Nat)(h:∀x,d=some x->x∈ds):D1 ds a (a.put d v):=by
 cases d with
 | none=>exact D1.refl _ _
 | some d=>
  refine⟨rfl,by simp[Act.put],fun i hi=>?_⟩;have:d≠i:=fun e=>hi (e▸h d rfl)
  simp only[Act.put,Array.getD_eq_getD_getElem?];rw[Array.getElem?_setIfInBounds_ne this]
theorem Ng{C:Ug}(E:zon C){ops:Array Oper}(hu:FA ops=true){K:St->Wo->Prop}{Q:Exit->Act->Wo->Prop}{ds:List Nat}{S0:St}{w0:Wo}{a0:Act}(hds:∀x∈G0 ops.toList,x∈ds)(hQ:∀S' w' a' W9,K S' w'->MI C.n S' ops (fun j=>j<ops.size/\zss ops j) a'->Zg S' w' W9->Lk S'->MJ S0 S'->S'.r=S0.r->D1 ds a0 a'->(C.pm=true->w'=w0/\S'.old=S0.old)->Q .normal a' W9) :
  ∀(l:List Oper) (k:Nat) (S:St) (w wr:Wo) (a:Act),(∀j,l[j]? = ops[k+j]?)->k+l.length=ops.size->ztu C ops l k S w K->MI C.n S ops (fun j=>j<k/\zss ops j) a->Zg S w wr->Lk S->MJ S0 S->S.r=S0.r->D1 ds a0 a->(C.pm=true->w=w0/\S.old=S0.old)->
   wpListIn (Vf C.rd) 0 C.P ops Q l a wr
 | [],k,S,w,wr,a,_,hk,h,hf,hw,Wt,tP,hr,hfa,iV=>by
  have:k=ops.size:=by simpa using hk
  subst this;exact hQ S w a wr h hf hw Wt tP hr hfa iV
 | o::rest,k,S,w,wr,a,hl,hk,h,hf,hw,Wt,tP,hr,hfa,iV=>by
  have ho:ops[k]? = some o:=by simpa using (hl 0).symm
  have hod:∀x,o.dst=some x->x∈ds:=fun x hx=>by
   refine hds x ?_;have hm:o∈ops.toList:=by rw[Array.mem_toList_iff]; exact Array.mem_of_getElem? ho
   clear hk hl h;generalize ops.toList=q at hm
   induction q with
   | nil=>cases hm
   | cons y q ih=>
    simp only[G0];rcases Ii.1 hm with rfl | hm
    ·rw[hx]; exact I9 ..
    ·split
     ·exact I1 _ (ih hm)
     ·exact ih hm
  have bG:=zat E (i:=k) (D':=fun j=>j<k+1/\zss ops j) (N:=fun a' w'=>wpListIn (Vf C.rd) 0 C.P ops Q rest a' w') (Q:=Q) hu ho (fun hd=>Nat.lt_irrefl _ hd.1) (fun j hj=>hj.2) (fun j hj=>⟨Nat.lt_succ_of_lt hj.1,hj.2⟩)
   (fun j h1 h2=>⟨Ik h1,h2⟩) hf hw Wt (fun f S' w' a' W9 hK hL=>by
    obtain⟨v,rfl⟩:=hL.put;exact Ng E hu hds hQ rest (k+1) S' w' W9 _ (fun j=>by have:=hl (j+1); simpa[Nat.add_assoc,Nat.add_comm 1 j] using this) (by simp at hk; omega) hK hL.fit hL.rel hL.wf (tP.trans hL.fr) (hL.r.trans hr) (hfa.trans (D1.put a o.dst v ds hod)) (fun hp=>⟨(hL.pm hp).1.trans (iV hp).1,(hL.pm hp).2.trans (iV hp).2⟩)) h
  unfold wpListIn
  by_cases hwt:Region.wanted o (yielded ops a.tmps)=true
  ·rw[C' hwt] at bG ⊢;exact bG
  ·rw[B' hwt] at bG ⊢;exact⟨fun _ _=>trivial,bG⟩
theorem zwy{C:Ug}{ops:Array Oper}{dn:Nat->Bool}{o:Oper}{S:St}{w:Wo}{K:Mq->St->Wo->Prop}(h:zas C ops dn o S w K):∀c,o.op≠.defer c:=fun c hc=>by
 unfold zas at h;have:Df o=true:=by simp[Df,hc]
 rw[this] at h;simp at h
def UB(ops:Array Oper)(o:Oper)(a:Act):Option (Sem Next):=if Region.wanted o (yielded ops a.tmps) then some (execOp a.eval o) else none
def YS(P:Program)(R:Wo->Prop)(s:Option (Sem Next))(v:Va):Prop:=
 match s with
 | some s=>∀w,R w->Oper.quietUpon P R w v (s.run P w)
 | none=>v=undef
def Av(P:Program)(o:Oper)(a:Act)(w:Wo)(N:Va->Wo->Prop):Prop:=
 match (execOp a.eval o).run P w with
 | .ok (.value v) w'=>N v w'
 | .ok .skip w'=>N undef w'
 | .ok (.enter f args) w'=>Calls P f args w' fun e jB=>∃v,e=.returned v/\N v jB
 | .ok (.row row args) w'=>Rows P row args w' fun v jB=>N v jB
 | .ok (.round l f tmps asg body) w'=>RoundIn Fence.wide 0 P l f tmps asg body w' fun e jB=>∃v,e=.returned v/\N v jB
 | _=>False
def VQ:List Oper->List Nat->List Nat
 | [],acc=>acc
 | o::r,acc=>VQ r (acc++[o.after.toList.foldl (fun s e=>if Region.binds .any e then s ||| 2 ^ e.on ||| acc.getD e.on 0 else s) 0])
def zhj(M:List Nat)(i j:Nat):Bool := !(M.getD j 0).testBit i
def GW(P:Program)(ops:Array Oper)(un:Nat->Nat->Bool)(Q:Act->(Wo->Prop)->Prop):Nat->Array Bool->List (Nat×Option (Sem Next)×Va)->Act->(Wo->Prop)->Prop
 | 0,Re,_,a,R=>Region.ready .any ops Re=[]/\Q a R
 | n+1,Re,Pd,a,R=>(Region.ready .any ops Re=[]->Q a R)/\∀i∈Region.ready .any ops Re,∀o,ops[i]? = some o->
   (∃v,YS P R (UB ops o a) v/\GW P ops un Q n (Re.setIfInBounds i true) ((i,UB ops o a,v)::Pd) (a.put o.dst v) R) \/
   (Region.wanted o (yielded ops a.tmps)=true/\∀w,R w->Av P o a w fun v w'=>∃R':Wo->Prop,R' w'/\(∀p∈Pd,un p.1 i=true->YS P R' p.2.1 p.2.2)/\
    GW P ops un Q n (Re.setIfInBounds i true) Pd (a.put o.dst v) R')
section
variable {P:Program}{ops:Array Oper}{un:Nat->Nat->Bool}{Q:Act->(Wo->Prop)->Prop}
theorem Bi{o:Oper}{a:Act}{w:Wo}{N N':Va->Wo->Prop}(h:∀v w,N v w->N' v w)(hh:Av P o a w N):Av P o a w N':=by
 unfold Av at *;generalize (execOp a.eval o).run P w=r at *
 cases r with
 | ok n w'=>
  cases n <;> dsimp only at hh ⊢
  case value v=>exact h _ _ hh
  case skip=>exact h _ _ hh
  case enter f args=>exact hh.mono fun e jB ⟨v,he,hn⟩=>⟨v,he,h _ _ hn⟩
  case row row args=>exact hh.mono fun v jB hn=>h _ _ hn
  case round l f tmps asg body=>exact hh.mono fun e jB ⟨v,he,hn⟩=>⟨v,he,h _ _ hn⟩
  all_goals exact hh
 | halt x w'=>exact hh
theorem zww{o:Oper}{a:Act}{w:Wo}{N:Va->Wo->Prop}{K:Act->Wo->Prop}{Q':Exit->Act->Wo->Prop}{r:Option Nat}(hh:Av P o a w N)(h:∀v w',N v w'->K (a.put o.dst v) w'):o.wpIn (Vf r) 0 P a w K Q':=by
 refine zoj (fun c hc=>by unfold Av at hh; rcases zg4 (P:=P) (ρ:=a.eval) hc w with ⟨d,w',hr⟩ | ⟨x,w',hr⟩ <;> (rw[hr] at hh; exact hh)) ?_;unfold Av at hh;generalize (execOp a.eval o).run P w=r at *
 cases r with
 | ok n w'=>
  cases n <;> dsimp only at hh <;> simp only[Oper.uponIn]
  case value v=>exact h _ _ hh
  case skip=>exact h _ _ hh
  case enter f args=>exact⟨fun hx=>(by simp[Vf,Fence.wide] at hx),Pv (hh.mono fun e jB ⟨v,he,hn⟩=>by subst he; exact h _ _ hn)⟩
  case row row args=>exact⟨fun hx=>(by simp[Vf,Fence.wide] at hx),ztw (hh.mono fun v jB hn=>h _ _ hn)⟩
  case round l f tmps asg body=>exact⟨fun hx=>(by simp[Vf,Fence.wide] at hx),zgg (hh.mono fun e jB ⟨v,he,hn⟩=>by subst he; exact h _ _ hn)⟩
 | halt x w'=>exact hh.elim
theorem zmz{o:Oper}{a:Act}{w:Wo}{K:Act->Wo->Prop}{r:Option Nat}(hd:∀c,o.op≠.defer c)(hh:o.wpIn (Vf r) 0 P a w K fun _ _ _=>False)(hp:∀a' w',K a' w'->∃v,a'=a.put o.dst v):Av P o a w fun v w'=>K (a.put o.dst v) w':=by
 have hh:=z0m hd hh;unfold Av;generalize (execOp a.eval o).run P w=r at *
 cases r with
 | ok n w'=>
  cases n <;> simp only[Oper.uponIn] at hh ⊢
  case value v=>exact hh
  case skip=>exact hh
  case defer d=>
   obtain⟨v,hv⟩:=hp _ _ hh;have h1:(({ a with defers:=d::a.defers }:Act).put o.dst undef).defers=(a.put o.dst v).defers:=by rw[hv]
   have h2:∀(b:Act) (x:Option Tmp) (u:Va),(b.put x u).defers=b.defers:=fun b x u=>by cases x <;> rfl
   rw[h2,h2] at h1;have:=congrArg List.length h1;simp at this
  case enter f args=>
   exact(zo5 hh.2).mono fun e jB he=>by
    cases e with
    | returned v=>exact⟨v,rfl,he⟩
    | panicked c=>exact he.elim
    | outgrown=>obtain⟨_,_,he⟩:=he; exact he.elim
  case row row args=>exact fun c cs=>(let ⟨v,w1,h1,h2⟩:=hh.2 c cs (zax _ _); ⟨v,w1,h1,StepsIn.steps h2⟩)
  case round l f tmps asg body=>
   refine⟨trivial,fun c cs _=>?_⟩;obtain⟨e,jB,he,hs⟩:=hh.2.2 c cs (zax _ _);refine⟨e,jB,?_,hs⟩
   cases e with
   | returned v=>exact⟨v,rfl,he⟩
   | panicked c=>exact he.elim
   | outgrown=>obtain⟨_,_,he⟩:=he; exact he.elim
 | halt x w'=>cases x <;> simp only[Oper.uponIn] at hh
theorem E0:∀{n:Nat} {Re:Array Bool} {Pd Pd':List (Nat×Option (Sem Next)×Va)} {a:Act} {R:Wo->Prop},(∀p∈Pd',p∈Pd)->GW P ops un Q n Re Pd a R->GW P ops un Q n Re Pd' a R
 | 0,_,_,_,_,_,_,h=>h
 | n+1,Re,Pd,Pd',a,R,hs,h=>⟨h.1,fun i hi o ho=>by
  rcases h.2 i hi o ho with ⟨v,h1,h2⟩ | ⟨h1,h2⟩
  ·refine .inl ⟨v,h1,E0 (fun p hp=>?_) h2⟩;rcases Ii.1 hp with rfl | hp
   ·exact I9 ..
   ·exact I1 _ (hs p hp)
  ·exact .inr ⟨h1,fun w hw=>Bi (fun v w' ⟨R',h3,h4,h5⟩=>⟨R',h3,fun p hp=>h4 p (hs p hp),E0 hs h5⟩) (h2 w hw)⟩⟩
theorem KW{r:Option Nat}{Q':Exit->Act->Wo->Prop}(hQ:∀a R w,Q a R->R w->Q' .normal a w):∀(n:Nat) (Re:Array Bool) (Pd:List (Nat×Option (Sem Next)×Va)) (a:Act) (R:Wo->Prop) (w:Wo),R w->GW P ops un Q n Re Pd a R->wpAnyIn (Vf r) 0 P .any ops Q' n Re a w
 | 0,_,_,_,_,_,hw,h=>⟨h.1,hQ _ _ _ h.2 hw⟩
 | n+1,Re,Pd,a,R,w,hw,h=>⟨fun h0=>hQ _ _ _ (h.1 h0) hw,fun i hi=>by
  obtain⟨_,o,ho,_⟩:=mem_ready.1 hi;unfold wpOpIn;simp only[ho];rcases h.2 i hi o ho with ⟨v,h1,h2⟩ | ⟨h1,h2⟩
  ·unfold UB at h1
   by_cases hwt:Region.wanted o (yielded ops a.tmps)=true
   ·rw[C' hwt] at h1 ⊢;exact FD (C:=R) (K:=fun a'=>a'=a.put o.dst v) hw (fun a' w' hw' ha'=>by subst ha'; exact KW hQ n _ _ _ R w' hw' h2) ⟨v,fun w' hw'=>h1 w' hw',rfl⟩
   ·rw[B' hwt] at h1 ⊢;rw[show v=undef from h1] at h2;exact⟨fun _ _=>trivial,KW hQ n _ _ _ R w hw h2⟩
  ·rw[C' h1];exact(zww (h2 w hw) fun v w' ⟨R',h3,_,h5⟩=>KW hQ n _ _ _ R' w' h3 h5)⟩
theorem zr9{oi oj:Oper}{a:Act}{v:Va}(hap:oi.apart ops oj=true)(hsj:∀cs b,oj.op≠.select cs b):UB ops oj (a.put oi.dst v)=UB ops oj a:=by
 obtain⟨h1,_,_⟩:=Oper.apart_spec hap;unfold UB;rw[wanted_put oj a oi.dst v h1,execOp_put oj hsj a oi.dst v h1]
theorem ztq{oi oj:Oper}{a:Act}{v:Va}{w:Wo}{N:Va->Wo->Prop}(hap:oi.apart ops oj=true)(hsj:∀cs b,oj.op≠.select cs b)(h:Av P oj (a.put oi.dst v) w N):Av P oj a w N:=by
 obtain⟨h1,_,_⟩:=Oper.apart_spec hap;unfold Av at *;rw[execOp_put oj hsj a oi.dst v h1] at h;exact h
theorem z6{x y:Oper}(h:x.apart ops y=true):∀d,y.dst=some d->d∉x.looksAt ops:=(Oper.apart_spec h).2.2
def HZ(ops:Array Oper)(Re:Array Bool):Prop:=∀j o,ops[j]? = some o->Re.getD j true=true->∀e∈o.after,Region.binds .any e=true->Re.getD e.on false=true
theorem zod(A78:∀(j:Nat) (o:Oper) cs b,ops[j]? = some o->o.op≠.select cs b)(hun:∀Re i j,HZ ops Re->i∈Region.ready .any ops Re->j∈Region.ready .any ops Re->i≠j->un i j=true){i:Nat}{oi:Oper}{v:Va}(hi:ops[i]? = some oi) :
  ∀(n:Nat) (Re:Array Bool) (Pd:List (Nat×Option (Sem Next)×Va)) (a:Act) (R:Wo->Prop),HZ ops Re->
   (∀j oj,ops[j]? = some oj->j≠i->Re.getD j true=false->(∀e∈oj.after,Region.binds .any e=true->e.on≠i)->oi.apart ops oj=true)->
   i∈Region.ready .any ops Re->YS P R (UB ops oi a) v->
   GW P ops un Q n (Re.setIfInBounds i true) ((i,UB ops oi a,v)::Pd) (a.put oi.dst v) R->GW P ops un Q (n+1) Re Pd a R:=by
 intro n
 induction n with
 | zero=>
  intro Re Pd a R rJ rK hr hy H;refine⟨fun h=>(by rw[h] at hr; cases hr),fun j hj oj hoj=>?_⟩
  by_cases hji:j=i
  ·subst hji; rw[hi] at hoj; cases hoj; exact .inl ⟨v,hy,H⟩
  ·have:=ready_mono hj hji;rw[H.1] at this;cases this
 | succ n ih=>
  intro Re Pd a R rJ rK hr hy H;refine⟨fun h=>(by rw[h] at hr; cases hr),fun j hj oj hoj=>?_⟩
  by_cases hji:j=i
  ·subst hji; rw[hi] at hoj; cases hoj; exact .inl ⟨v,hy,H⟩
  ·obtain⟨Bn0,oj',CJ2,nB⟩:=mem_ready.1 hj;rw[hoj] at CJ2; cases CJ2
   have Cj0:∀e∈oj.after,Region.binds .any e=true->e.on≠i:=fun e he hb heq=>by
    have h1:=nB e he hb;have h0:=(mem_ready.1 hr).1;rw[heq] at h1;rcases Nat.lt_or_ge i Re.size with h' | h'
    ·simp[h'] at h0 h1; rw[h0] at h1; cases h1
    ·simp[Array.getElem?_eq_none h'] at h1
   have hap:=rK j oj hoj hji Bn0 Cj0;have hsj:=fun cs b=>A78 j oj cs b hoj
   have hsi:=fun cs b=>A78 i oi cs b hi
   have A65:HZ ops (Re.setIfInBounds j true):=fun k ok hk qZ e he hb=>by
    by_cases eH:j=k
    ·subst eH; rw[hoj] at hk; cases hk;exact getD_set_true (nB e he hb)
    ·rw[getD_set_ne true eH] at qZ;exact getD_set_true (rJ k ok hk qZ e he hb)
   have BZ9:∀k ok,ops[k]? = some ok->k≠i->(Re.setIfInBounds j true).getD k true=false->
     (∀e∈ok.after,Region.binds .any e=true->e.on≠i)->oi.apart ops ok=true:=fun k ok hk hki hun iW=>by
    refine rK k ok hk hki ?_ iW
    by_cases eH:j=k
    ·subst eH; exact Bn0
    ·rw[getD_set_ne true eH] at hun; exact hun
   have hr':=ready_mono hr (Ne.symm hji)
   have Bn7:∀u,UB ops oi (a.put oj.dst u)=UB ops oi a:=fun u=>by
    unfold UB;rw[wanted_put oi a oj.dst u (z6 hap),execOp_put oi hsi a oj.dst u (z6 hap)]
   have Bt6:∀u,(a.put oi.dst v).put oj.dst u=(a.put oj.dst u).put oi.dst v:=fun u=>Act.put_comm a v u (Oper.apart_spec hap).2.1
   rcases H.2 j (ready_mono hj hji) oj hoj with ⟨u,h1,h2⟩ | ⟨h1,h2⟩
   ·rw[zr9 hap hsj] at h1 h2;refine .inl ⟨u,h1,ih _ _ _ R A65 BZ9 hr' (by rw[Bn7 u]; exact hy) ?_⟩;rw[Bn7 u,<-Bt6 u,Array.setIfInBounds_comm _ _ hji]
    exact E0 (fun p hp=>by
     simp only[Ii] at hp ⊢;rcases hp with h | h | h
     ·exact .inr (.inl h)
     ·exact .inl h
     ·exact .inr (.inr h)) h2
   ·refine .inr ⟨?_,fun w hw=>ztq hap hsj (Bi (fun u w' ⟨R',h3,h4,h5⟩=>⟨R',h3,fun p hp=>h4 p (I1 _ hp),?_⟩) (h2 w hw))⟩
    ·rw[wanted_put oj a oi.dst v (Oper.apart_spec hap).1] at h1; exact h1
    ·have hyi:YS P R' (UB ops oi a) v:=h4 _ (I9 ..) (hun Re i j rJ hr hj (Ne.symm hji));refine ih _ _ _ R' A65 BZ9 hr' (by rw[Bn7 u]; exact hyi) ?_;rw[Bn7 u,<-Bt6 u,Array.setIfInBounds_comm _ _ hji];exact h5
end
theorem zay{acc:List Nat}{i:Nat}:∀(l:List Edge) (s:Nat),(l.foldl (fun s e=>if Region.binds .any e then s ||| 2 ^ e.on ||| acc.getD e.on 0 else s) s).testBit i=true->
  s.testBit i=true\/∃e∈l,Region.binds .any e=true/\(e.on=i\/(acc.getD e.on 0).testBit i=true)
 | [],s,h=>.inl h
 | e::l,s,h=>by
  rcases zay l _ h with h1 | ⟨e',he',hb,h2⟩
  ·by_cases hb:Region.binds .any e=true
   ·simp only[C' hb] at h1;simp only[Nat.testBit_or,Iu] at h1;rcases h1 with (h1 | h1) | h1
    ·exact .inl h1
    ·refine .inr ⟨e,I9 ..,hb,.inl ?_⟩;rw[Nat.testBit_two_pow] at h1
     simpa using h1
    ·exact .inr ⟨e,I9 ..,hb,.inr h1⟩
   ·simp only[B' hb] at h1;exact .inl h1
  ·exact .inr ⟨e',I1 _ he',hb,h2⟩
theorem Ep:∀(l:List Oper) (acc:List Nat) (pre:List Oper),acc.length=pre.length->
  (∀(j:Nat) (o:Oper),pre[j]? = some o->∀i,(acc.getD j 0).testBit i=true->∃e∈o.after.toList,Region.binds .any e=true/\(e.on=i\/(e.on<j/\(acc.getD e.on 0).testBit i=true)))->
  ∀(j:Nat) (o:Oper),(pre++l)[j]? = some o->∀i,((VQ l acc).getD j 0).testBit i=true->∃e∈o.after.toList,Region.binds .any e=true/\(e.on=i\/(e.on<j/\((VQ l acc).getD e.on 0).testBit i=true))
 | [],acc,pre,hl,h,j,o,ho,i,hb=>by
  simp only[List.append_nil] at ho;exact h j o ho i hb
 | o'::l,acc,pre,hl,h,j,o,ho,i,hb=>by
  have Ce3:pre++o'::l=(pre++[o'])++l:=Qs;rw[Ce3] at ho;simp only[VQ] at hb ⊢;refine Ep l _ (pre++[o']) (by simp[hl]) (fun j o ho i hb=>?_) j o ho i hb
  by_cases hj:j<pre.length
  ·rw[Ip hj] at ho;rw[List.getD_eq_getElem?_getD,Ip Qo,<-List.getD_eq_getElem?_getD] at hb;obtain⟨e,he,dD,h2⟩:=h j o ho i hb;refine⟨e,he,dD,?_⟩;rcases h2 with h2 | ⟨h2,h3⟩
   ·exact .inl h2
   ·refine .inr ⟨h2,?_⟩;rw[List.getD_eq_getElem?_getD,Ip Qo,<-List.getD_eq_getElem?_getD];exact h3
  ·have hj':j=pre.length:=by
    have:j<(pre++[o']).length:=(I8.1 ho).1;simp at this; omega
   subst hj';simp only[List.getElem?_concat_length,I0] at ho;subst ho;rw[<-hl] at hb;rw[List.getD_eq_getElem?_getD,List.getElem?_concat_length] at hb;simp only[Option.getD_some] at hb;rcases zay _ _ hb with h1 | ⟨e,he,dD,h2⟩
   ·simp at h1
   ·refine⟨e,he,dD,?_⟩;rcases h2 with h2 | h2
    ·exact .inl h2
    ·have IS:e.on<acc.length:=by
      rcases Nat.lt_or_ge e.on acc.length with h' | h'
      ·exact h'
      ·rw[List.getD_eq_getElem?_getD,List.getElem?_eq_none h'] at h2; simp at h2
     refine .inr ⟨Qo,?_⟩;rw[List.getD_eq_getElem?_getD,Ip IS,<-List.getD_eq_getElem?_getD];exact h2
theorem zl9{ops:Array Oper}(Re:Array Bool)(i j:Nat)(rJ:HZ ops Re)(hi:i∈Region.ready .any ops Re)(hj:j∈Region.ready .any ops Re)(_:i≠j):zhj (VQ ops.toList []) i j=true:=by
 unfold zhj;rw[IB];rw[Bool.eq_false_iff];intro hb;have Bv6:=Ep ops.toList [] [] rfl (fun j o ho=>by simp at ho);simp only[List.nil_append] at Bv6;have sR:=(mem_ready.1 hi).1
 have no:Re.getD i false≠true:=fun h=>by
  rcases Nat.lt_or_ge i Re.size with h' | h'
  ·simp[h'] at h sR; rw[h] at sR; cases sR
  ·simp[Array.getElem?_eq_none h'] at h
 have key:∀k:Nat,∀o,ops[k]? = some o->(∀e∈o.after,Region.binds .any e=true->Re.getD e.on false=true)->((VQ ops.toList []).getD k 0).testBit i=true->False:=by
  intro k
  induction k using Nat.strongRecOn with
  | _ k ih=>
   intro o ho nB hb;obtain⟨e,he,dD,h2⟩:=Bv6 k o (by simpa using ho) i hb;have he':e∈o.after:=by rw[<-Array.mem_toList_iff]; exact he
   have hl:=nB e he' dD;rcases h2 with h2 | ⟨h2,h3⟩
   ·rw[h2] at hl; exact no hl
   ·have IS:e.on<ops.size:=Nat.lt_trans h2 (Array.getElem?_eq_some_iff.1 ho).1;have hoe:ops[e.on]? = some ops[e.on]:=Array.getElem?_eq_getElem IS;refine ih e.on h2 _ hoe (rJ e.on _ hoe ?_) h3;rcases Nat.lt_or_ge e.on Re.size with h' | h'
    ·simp[h'] at hl ⊢; exact hl
    ·simp[Array.getElem?_eq_none h'] at hl
 obtain⟨_,o,ho,nB⟩:=mem_ready.1 hj;exact key j o ho nB hb
def Dt(C:Ug)(ops:Array Oper):List Nat->Option Nat
 | []=>none
 | i::r=>match ops[i]? with
  | some o=>bif EL C o.op then Dt C ops r else some i
  | none=>Dt C ops r
theorem G3{C:Ug}{ops:Array Oper}:∀{l:List Nat} {i:Nat},Dt C ops l=some i->i∈l/\∃o,ops[i]? = some o/\EL C o.op=false
 | [],_,h=>by cases h
 | j::r,i,h=>by
  simp only[Dt] at h
  split at h
  ·rename_i o ho
   cases he:EL C o.op with
   | true=>
    rw[he] at h;obtain⟨h1,h2⟩:=G3 h;exact⟨I1 _ h1,h2⟩
   | false=>
    rw[he] at h;simp only[cond_false,I0] at h;subst h;exact⟨I9 ..,o,ho,he⟩
  ·obtain⟨h1,h2⟩:=G3 h;exact⟨I1 _ h1,h2⟩
def BX(M:List Nat)(i:Nat)(S:St)(w:Wo):List (Nat×zdg)->Prop->Prop
 | [],A=>A
 | (j,f)::r,A=>bif zhj M j i then f S w/\BX M i S w r A else BX M i S w r A
theorem KQ{M:List Nat}{i:Nat}{S:St}{w:Wo}:∀{l:List (Nat×zdg)} {A:Prop},BX M i S w l A->A/\∀p∈l,zhj M p.1 i=true->p.2 S w
 | [],A,h=>⟨h,fun p hp=>by cases hp⟩
 | (j,f)::r,A,h=>by
  simp only[BX] at h
  cases hu:zhj M j i with
  | true=>
   rw[hu] at h;obtain⟨h1,h2⟩:=h;obtain⟨h3,h4⟩:=KQ h2;refine⟨h3,fun p hp hpu=>?_⟩;rcases Ii.1 hp with rfl | hp
   ·exact h1
   ·exact h4 p hp hpu
  | false=>
   rw[hu] at h;obtain⟨h3,h4⟩:=KQ (A:=A) h;refine⟨h3,fun p hp hpu=>?_⟩;rcases Ii.1 hp with rfl | hp
   ·rw[hu] at hpu; cases hpu
   ·exact h4 p hp hpu
def zmy(l:List Nat)(A:Nat->Prop):Prop:=
 match l with
 | []=>True
 | [i]=>A i
 | i::r=>A i/\zmy r A
theorem zaq:∀{l:List Nat} {A:Nat->Prop},zmy l A->∀i∈l,A i
 | [],_,_,_,hi=>by cases hi
 | [j],A,h,i,hi=>by simp only[Iz] at hi; subst hi; exact h
 | j::k::r,A,h,i,hi=>by
  rcases Ii.1 hi with rfl | hi
  ·exact h.1
  ·exact zaq h.2 i hi
def zpt(i:Nat)(f:Mq)(tK:List (Nat×zdg)):List (Nat×zdg):=
 match f with
 | some f=>(i,f)::tK
 | none=>tK
def Ds(C:Ug)(ops:Array Oper)(M:List Nat):Nat->Array Bool->List (Nat×zdg)->St->Wo->(St->Wo->Prop)->Prop
 | 0,Re,_,S,w,K=>match Region.ready .any ops Re with
  | []=>K S w
  | _=>False
 | n+1,Re,tK,S,w,K=>match Region.ready .any ops Re with
  | []=>K S w
  | rs=>match Dt C ops rs with
   | some i=>match ops[i]? with
    | some o=>bif Region.free .any ops Re i then zas C ops (fun j=>Re.getD j false) o S w fun f S' w'=>Ds C ops M n (Re.setIfInBounds i true) (zpt i f tK) S' w' K else False
    | none=>False
   | none=>zmy rs fun i=>match ops[i]? with
    | some o=>zas C ops (fun j=>Re.getD j false) o S w fun _ S' w'=>BX M i S' w' tK (Ds C ops M n (Re.setIfInBounds i true) tK S' w' K)
    | none=>False
theorem zm1{C:Ug}(E:zon C){ops:Array Oper}{D D':Nat->Prop}{dn:Nat->Bool}{i:Nat}{o:Oper}{S:St}{w:Wo}{a:Act}{K:Mq->St->Wo->Prop}(hu:FA ops=true)(ho:ops[i]? = some o)(hi:¬D i)(hD:∀j,D j->zss ops j)(hDD:∀j,D j->D' j)(hdn:∀j,dn j=true->zss ops j->D j)(hf:MI C.n S ops D a)(Wt:Lk S)(he:EL C o.op=false)(h:zas C ops dn o S w K) :
  ∃f v S',K f S' w/\MI C.n S' ops D' (a.put o.dst v)/\Lk S'/\MJ S S'/\S'.r=S.r/\S'.old=S.old/\(∀w wr,Zg S w wr↔Zg S' w wr)/\YS C.P (Zg S w) (UB ops o a) v/\
   (∀(sQ:St) (jB:Wo),MJ S sQ->znb f sQ jB->YS C.P (Zg sQ jB) (UB ops o a) v):=by
 unfold zas at h
 cases hb:(zzp dn o && !Df o) with
 | false=>rw[hb] at h; exact h.elim
 | true=>
  rw[hb] at h;simp only[cond_true] at h;simp only[A',IB] at hb
  have hg:∀j b,o.guard=some (j,b)->D j:=fun j b hgd=>by
   refine hdn j ?_ ⟨o,by rw[Array.mem_toList_iff]; exact Array.mem_of_getElem? ho,b,hgd⟩;have:=hb.1;unfold zzp at this;rw[hgd] at this;exact this
  split at h
  ·exact h.elim
  ·rename_i pc mZ;have AM4:=znq hf mZ hg;have nE:=Gw hf.fit mZ
   have tG:∀{sv:SV} (w wr:Wo),Zg S w wr↔Zg (S.aV o.dst sv) w wr:=fun {sv} w wr=>by
    cases o.dst
    ·exact Iff.rfl
    ·exact⟨fun h=>⟨h.ext,h.loc,h.len,h.mC,h.fresh⟩,fun h=>⟨h.ext,h.loc,h.len,h.mC,h.fresh⟩⟩
   cases hdd:B8 S ops pc o with
   | true=>
    rw[hdd] at h;simp only[cond_true] at h;have hp:=Dh hf.fit mZ hdd;have uA:¬Region.wanted o (yielded ops a.tmps)=true:=fun uA=>hp (nE.1 uA)
    obtain⟨h1,h2⟩:=Yu h;have hs:UB ops o a=none:=by unfold UB; rw[B' uA]
    refine⟨none,undef,_,h1,hf.put hu ho hi hD hDD AM4 h2 ⟨fun hp'=>Ir hp' hp,fun _=>rfl⟩,Wt.aV _ _,(MJ.refl S).aV _ _,by cases o.dst <;> rfl,by cases o.dst <;> rfl,tG,?_,fun sQ jB tP hfc=>?_⟩ <;> (rw[hs]; rfl)
   | false=>
   rw[hdd] at h;rw[he] at h;simp only[cond_false] at h
   by_cases hp:DQ ops a pc
   ·have uA:=nE.2 hp;obtain⟨e,fact,v,hK,B18,i',hq⟩:=zgf E.T E.pf hf.fit hp h;obtain⟨h1,h2⟩:=Yu hK;refine⟨fact,v,_,h1,hf.put hu ho hi hD hDD AM4 h2 ⟨fun _=>B18,fun hn=>Ir hp hn⟩,Wt.aV _ _,(MJ.refl S).aV _ _,by cases o.dst <;> rfl,by cases o.dst <;> rfl,tG,?_,fun sQ jB tP hfc=>?_⟩
    ·unfold UB; rw[C' uA]; exact fun wr hw=>hq S w a rfl (fun _ _ h=>h) i' wr hw
    ·unfold UB; rw[C' uA]; exact fun wr hw=>hq sQ jB a rfl tP.B hfc wr hw
   ·have uA:¬Region.wanted o (yielded ops a.tmps)=true:=fun uA=>hp (nE.1 uA)
    obtain⟨e,fact,hK⟩:=zki h;obtain⟨h1,h2⟩:=Yu hK;have hs:UB ops o a=none:=by unfold UB; rw[B' uA]
    refine⟨fact,undef,_,h1,hf.put hu ho hi hD hDD AM4 h2 ⟨fun hp'=>Ir hp' hp,fun _=>rfl⟩,Wt.aV _ _,(MJ.refl S).aV _ _,by cases o.dst <;> rfl,by cases o.dst <;> rfl,tG,?_,fun sQ jB tP hfc=>?_⟩ <;> (rw[hs]; rfl)
def ztt(C:Ug)(ops:Array Oper)(draw:Bool)(S:St)(w:Wo)(K:St->Wo->Prop):Prop:=
 bif FA ops then
  (bif draw then
   (bif Region.noSelect ops then Ds C ops (VQ ops.toList []) ops.size (Array.replicate ops.size false) [] { S with r:=S.r+1 } w fun S' w'=>K { S' with r:=S'.r+1 } w' else False)
  else ztu C ops ops.toList 0 { S with r:=S.r+1 } w fun S' w'=>K { S' with r:=S'.r+1 } w')
 else False
structure Tq (n:Nat) (S:St) (a:Act):Prop where
 size:a.tmps.size=n
 fits:∀i x,S.F.get i=some (.un x)->EV.den S x (a.tmps.getD i undef)
 old:∀i r pc x,S.F.get i=some (.gd r pc x)->r<S.r
theorem Tq.enter{n:Nat}{S:St}{a:Act}(h:Tq n S a)(ops:Array Oper)(D:Nat->Prop):MI n { S with r:=S.r+1 } ops D a:=
 ⟨⟨h.size,fun i s hs=>by
  cases s with
  | un x=>exact EV.eD (S:=S) (fun _ _ h=>h) (h.fits i x hs)
  | gd r pc x=>intro hr; have:=h.old i r pc x hs; simp only at hr; omega⟩,fun i pc x hx=>by have:=h.old i _ pc x hx; simp only at this; omega,fun i r pc x hx=>by have:=h.old i r pc x hx; show r<=S.r+1; omega⟩
theorem MI.leave{n:Nat}{S:St}{ops:Array Oper}{D:Nat->Prop}{a:Act}(h:MI n S ops D a):Tq n { S with r:=S.r+1 } a:=
 ⟨h.fit.size,fun i x hx=>EV.eD (S:=S) (fun _ _ h=>h) (h.fit.fits i (.un x) hx),fun i r pc x hx=>Nat.lt_succ_of_le (h.st i r pc x hx)⟩
theorem zq9{C:Ug}{ops:Array Oper}{D D':Nat->Prop}{dn:Nat->Bool}{i:Nat}{o:Oper}{S:St}{w:Wo}{a:Act}{K:Mq->St->Wo->Prop}(hu:FA ops=true)(ho:ops[i]? = some o)(hi:¬D i)(hD:∀j,D j->zss ops j)(hDD:∀j,D j->D' j)(hdn:∀j,dn j=true->zss ops j->D j)(hf:MI C.n S ops D a)(Wt:Lk S)(he:EL C o.op=true)(uA:¬Region.wanted o (yielded ops a.tmps)=true)(h:zas C ops dn o S w K) :
  ∃S',K none S' w/\MI C.n S' ops D' (a.put o.dst undef)/\Lk S'/\MJ S S'/\S'.r=S.r/\S'.old=S.old/\(∀w wr,Zg S w wr↔Zg S' w wr):=by
 unfold zas at h
 cases hb:(zzp dn o && !Df o) with
 | false=>rw[hb] at h; exact h.elim
 | true=>
  rw[hb] at h;simp only[cond_true] at h;simp only[A',IB] at hb
  have hg:∀j b,o.guard=some (j,b)->D j:=fun j b hgd=>by
   refine hdn j ?_ ⟨o,by rw[Array.mem_toList_iff]; exact Array.mem_of_getElem? ho,b,hgd⟩;have:=hb.1;unfold zzp at this;rw[hgd] at this;exact this
  split at h
  ·exact h.elim
  ·rename_i pc mZ;have AM4:=znq hf mZ hg;have nE:=Gw hf.fit mZ
   have tG:∀{sv:SV} (w wr:Wo),Zg S w wr↔Zg (S.aV o.dst sv) w wr:=fun {sv} w wr=>by
    cases o.dst
    ·exact Iff.rfl
    ·exact⟨fun h=>⟨h.ext,h.loc,h.len,h.mC,h.fresh⟩,fun h=>⟨h.ext,h.loc,h.len,h.mC,h.fresh⟩⟩
   cases hdd:B8 S ops pc o with
   | true=>
    rw[hdd] at h;simp only[cond_true] at h;have hp:=Dh hf.fit mZ hdd;obtain⟨h1,h2⟩:=Yu h;exact⟨_,h1,hf.put hu ho hi hD hDD AM4 h2 ⟨fun hp'=>Ir hp' hp,fun _=>rfl⟩,Wt.aV _ _,(MJ.refl S).aV _ _,by cases o.dst <;> rfl,by cases o.dst <;> rfl,tG⟩
   | false=>
   rw[hdd] at h;simp only[cond_false] at h;rw[he] at h;simp only[cond_true] at h
   split at h
   ·exact Ir (nE.2 (fun p hp=>by cases hp)) uA
   ·cases hpo:zr2 S ops pc with
    | false=>rw[hpo] at h; exact h.elim
    | true=>
     rw[hpo] at h;simp only[cond_true] at h;have hp:¬DQ ops a pc:=fun hp=>uA (nE.2 hp)
     obtain⟨h1,h2⟩:=Yu (h.2 (ziq hf.fit hpo hp));exact⟨_,h1,hf.put hu ho hi hD hDD AM4 h2 ⟨fun hp'=>Ir hp' hp,fun _=>rfl⟩,Wt.aV _ _,(MJ.refl S).aV _ _,by cases o.dst <;> rfl,by cases o.dst <;> rfl,tG⟩
theorem G2{C:Ug}{ops:Array Oper}:∀{l:List Nat},Dt C ops l=none->∀i∈l,∀o,ops[i]? = some o->EL C o.op=true
 | [],_,i,hi,_,_=>by cases hi
 | j::r,h,i,hi,o,ho=>by
  simp only[Dt] at h
  split at h
  ·rename_i o' ho'
   cases he:EL C o'.op with
   | false=>rw[he] at h; cases h
   | true=>
    rw[he] at h;rcases Ii.1 hi with rfl | hi
    ·rw[ho'] at ho; cases ho; exact he
    ·exact G2 h i hi o ho
  ·rename_i ho';rcases Ii.1 hi with rfl | hi
   ·rw[ho'] at ho; cases ho
   ·exact G2 h i hi o ho
theorem zif{ops:Array Oper}{i:Nat}{o:Oper}(ho:ops[i]? = some o):∀x,o.dst=some x->x∈G0 ops.toList:=fun x hx=>by
 have hm:o∈ops.toList:=by rw[Array.mem_toList_iff]; exact Array.mem_of_getElem? ho
 generalize ops.toList=q at hm
 induction q with
 | nil=>cases hm
 | cons y q ih=>
  simp only[G0];rcases Ii.1 hm with rfl | hm
  ·rw[hx]; exact I9 ..
  ·split
   ·exact I1 _ (ih hm)
   ·exact ih hm
def DL(ops:Array Oper)(Re:Array Bool)(j:Nat):Prop:=Re.getD j false=true/\zss ops j
def PQ(C:Ug)(ops:Array Oper)(K:St->Wo->Prop)(S0:St)(w0:Wo)(a0:Act)(ds:List Nat)(a:Act)(R:Wo->Prop):Prop:=
 ∃S' w',K S' w'/\Tq C.n { S' with r:=S'.r+1 } a/\Lk S'/\MJ S0 S'/\S'.r=S0.r/\D1 ds a0 a/\(C.pm=true->w'=w0/\S'.old=S0.old)/\R=Zg S' w'
theorem Pk{C:Ug}(E:zon C){ops:Array Oper}(hu:FA ops=true)(A78:Region.noSelect ops=true){K:St->Wo->Prop}{S0:St}{w0:Wo}{a0:Act}{ds:List Nat}(hds:∀x∈G0 ops.toList,x∈ds) :
  ∀(n:Nat) (Re:Array Bool) (tK:List (Nat×zdg)) (Pd:List (Nat×Option (Sem Next)×Va)) (S:St) (w:Wo) (a:Act),Ds C ops (VQ ops.toList []) n Re tK S w K->HZ ops Re->
   MI C.n S ops (DL ops Re) a->Lk S->MJ S0 S->S.r=S0.r->D1 ds a0 a->(C.pm=true->w=w0/\S.old=S0.old)->
   (∀p∈Pd,(∃f:zdg,(p.1,f)∈tK/\∀(sQ:St) (jB:Wo),MJ S sQ->f sQ jB->YS C.P (Zg sQ jB) p.2.1 p.2.2)\/(∀(sQ:St) (jB:Wo),MJ S sQ->YS C.P (Zg sQ jB) p.2.1 p.2.2))->
   GW C.P ops (zhj (VQ ops.toList [])) (PQ C ops K S0 w0 a0 ds) n Re Pd a (Zg S w)
 | 0,Re,tK,Pd,S,w,a,h,rJ,hf,Wt,tP,hr,hfa,iV,hpd=>by
  simp only[Ds] at h
  split at h
  ·rename_i hrd;exact⟨hrd,S,w,h,hf.leave,Wt,tP,hr,hfa,iV,rfl⟩
  ·exact h.elim
 | n+1,Re,tK,Pd,S,w,a,h,rJ,hf,Wt,tP,hr,hfa,iV,hpd=>by
  simp only[Ds] at h
  split at h
  ·rename_i hrd;exact⟨fun _=>⟨S,w,h,hf.leave,Wt,tP,hr,hfa,iV,rfl⟩,fun i hi=>by rw[hrd] at hi; cases hi⟩
  ·rename_i hrd
   split at h
   ·rename_i i hi;obtain⟨him,o',ho',he⟩:=G3 hi
    split at h
    ·rename_i o ho;rw[ho] at ho'; cases ho'
     cases rK:Region.free .any ops Re i with
     | false=>rw[rK] at h; exact h.elim
     | true=>
      rw[rK] at h;simp only[cond_true] at h;obtain⟨hun,_,_,nB⟩:=mem_ready.1 him
      have hni:¬DL ops Re i:=fun hd=>by
       have h1:=hd.1;rcases Nat.lt_or_ge i Re.size with h' | h'
       ·simp[h'] at h1 hun; rw[h1] at hun; cases hun
       ·simp[Array.getElem?_eq_none h'] at h1
      obtain⟨f,v,S',hK,hf',Ap0,pL,hr',Ba7,tG,hys,hyf⟩:=zm1 E (i:=i) (D':=DL ops (Re.setIfInBounds i true)) hu ho hni (fun j hj=>hj.2) (fun j hj=>⟨getD_set_true hj.1,hj.2⟩) (fun j h1 h2=>⟨h1,h2⟩) hf Wt he h
      have A65:HZ ops (Re.setIfInBounds i true):=fun k ok hk qZ e he hb=>by
       by_cases hik:i=k
       ·subst hik;rw[ho] at hk; cases hk;obtain⟨_,o2,ho2,CE8⟩:=mem_ready.1 him;rw[ho] at ho2; cases ho2;exact getD_set_true (CE8 e he hb)
       ·rw[getD_set_ne true hik] at qZ;exact getD_set_true (rJ k ok hk qZ e he hb)
      have heq:Zg S w=Zg S' w:=funext fun wr=>propext (tG w wr)
      refine zod (fun j o cs b hj=>Region.noSelect_spec A78 j o cs b hj) (fun Re i j h1 h2 h3 h4=>zl9 Re i j h1 h2 h3 h4) ho n Re Pd a (Zg S w) rJ (fun j oj hj hji Bn0 iW=>Region.free_spec ho rK j oj hj hji Bn0 iW) him hys ?_;rw[heq];refine Pk E hu A78 hds n _ (zpt i f tK) _ S' w _ hK A65 hf' Ap0 (tP.trans pL) (hr'.trans hr) (hfa.trans (D1.put a _ v ds fun x hx=>hds x (zif ho x hx))) (fun hp=>⟨(iV hp).1,Ba7.trans (iV hp).2⟩) fun p hp=>?_
      rcases Ii.1 hp with rfl | hp
      ·cases f with
       | none=>exact .inr fun sQ jB hs=>hyf sQ jB (pL.trans hs) trivial
       | some f=>exact .inl ⟨f,I9 ..,fun sQ jB hs hfc=>hyf sQ jB (pL.trans hs) hfc⟩
      ·rcases hpd p hp with ⟨f',hm,hs'⟩ | hs'
       ·refine .inl ⟨f',?_,fun sQ jB hs hfc=>hs' sQ jB (pL.trans hs) hfc⟩
        cases f with
        | none=>exact hm
        | some f=>exact I1 _ hm
       ·exact .inr fun sQ jB hs=>hs' sQ jB (pL.trans hs)
    ·exact h.elim
   ·rename_i AM3;refine⟨fun h0=>Ir h0 (by assumption),fun i hi o ho=>?_⟩;have h1:=zaq h i hi;rw[ho] at h1;simp only at h1;have he:=G2 AM3 i hi o ho;obtain⟨hun,o2,ho2,nB⟩:=mem_ready.1 hi;rw[ho] at ho2; cases ho2
    have hni:¬DL ops Re i:=fun hd=>by
     have h1:=hd.1;rcases Nat.lt_or_ge i Re.size with h' | h'
     ·simp[h'] at h1 hun; rw[h1] at hun; cases hun
     ·simp[Array.getElem?_eq_none h'] at h1
    have A65:HZ ops (Re.setIfInBounds i true):=fun k ok hk qZ e he hb=>by
     by_cases hik:i=k
     ·subst hik;rw[ho] at hk; cases hk;exact getD_set_true (nB e he hb)
     ·rw[getD_set_ne true hik] at qZ;exact getD_set_true (rJ k ok hk qZ e he hb)
    by_cases uA:Region.wanted o (yielded ops a.tmps)=true
    case neg=>
     obtain⟨S',hK,hf',Ap0,pL,hr',Ba7,tG⟩:=zq9 (i:=i) (D':=DL ops (Re.setIfInBounds i true)) hu ho hni (fun j hj=>hj.2) (fun j hj=>⟨getD_set_true hj.1,hj.2⟩) (fun j h1 h2=>⟨h1,h2⟩) hf Wt he uA h1;obtain⟨hev,_⟩:=KQ hK;have heq:Zg S w=Zg S' w:=funext fun wr=>propext (tG w wr)
     have hs0:UB ops o a=none:=by unfold UB; rw[B' uA]
     refine .inl ⟨undef,by rw[hs0]; rfl,?_⟩;rw[heq];refine Pk E hu A78 hds n _ tK _ S' w _ hev A65 hf' Ap0 (tP.trans pL) (hr'.trans hr) (hfa.trans (D1.put a _ _ ds fun x hx=>hds x (zif ho x hx))) (fun hp=>⟨(iV hp).1,Ba7.trans (iV hp).2⟩) fun p hp=>?_
     rcases Ii.1 hp with rfl | hp
     ·exact .inr fun sQ jB hs=>by rw[hs0]; rfl
     ·rcases hpd p hp with ⟨f',hm,hs'⟩ | hs'
      ·exact .inl ⟨f',hm,fun sQ jB hs hfc=>hs' sQ jB (pL.trans hs) hfc⟩
      ·exact .inr fun sQ jB hs=>hs' sQ jB (pL.trans hs)
    refine .inr ⟨uA,fun wr tH=>?_⟩
    have bG:=zat E (i:=i) (D':=DL ops (Re.setIfInBounds i true))
     (N:=fun a' w'=>(∃v,a'=a.put o.dst v)/\∃S' jB,BX (VQ ops.toList []) i S' jB tK (Ds C ops (VQ ops.toList []) n (Re.setIfInBounds i true) tK S' jB K)/\zyq C S w ops (DL ops (Re.setIfInBounds i true)) o a S' jB a' w') (Q:=fun _ _ _=>False)
     hu ho hni (fun j hj=>hj.2) (fun j hj=>⟨getD_set_true hj.1,hj.2⟩) (fun j h1 h2=>⟨h1,h2⟩) hf tH Wt (fun f S' w' a' W9 hK hL=>⟨hL.put,S',w',hK,hL⟩) h1
    rw[C' uA] at bG;refine Bi (fun v w' hN=>?_) (zmz (zwy h1) bG fun a' w' hN=>hN.1);obtain⟨_,S',jB,hpo,hL⟩:=hN;obtain⟨hev,B20⟩:=KQ hpo;refine⟨Zg S' jB,hL.rel,fun p hp hpu=>?_,Pk E hu A78 hds n _ tK Pd S' jB _ hev A65 hL.fit hL.wf (tP.trans hL.fr) (hL.r.trans hr) (hfa.trans (D1.put a o.dst v ds fun x hx=>hds x (zif ho x hx))) (fun hp=>⟨(hL.pm hp).1.trans (iV hp).1,(hL.pm hp).2.trans (iV hp).2⟩) fun p hp=>?_⟩
    ·rcases hpd p hp with ⟨f',hm,hs'⟩ | hs'
     ·exact hs' S' jB hL.fr (B20 _ hm hpu)
     ·exact hs' S' jB hL.fr
    ·rcases hpd p hp with ⟨f',hm,hs'⟩ | hs'
     ·exact .inl ⟨f',hm,fun sQ w3 hs hfc=>hs' sQ w3 (hL.fr.trans hs) hfc⟩
     ·exact .inr fun sQ w3 hs=>hs' sQ w3 (hL.fr.trans hs)
structure ZV where
 tD:List (Nat×CK)
 Wj:List (Nat×List CK)
 mJ:List Nat
 aB:List (TypeId×List CK):=[]
 ptr:List (Nat×Nat):=[]
def YR:Code->List Nat
 | .region _ ops _=>G0 ops.toList
 | .seq a b=>YR a++YR b
 | .cond _ a b=>YR a++YR b
 | .block _ b=>YR b
 | .loop b=>YR b
 | .scope b=>YR b
 | _=>[]
def EZ:Code->Option Nat
 | .region id _ _=>some id
 | .seq a b=>match EZ a with
  | some k=>some k
  | none=>EZ b
 | .cond _ a b=>match EZ a with
  | some k=>some k
  | none=>EZ b
 | .block _ b=>EZ b
 | .loop b=>EZ b
 | .scope b=>EZ b
 | _=>none
def zni:CK->Va->Bool
 | .int k,.int k' _=>decide (k=k')
 | .bool,.bool _=>true
 | .str,.string _=>true
 | .slice,.slice _ _ _=>true
 | .ptr,.pointer _=>true
 | .fn,.func _ _ _=>true
 | .iface,_=>true
 | .map,_=>true
 | .other,_=>true
 | _,_=>false
def z01:CK->(Va->Prop)->Prop
 | .int k,K=>∀n:Int,K (.int k n)
 | .bool,K=>∀b:Bool,K (.bool b)
 | .str,K=>∀s:ByteArray,K (.string s)
 | .slice,K=>∀(o:OA) (l c:Nat),K (.slice o l c)
 | .ptr,K=>∀o:OA,K (.pointer o)
 | .fn,K=>∀(f:Fn) (a c:Array Va),K (.func f a c)
 | _,K=>∀v:Va,K v
def Eo:List CK->(List Va->Prop)->Prop
 | [],K=>K []
 | k::r,K=>z01 k fun v=>Eo r fun l=>K (v::l)
theorem zs1{k:CK}{K:Va->Prop}(h:z01 k K){v:Va}(hv:zni k v=true):K v:=by
 cases k <;> cases v <;> simp only[zni] at hv <;> first
  | exact h _
  | exact h _ _ _
  | (cases hv; done)
  | (simp only[Ij] at hv; subst hv; exact h _)
def JT:List CK->List Va->Bool
 | [],[]=>true
 | k::r,v::l=>zni k v&&JT r l
 | _,_=>false
theorem TJ:∀{ks:List CK} {K:List Va->Prop} {vs:List Va},Eo ks K->JT ks vs=true->K vs
 | [],_,[],h,_=>h
 | k::r,K,v::l,h,hk=>by
  simp only[JT,A'] at hk;exact TJ (K:=fun l=>K (v::l)) (zs1 (K:=fun v=>Eo r fun l=>K (v::l)) h hk.1) hk.2
 | [],_,_::_,_,hk=>by simp[JT] at hk
 | _::_,_,[],_,hk=>by simp[JT] at hk
def GS(S:St):List (Nat×CK)->Option (List Va)
 | []=>some []
 | (i,_)::r=>match S.F.get i with
  | some (.un e)=>match zyr S e,GS S r with
   | some x,some l=>some (x::l)
   | _,_=>none
  | _=>none
def Kx(S:St):List (Nat×List CK)->Option (List Va)
 | []=>some []
 | (id,ks)::r=>match S.L[id]?,Kx S r with
  | some (_,cs),some l=>bif Nat.beq cs.length ks.length then some (cs++l) else none
  | _,_=>none
def ZV.ks(sp:ZV):List CK:=sp.tD.map (·.2)++sp.Wj.flatMap (·.2)
def za5(S:St)(sp:ZV)(K:List Va->Prop):Prop:=
 match GS S sp.tD,Kx S sp.Wj with
 | some xs,some ys=>bif JT sp.ks (xs++ys) then K (xs++ys) else False
 | _,_=>False
def zgl(F:PT SV):List Nat->PT SV
 | []=>.leaf
 | i::r=>match F.get i with
  | some (.un e)=>PT.set 12 (zgl F r) i (.un e)
  | _=>zgl F r
def zp6(F:PT SV):List (Nat×CK)->List Va->PT SV
 | (i,_)::r,v::vs=>PT.set 12 (zp6 F r vs) i (.un (.v v))
 | _,_=>F
def UW(L:List (TypeId×List Va)):List (Nat×List CK)->List Va->List (TypeId×List Va)
 | [],_=>L
 | (id,ks)::r,vs=>match L[id]? with
  | some (t,_)=>UW (L.set id (t,vs.take ks.length)) r (vs.drop ks.length)
  | none=>UW L r (vs.drop ks.length)
def HW(S:St)(sp:ZV):List Nat:=(List.range S.L.length).filter fun id => !K0 (sp.Wj.map (·.1)) id
def Yt(S:St)(sp:ZV)(vs:List Va):St:=
 { S with F:=zp6 (zgl S.F sp.mJ) sp.tD (vs.take sp.tD.length),L:=UW S.L sp.Wj (vs.drop sp.tD.length),lk:=HW S sp }
def zb4:List Nat->Bool
 | []=>true
 | x::r => !K0 r x&&zb4 r
def zsf(S:St)(sp:ZV)(ds:List Nat):Bool:=
 (sp.mJ.all fun i => !K0 ds i&&Nat.blt i 4000)&&(sp.tD.all fun p=>Nat.blt p.1 4000 && !K0 sp.mJ p.1)&&zb4 (sp.tD.map (·.1))&&zb4 (sp.Wj.map (·.1))&&(sp.Wj.all fun p=>match S.L[p.1]? with
  | some (_,cs)=>Nat.beq cs.length p.2.length && !K0 S.lk p.1
  | none=>false)
def ZV.nks(sp:ZV):List CK:=sp.aB.flatMap (·.2)
def zoq:Nat->(List Nat->Prop)->Prop
 | 0,K=>K []
 | n+1,K=>∀b:Nat,zoq n fun l=>K (b::l)
theorem B3:∀{n:Nat} {K:List Nat->Prop} {bs:List Nat},zoq n K->bs.length=n->K bs
 | 0,_,[],h,_=>h
 | n+1,K,b::l,h,hl=>B3 (K:=fun l=>K (b::l)) (h b) (by simpa using hl)
 | 0,_,_::_,_,hl=>by simp at hl
 | _+1,_,[],_,hl=>by simp at hl
def Gs:List (TypeId×List CK)->List Va->List (TypeId×List Va)
 | [],_=>[]
 | (t,ks)::r,vs=>(t,vs.take ks.length)::Gs r (vs.drop ks.length)
def zgs(S:St):Nat->List (TypeId×List CK)->Option (List Va)
 | _,[]=>some []
 | n,(t,ks)::r=>match S.L[n]?,zgs S (n+1) r with
  | some (t',cs),some l=>bif Nat.beq t' t&&Nat.beq cs.length ks.length then some (cs++l) else none
  | _,_=>none
def zgz(S:St)(n k:Nat)(l:List (Nat×Nat)):Bool:=l.all fun p=>Nat.blt p.1 4000&&Nat.blt p.2 k&&match S.F.get p.1 with
 | some (.un (.loc id 0))=>Nat.beq id (n+p.2)
 | _=>false
def zp5(F:PT SV)(n:Nat):List (Nat×Nat)->PT SV
 | []=>F
 | (i,j)::r=>PT.set 12 (zp5 F n r) i (.un (.loc (n+j) 0))
def HL(S:St)(sp:ZV)(vs zs:List Va)(bs:List Nat):St:=
 { F:=zp5 (Yt S sp vs).F S.L.length sp.ptr,L:=(Yt S sp vs).L++Gs sp.aB zs,B:=S.B++bs,old:=S.old,lk:=S.lk,r:=S.r }
def zpd(S S':St)(sp:ZV)(K:List Va->List Nat->Prop):Prop:=
 match zgs S' S.L.length sp.aB with
 | some zs=>bif JT sp.nks zs&&zgz S' S.L.length sp.aB.length sp.ptr then za5 S' sp fun vs=>K (vs++zs) ((S'.B.drop S.B.length).take sp.aB.length) else False
 | none=>False
def z1d(sps:List (Nat×ZV))(b:Code):Option ZV:=match sps with
 | []=>none
 | _=>match EZ b with
  | some k=>zms sps (k+1000000)
  | none=>none
def qW(S:St)(c:Operand)(x:Bool):St:=
 match c with
 | .tmp t=>bif Nat.blt t 4000 then { S with F:=PT.set 12 S.F t (.un (.kb x)) } else S
 | _=>S
def FH(C:Ug)(sps:List (Nat×ZV)):Code->St->Wo->(Exit->St->Wo->Prop)->Prop
 | .skip,S,w,K=>K .normal S w
 | .label _,S,w,K=>K .normal S w
 | .region _ ops d,S,w,K=>ztt C ops d S w (K .normal)
 | .seq a b,S,w,K=>match z1d sps b with
  | none=>FH C sps a S w fun e S' w'=>match e with
   | .normal=>FH C sps b S' w' K
   | e=>K e S' w'
  | some sp=>bif zsf S sp (YR a) then
    bif C.pm then
     ∃tT:List Va->List Nat->Prop,(FH C sps a { S with lk:=HW S sp } w fun e S' w'=>match e with
       | .normal=>zpd S S' sp tT
       | e=>K e { S' with lk:=S.lk } w')/\
      Eo sp.ks fun vs=>Eo sp.nks fun zs=>zoq sp.aB.length fun bs=>tT (vs++zs) bs->FH C sps b (HL S sp vs zs bs) w K
    else
     ∃tT:List Va->List Nat->Wo->Prop,(FH C sps a { S with lk:=HW S sp } w fun e S' w'=>match e with
       | .normal=>∀wr,Q0 S'.bs w' wr->(∀b∈S'.B,b<wr.heap.size)->zpd S S' sp fun vs bs=>tT vs bs wr
       | e=>K e { S' with lk:=S.lk } w')/\
      Eo sp.ks fun vs=>Eo sp.nks fun zs=>zoq sp.aB.length fun bs=>∀w1,(∀b∈S.B++bs,b<w1.heap.size)->tT (vs++zs) bs w1->FH C sps b (HL S sp vs zs bs).aX w1 K
   else False
 | .cond c a b,S,w,K=>match zdf S [] c with
  | some (.kb true)=>FH C sps a S w K
  | some (.kb false)=>FH C sps b S w K
  | some (.v (.bool x))=>(x=true->FH C sps a (qW S c true) w K)/\(x=false->FH C sps b (qW S c false) w K)
  | _=>False
 | .block id b,S,w,K=>FH C sps b S w fun e S' w'=>match e with
  | .exit id'=>bif Nat.beq id' id then K .normal S' w' else K e S' w'
  | e=>K e S' w'
 | .scope b,S,w,K=>FH C sps b S w fun e S' w'=>match e with
  | .goto _=>False
  | e=>K e S' w'
 | .exit id,S,w,K=>K (.exit id) S w
 | .ret,S,w,K=>K .ret S w
 | .loop b,S,w,K=>match EZ b with
  | none=>False
  | some key=>match zms sps key with
   | none=>False
   | some sp=>bif zsf S sp (YR b) then
     bif C.pm then
      ∃(Jc:List Va->Prop) (μ:List Va->Nat),za5 S sp Jc/\Eo sp.ks fun vs=>Jc vs->FH C sps b (Yt S sp vs) w fun e S' w'=>match e with
       | .normal=>za5 S' sp fun vs'=>Jc vs'/\μ vs'<μ vs
       | e=>K e { S' with lk:=S.lk } w'
     else
      ∃(Jc:List Va->Wo->Prop) (μ:List Va->Wo->Nat),(∀wr,Q0 S.bs w wr->(∀b∈S.B,b<wr.heap.size)->za5 S sp fun vs=>Jc vs wr)/\
       Eo sp.ks fun vs=>∀w1,(∀b∈S.B,b<w1.heap.size)->Jc vs w1->FH C sps b (Yt S.aX sp vs) w1 fun e S' w'=>match e with
       | .normal=>∀wr,Q0 S'.bs w' wr->(∀b∈S'.B,b<wr.heap.size)->za5 S' sp fun vs'=>Jc vs' wr/\μ vs' wr<μ vs w1
       | e=>K e { S' with lk:=S.lk } w'
    else False
 | _,_,_,_=>False
structure Pz (C:Ug) (S:St) (w:Wo) (ds:List Nat) (a:Act) (S':St) (w':Wo) (a':Act) (W9:Wo):Prop where
 fit:Tq C.n S' a'
 rel:Zg S' w' W9
 wf:Lk S'
 fr:MJ S S'
 fra:D1 ds a a'
 pm:C.pm=true->w'=w/\S'.old=S.old
theorem Pz.refl{C:Ug}{S:St}{w wr:Wo}{a:Act}(ds:List Nat)(h1:Tq C.n S a)(h2:Zg S w wr)(h3:Lk S):Pz C S w ds a S w a wr:=⟨h1,h2,h3,MJ.refl S,D1.refl _ _,fun _=>⟨rfl,rfl⟩⟩
theorem Pz.trans{C:Ug}{S S1 S2:St}{w w1 w2 I' J':Wo}{ds es fs:List Nat}{a a1 a2:Act}(h:Pz C S w ds a S1 w1 a1 I')(k:Pz C S1 w1 es a1 S2 w2 a2 J')(hd:∀x∈ds,x∈fs)(he:∀x∈es,x∈fs):Pz C S w fs a S2 w2 a2 J':=
 ⟨k.fit,k.rel,k.wf,h.fr.trans k.fr,(h.fra.mono hd).trans (k.fra.mono he),fun hp=>⟨(k.pm hp).1.trans (h.pm hp).1,(k.pm hp).2.trans (h.pm hp).2⟩⟩
theorem Pz.mono{C:Ug}{S S1:St}{w w1 I':Wo}{ds fs:List Nat}{a a1:Act}(h:Pz C S w ds a S1 w1 a1 I')(hd:∀x∈ds,x∈fs):Pz C S w fs a S1 w1 a1 I':=
 ⟨h.fit,h.rel,h.wf,h.fr,h.fra.mono hd,h.pm⟩
theorem zkh{C:Ug}(E:zon C){id:Nat}{ops:Array Oper}{d:Bool}{S:St}{w wr:Wo}{a:Act}{K:St->Wo->Prop}{Q:Exit->Act->Wo->Prop}(h:ztt C ops d S w K)(hf:Tq C.n S a)(hw:Zg S w wr)(Wt:Lk S)(hQ:∀S' w' a' W9,K S' w'->Pz C S w (G0 ops.toList) a S' w' a' W9->Q .normal a' W9):(Code.region id ops d).wpIn (Vf C.rd) 0 C.P Q a wr:=by
 unfold ztt at h
 cases hu:FA ops with
 | false=>rw[hu] at h; exact h.elim
 | true=>
  rw[hu] at h;simp only[cond_true] at h;have tG:∀{S1:St} {w1 I':Wo},Zg S1 w1 I'->Zg { S1 with r:=S1.r+1 } w1 I':=fun h=>⟨h.ext,h.loc,h.len,h.mC,h.fresh⟩
  have CL5:Lk { S with r:=S.r+1 }:=⟨Wt.old,Wt.lk⟩
  cases d with
  | false=>
   simp only[cond_false] at h;refine wpIn_region_list ?_
   refine Ng E hu (S0:={ S with r:=S.r+1 }) (w0:=w) (a0:=a) (ds:=G0 ops.toList) (fun x hx=>hx) (fun S' w' a' W9 hK hf' hw' Ap0 pL hr' B19 B31=>?_) ops.toList 0 _ w wr a (fun j=>by simp) Qs h
    (hf.enter ops _) (tG hw) CL5 (MJ.refl _) rfl (D1.refl _ _) (fun _=>⟨rfl,rfl⟩)
   exact hQ _ _ _ _ hK ⟨hf'.leave,tG hw',⟨Ap0.old,Ap0.lk⟩,⟨pL.B,pL.ty,pL.lk⟩,B19,B31⟩
  | true=>
   simp only[cond_true] at h
   cases hs:Region.noSelect ops with
   | false=>rw[hs] at h; exact h.elim
   | true=>
    rw[hs] at h;simp only[cond_true] at h
    have hp:=Pk E hu hs (S0:={ S with r:=S.r+1 }) (w0:=w) (a0:=a) (ds:=G0 ops.toList) (fun x hx=>hx) ops.size (Array.replicate ops.size false) [] [] _ w a h
     (fun j o _ hl=>by
      rcases Nat.lt_or_ge j ops.size with h' | h'
      ·simp[h'] at hl
      ·rename_i ho; rw[Array.getElem?_eq_none h'] at ho; cases ho)
     (hf.enter ops _) CL5 (MJ.refl _) rfl (D1.refl _ _) (fun _=>⟨rfl,rfl⟩) (fun p hp=>by cases hp)
    refine wpIn_region_any E.mixed (KW (fun a' R w' hPQ hR=>?_) ops.size _ [] a (Zg { S with r:=S.r+1 } w) { wr with drawn:=wr.drawn+1 } ?_ hp)
    ·obtain⟨S',w1,hK,hf',Ap0,pL,hr',B19,B31,rfl⟩:=hPQ;exact hQ _ _ _ _ hK ⟨hf',tG hR,⟨Ap0.old,Ap0.lk⟩,⟨pL.B,pL.ty,pL.lk⟩,B19,B31⟩
    ·exact⟨hw.ext.drawn _,hw.loc,hw.len,hw.mC,hw.fresh⟩
theorem BD{F:PT SV}:∀{l:List Nat} {i:Nat} {sv:SV},(∀x∈l,x<4000)->(zgl F l).get i=some sv->i∈l/\F.get i=some sv/\∃e,sv=.un e
 | [],i,sv,_,h=>by simp[zgl,PT.get] at h
 | k::r,i,sv,hl,h=>by
  have hr:∀x∈r,x<4000:=fun x hx=>hl x (I1 _ hx)
  simp only[zgl] at h
  split at h
  ·rename_i e he;rw[PT.jF _ 12 _ _ _ (by have h1:=hl k (I9 ..); show @LT.lt Nat _ (k+1) (2 ^ 12); omega)] at h
   by_cases hk:k=i
   ·subst hk;rw[C' rfl] at h;simp only[I0] at h;subst h;exact⟨I9 ..,he,e,rfl⟩
   ·rw[B' hk] at h;obtain⟨h1,h2,h3⟩:=BD hr h;exact⟨I1 _ h1,h2,h3⟩
  ·obtain⟨h1,h2,h3⟩:=BD hr h;exact⟨I1 _ h1,h2,h3⟩
theorem zg9{F:PT SV}:∀{tD:List (Nat×CK)} {vs:List Va} {i:Nat} {sv:SV},(∀p∈tD,p.1<4000)->(zp6 F tD vs).get i=some sv->
  (∃(j:Nat) (k:CK) (v:Va),tD[j]? = some (i,k)/\vs[j]? = some v/\sv=.un (.v v))\/F.get i=some sv
 | [],vs,i,sv,_,h=>.inr h
 | (a,k)::r,[],i,sv,_,h=>.inr h
 | (a,k)::r,v::vs,i,sv,hl,h=>by
  have hr:∀p∈r,p.1<4000:=fun x hx=>hl x (I1 _ hx)
  simp only[zp6] at h;rw[PT.jF _ 12 _ _ _ (by have h1:=hl (a,k) (I9 ..); show @LT.lt Nat _ (a+1) (2 ^ 12); simp only at h1; omega)] at h
  by_cases hk:a=i
  ·subst hk;rw[C' rfl] at h;simp only[I0] at h;exact .inl ⟨0,k,v,rfl,rfl,h.symm⟩
  ·rw[B' hk] at h;rcases zg9 hr h with ⟨j,k',v',h1,h2,h3⟩ | h1
   ·exact .inl ⟨j+1,k',v',by simpa using h1,by simpa using h2,h3⟩
   ·exact .inr h1
theorem Uy{S:St}:∀{tD:List (Nat×CK)} {xs:List Va},GS S tD=some xs->xs.length=tD.length/\∀(j i:Nat) (k:CK) (v:Va),tD[j]? = some (i,k)->xs[j]? = some v->∃e,S.F.get i=some (.un e)/\zyr S e=some v
 | [],xs,h=>by simp only[GS,I0] at h; subst h; exact⟨rfl,fun j i k v hj=>by simp at hj⟩
 | (a,k)::r,xs,h=>by
  simp only[GS] at h
  split at h
  ·rename_i e he
   split at h
   ·rename_i x l hx hl;simp only[I0] at h; subst h;obtain⟨h1,h2⟩:=Uy hl;refine⟨by simp[h1],fun j i k' v hj hv=>?_⟩
    cases j with
    | zero=>
     simp only[Ie,I0,Prod.mk.injEq] at hj hv;obtain⟨rfl,rfl⟩:=hj;subst hv;exact⟨e,he,hx⟩
    | succ j=>exact h2 j i k' v (by simpa using hj) (by simpa using hv)
   ·cases h
  ·cases h
theorem Np:∀{l:List Nat},zb4 l=true->l.Nodup
 | [],_=>List.nodup_nil
 | x::r,h=>by
  simp only[zb4,A',IB] at h;exact List.nodup_cons.2 ⟨Kk h.1,Np h.2⟩
theorem Ks{S':St}:∀{Wj:List (Nat×List CK)} {L:List (TypeId×List Va)} {ys:List Va},(Wj.map (·.1)).Nodup->Kx S' Wj=some ys->(∀(id:Nat) (t:TypeId) (cs:List Va),L[id]? = some (t,cs)->∃lA,S'.L[id]? = some (t,lA))->
  (UW L Wj ys).length=L.length/\
  (∀(id:Nat),id∉Wj.map (·.1)->(UW L Wj ys)[id]? = L[id]?)/\
  (∀(id:Nat) (t:TypeId) (cs:List Va),id∈Wj.map (·.1)->(UW L Wj ys)[id]? = some (t,cs)->S'.L[id]? = some (t,cs))
 | [],L,ys,_,_,_=>⟨rfl,fun _ _=>rfl,fun id t cs h=>by cases h⟩
 | (a,ks)::r,L,ys,hnd,hv,hty=>by
  have Bn4:=List.nodup_cons.1 (by simpa using hnd:(a::r.map (·.1)).Nodup);simp only[Kx] at hv
  split at hv
  ·rename_i t' lA l ha hl
   cases hb:Nat.beq lA.length ks.length with
   | false=>rw[hb] at hv; cases hv
   | true=>
    rw[hb] at hv;simp only[cond_true,I0] at hv;subst hv;have hlen:lA.length=ks.length:=Ib hb;have ht:(lA++l).take ks.length=lA:=by rw[<-hlen]; exact List.take_left
    have hdr:(lA++l).drop ks.length=l:=by rw[<-hlen]; exact List.drop_left
    simp only[UW]
    cases hLa:L[a]? with
    | none=>
     simp only[hdr];obtain⟨h1,h2,h3⟩:=Ks (L:=L) Bn4.2 hl hty;refine⟨h1,fun id aG=>h2 id (fun h=>aG (I1 _ h)),fun id t cs aG hc=>?_⟩;rcases Ii.1 aG with rfl | aG
     ·rw[h2 _ Bn4.1] at hc;rw[hLa] at hc; cases hc
     ·exact h3 id t cs aG hc
    | some q=>
     obtain⟨t0,c0⟩:=q;simp only[ht,hdr];have IS:a<L.length:=(I8.1 hLa).1;obtain⟨cs1,cX⟩:=hty a t0 c0 hLa;rw[ha] at cX;simp only[I0,Prod.mk.injEq] at cX;obtain⟨rfl,rfl⟩:=cX
     obtain⟨h1,h2,h3⟩:=Ks (L:=L.set a (t',lA)) Bn4.2 hl (fun id t cs hc=>by
      by_cases he:a=id
      ·subst he;rw[List.getElem?_set_self IS] at hc;cases hc;exact⟨_,ha⟩
      ·rw[List.getElem?_set_ne he] at hc;exact hty id t cs hc)
     refine⟨by rw[h1]; simp,fun id aG=>?_,fun id t cs aG hc=>?_⟩
     ·rw[h2 id (fun h=>aG (I1 _ h))];exact List.getElem?_set_ne (fun e=>aG (by subst e; exact I9 ..))
     ·rcases Ii.1 aG with rfl | aG
      ·rw[h2 _ Bn4.1] at hc;rw[List.getElem?_set_self IS] at hc;cases hc;exact ha
      ·exact h3 id t cs aG hc
  ·cases hv
structure E4 (S:St) (sp:ZV) (ds:List Nat):Prop where
 mJ:∀i∈sp.mJ,i∉ds/\i<4000
 tD:∀p∈sp.tD,p.1<4000
 nd:(sp.Wj.map (·.1)).Nodup
 Wj:∀id∈sp.Wj.map (·.1),id∉S.lk
theorem zc1{S:St}{sp:ZV}{ds:List Nat}(h:zsf S sp ds=true):E4 S sp ds:=by
 simp only[zsf,A',List.all_eq_true,IB] at h;obtain⟨⟨⟨⟨h1,h2⟩,_⟩,h4⟩,h5⟩:=h;refine⟨fun i hi=>⟨Kk (h1 i hi).1,Ik (h1 i hi).2⟩,fun p hp=>Ik (h2 p hp).1,Np h4,fun id aG=>?_⟩;obtain⟨p,hp,rfl⟩:=List.mem_map.1 aG;have:=h5 p hp
 split at this
 ·simp only[A',IB] at this;exact Kk this.2
 ·cases this
theorem Pw{S:St}{sp:ZV}{id:Nat}:id∈HW S sp↔id<S.L.length/\id∉sp.Wj.map (·.1):=by
 unfold HW;simp only[List.mem_filter,List.mem_range,IB];refine and_congr_right fun _=>?_
 constructor
 ·exact Kk
 ·intro h;rw[Bool.eq_false_iff];intro hb;simp only[K0,List.any_eq_true] at hb;obtain⟨y,hy,he⟩:=hb;exact h (Ib he▸hy)
theorem za2{n:Nat}{S S':St}{sp:ZV}{ds:List Nat}(hs:E4 S sp ds){a a':Act}(hf:Tq n S a)(hf':Tq n S' a')(hfa:D1 ds a a'){xs ys:List Va}(hx:GS S' sp.tD=some xs):Tq n (Yt S sp (xs++ys)) a':=by
 obtain⟨hxl,hxg⟩:=Uy hx;have htk:(xs++ys).take sp.tD.length=xs:=by rw[<-hxl]; exact List.take_left
 have AH6:∀i sv,(Yt S sp (xs++ys)).F.get i=some sv->(∃(j:Nat) (k:CK) (v:Va),sp.tD[j]? = some (i,k)/\xs[j]? = some v/\sv=.un (.v v))\/(i∈sp.mJ/\S.F.get i=some sv/\∃e,sv=.un e):=fun i sv h=>by
  simp only[Yt,htk] at h;rcases zg9 (fun p hp=>hs.tD p hp) h with h1 | h1
  ·exact .inl h1
  ·exact .inr (BD (fun x hx=>(hs.mJ x hx).2) h1)
 refine⟨hf'.size,fun i x h=>?_,fun i r pc x h=>?_⟩
 ·rcases AH6 i _ h with ⟨j,k,v,h1,h2,h3⟩ | ⟨h1,h2,_⟩
  ·obtain⟨e,he,hv⟩:=hxg j i k v h1 h2;have:=Cj hv (hf'.fits i e he);cases h3;exact this
  ·have h3:=hf.fits i x h2;rw[<-hfa.2.2 i (hs.mJ i h1).1] at h3;exact EV.eD (S:=S) (fun _ _ h=>h) h3
 ·rcases AH6 i _ h with ⟨j,k,v,h1,h2,h3⟩ | ⟨h1,h2,e,h3⟩ <;> cases h3
theorem zhf{l m:List Nat}{k:Nat}(hk:k<=l.length)(h:∀(i b:Nat),l[i]? = some b->m[i]? = some b):m.take k=l.take k:=by
 apply List.ext_getElem?
 intro i;rw[List.getElem?_take,List.getElem?_take]
 by_cases hi:i<k
 ·rw[C' hi,C' hi];have hl:i<l.length:=Nat.lt_of_lt_of_le hi hk;rw[h i l[i] (Il hl),Il hl]
 ·rw[B' hi,B' hi]
theorem za3{S S':St}{sp:ZV}{w w' wr W9:Wo}{ds:List Nat}(hs:E4 S sp ds)(hw:Zg S w wr)(hw':Zg S' w' W9)(hB:∀(id b:Nat),S.B[id]? = some b->S'.B[id]? = some b)(hty:∀(id:Nat) (t:TypeId) (cs:List Va),S.L[id]? = some (t,cs)->∃lA,S'.L[id]? = some (t,lA))(hlk:∀id,id<S.L.length->id∉sp.Wj.map (·.1)->S'.L[id]? = S.L[id]?){xs ys:List Va}(hxl:xs.length=sp.tD.length)(hy:Kx S' sp.Wj=some ys) :
  (Yt S sp (xs++ys)).L.length=S.L.length/\∀(id:Nat) (t:TypeId) (cs:List Va),(Yt S sp (xs++ys)).L[id]? = some (t,cs)->∃b,S.B[id]? = some b/\W9.heap[b]? = some (Obj.cells cs.toArray t (0,0)):=by
 have hdr:(xs++ys).drop sp.tD.length=ys:=by rw[<-hxl]; exact List.drop_left
 obtain⟨h1,h2,h3⟩:=Ks (L:=S.L) hs.nd hy hty;have hL:(Yt S sp (xs++ys)).L=UW S.L sp.Wj ys:=by simp only[Yt,hdr]
 rw[hL];refine⟨h1,fun id t cs hc=>?_⟩;have aG:id<S.L.length:=by rw[<-h1]; exact(I8.1 hc).1
 have hb:S.B[id]? = some (S.B[id]'(by rw[<-hw.len]; exact aG)):=Il _
 have hS':S'.L[id]? = some (t,cs):=by
  by_cases hm:id∈sp.Wj.map (·.1)
  ·exact h3 id t cs hm hc
  ·rw[h2 id hm] at hc;rw[hlk id aG hm]; exact hc
 obtain⟨b',fD,hh⟩:=hw'.loc id t cs hS';rw[hB _ _ hb] at fD;cases fD;exact⟨_,hb,hh⟩
theorem Kc{S:St}{sp:ZV}{K:List Va->Prop}(h:za5 S sp K):∃xs ys,GS S sp.tD=some xs/\Kx S sp.Wj=some ys/\JT sp.ks (xs++ys)=true/\K (xs++ys):=by
 unfold za5 at h
 split at h
 ·rename_i xs ys hx hy
  cases hk:JT sp.ks (xs++ys) with
  | false=>rw[hk] at h; exact h.elim
  | true=>rw[hk] at h; exact⟨xs,ys,hx,hy,hk,h⟩
 ·exact h.elim
theorem zkw{S S':St}{sp:ZV}{ds:List Nat}(hs:E4 S sp ds)(Wt:Lk S){vs:List Va}(hL:(Yt S sp vs).L.length=S.L.length)(hLt:∀(id:Nat) (t:TypeId) (cs:List Va),S.L[id]? = some (t,cs)->∃lA,(Yt S sp vs).L[id]? = some (t,lA))(hLk:∀id,id∉sp.Wj.map (·.1)->(Yt S sp vs).L[id]? = S.L[id]?)(tP:MJ (Yt S sp vs) S'):MJ S { S' with lk:=S.lk }/\(∀id,id<S.L.length->id∉sp.Wj.map (·.1)->S'.L[id]? = S.L[id]?):=by
 have h2:∀id,id<S.L.length->id∉sp.Wj.map (·.1)->S'.L[id]? = S.L[id]? := fun id aG hm=>by
  have:=tP.lk id (Pw.2 ⟨aG,hm⟩);rw[this.2,hLk id hm]
 refine⟨⟨fun id b hb=>tP.B id b hb,fun id t cs hc=>?_,fun id aG=>⟨aG,h2 id (Wt.lk id aG) (fun hm=>hs.Wj id hm aG)⟩⟩,h2⟩;obtain⟨cs1,h1⟩:=hLt id t cs hc;exact tP.ty id t cs1 h1
theorem zgt{S:St}:∀{l:List (TypeId×List CK)} {n:Nat} {zs:List Va},zgs S n l=some zs->(Gs l zs).length=l.length/\(∀j,j<l.length->n+j<S.L.length)/\∀j,(Gs l zs)[j]? = if j<l.length then S.L[n+j]? else none
 | [],n,zs,h=>⟨rfl,fun j hj=>Ir hj (Nat.not_lt_zero j),fun j=>by simp[Gs]⟩
 | (t,ks)::r,n,zs,h=>by
  simp only[zgs] at h
  split at h
  ·rename_i t' cs l hL hl
   cases hb:Nat.beq t' t&&Nat.beq cs.length ks.length with
   | false=>rw[hb] at h; cases h
   | true=>
    rw[hb] at h;simp only[cond_true,I0] at h;subst h;simp only[A'] at hb;have h1:=Ib hb.1;have h2:=Ib hb.2;subst h1;obtain⟨g1,g2,g3⟩:=zgt hl;have ht:(cs++l).take ks.length=cs:=by rw[<-h2]; exact List.take_left
    have hdr:(cs++l).drop ks.length=l:=by rw[<-h2]; exact List.drop_left
    simp only[Gs,ht,hdr];refine⟨by simp[g1],fun j hj=>?_,fun j=>?_⟩
    ·cases j with
     | zero=>exact(I8.1 hL).1
     | succ j=>have:=g2 j (by simpa using hj); omega
    ·cases j with
     | zero=>simp[hL]
     | succ j=>
      have:=g3 j;simp only[List.getElem?_cons_succ,List.length_cons];rw[this];have e:n+1+j=n+(j+1):=Qo;rw[e]
      by_cases hj:j<r.length
      ·rw[C' hj,C' Qo]
      ·rw[B' hj,B' Qo]
  ·cases h
theorem znw{S:St}{n k:Nat}{l:List (Nat×Nat)}(h:zgz S n k l=true):∀p∈l,p.1<4000/\p.2<k/\S.F.get p.1=some (.un (.loc (n+p.2) 0)):=fun p hp=>by
 simp only[zgz,List.all_eq_true,A'] at h;obtain⟨⟨h1,h2⟩,h3⟩:=h p hp;refine⟨Ik h1,Ik h2,?_⟩
 split at h3
 ·rename_i id aG;rw[aG,Ib h3]
 ·cases h3
theorem BZ{F:PT SV}{n:Nat}:∀{l:List (Nat×Nat)} {i:Nat} {sv:SV},(∀p∈l,p.1<4000)->(zp5 F n l).get i=some sv->(∃j,(i,j)∈l/\sv=.un (.loc (n+j) 0))\/F.get i=some sv
 | [],i,sv,_,h=>.inr h
 | (a,j)::r,i,sv,hl,h=>by
  have hr:∀p∈r,p.1<4000:=fun x hx=>hl x (I1 _ hx)
  simp only[zp5] at h;rw[PT.jF _ 12 _ _ _ (by have h1:=hl (a,j) (I9 ..); show @LT.lt Nat _ (a+1) (2 ^ 12); simp only at h1; omega)] at h
  by_cases hk:a=i
  ·subst hk;rw[C' rfl] at h;simp only[I0] at h;exact .inl ⟨j,I9 ..,h.symm⟩
  ·rw[B' hk] at h;rcases BZ hr h with ⟨q,h1,h2⟩ | h1
   ·exact .inl ⟨q,I1 _ h1,h2⟩
   ·exact .inr h1
theorem zgj{S S':St}{sp:ZV}{K:List Va->List Nat->Prop}(h:zpd S S' sp K):∃xs ys zs,GS S' sp.tD=some xs/\Kx S' sp.Wj=some ys/\zgs S' S.L.length sp.aB=some zs/\JT sp.ks (xs++ys)=true/\JT sp.nks zs=true/\zgz S' S.L.length sp.aB.length sp.ptr=true/\
  K (xs++ys++zs) ((S'.B.drop S.B.length).take sp.aB.length):=by
 unfold zpd at h
 split at h
 ·rename_i zs hz
  cases hb:JT sp.nks zs&&zgz S' S.L.length sp.aB.length sp.ptr with
  | false=>rw[hb] at h; exact h.elim
  | true=>
   rw[hb] at h;simp only[cond_true] at h;simp only[A'] at hb;obtain⟨xs,ys,h1,h2,h3,h4⟩:=Kc h;exact⟨xs,ys,zs,h1,h2,hz,h3,hb.1,hb.2,h4⟩
 ·exact h.elim
theorem zr6{l m:List Nat}(h:∀(i b:Nat),l[i]? = some b->m[i]? = some b):m.take l.length=l:=by
 have:=zhf (I7 l.length) h;rw[this,List.take_length]
theorem zpe{n:Nat}{S S':St}{sp:ZV}{w w' wr W9:Wo}{ds:List Nat}{a a':Act}(hs:E4 S sp ds)(hf:Tq n S a)(hw:Zg S w wr)(Wt:Lk S)(hf':Tq n S' a')(hw':Zg S' w' W9)(hfa:D1 ds a a')(tP:MJ { S with lk:=HW S sp } S'){xs ys zs:List Va}(hx:GS S' sp.tD=some xs)(hy:Kx S' sp.Wj=some ys)(hz:zgs S' S.L.length sp.aB=some zs)(hp:zgz S' S.L.length sp.aB.length sp.ptr=true) :
  ((S'.B.drop S.B.length).take sp.aB.length).length=sp.aB.length/\(∀b∈S.B++(S'.B.drop S.B.length).take sp.aB.length,b∈S'.B)/\
  Tq n (HL S sp (xs++ys) zs ((S'.B.drop S.B.length).take sp.aB.length)) a'/\Lk (HL S sp (xs++ys) zs ((S'.B.drop S.B.length).take sp.aB.length))/\MJ S (HL S sp (xs++ys) zs ((S'.B.drop S.B.length).take sp.aB.length))/\
  Zg (HL S sp (xs++ys) zs ((S'.B.drop S.B.length).take sp.aB.length)).aX W9 W9/\(w'=w->S'.old=S.old->Zg (HL S sp (xs++ys) zs ((S'.B.drop S.B.length).take sp.aB.length)) w W9):=by
 obtain⟨n1,n2,n3⟩:=zgt hz;have hB:∀(id b:Nat),S.B[id]? = some b->S'.B[id]? = some b:=tP.B;have CJ5:=zr6 hB;have CI0:=hw.len;have Ci2:=hw'.len
 have hk:S.B.length+sp.aB.length<=S'.B.length:=by
  rcases Nat.eq_zero_or_pos sp.aB.length with h0 | h0
  ·have:S.B.length<=S'.B.length:=by
    have:=congrArg List.length CJ5;rw[List.length_take] at this;omega
   omega
  ·have:=n2 (sp.aB.length-1) Qo;omega
 have hbl:((S'.B.drop S.B.length).take sp.aB.length).length=sp.aB.length:=by rw[List.length_take,List.length_drop]; omega
 have hGB:S.B++(S'.B.drop S.B.length).take sp.aB.length=S'.B.take (S.B.length+sp.aB.length):=by
  rw[List.take_add,CJ5]
 have Au1:∀(id b:Nat),id<S.B.length+sp.aB.length->S'.B[id]? = some b->(S.B++(S'.B.drop S.B.length).take sp.aB.length)[id]? = some b:=fun id b aG hb=>by
  rw[hGB,List.getElem?_take,C' aG]; exact hb
 have B02:∀(id b:Nat),(S.B++(S'.B.drop S.B.length).take sp.aB.length)[id]? = some b->S'.B[id]? = some b:=fun id b hb=>by
  rw[hGB,List.getElem?_take] at hb
  split at hb
  ·exact hb
  ·cases hb
 obtain⟨t1,t2⟩:=Ks (L:=S.L) hs.nd hy tP.ty;have hlk:∀id,id<S.L.length->id∉sp.Wj.map (·.1)->S'.L[id]? = S.L[id]? := fun id aG hm=>(tP.lk id (Pw.2 ⟨aG,hm⟩)).2
 have hxl:=(Uy hx).1;obtain⟨g1,g2⟩:=za3 hs hw hw' hB tP.ty hlk hxl hy;have hhf:=za2 (ys:=ys) hs hf hf' hfa hx;have hdr:(xs++ys).drop sp.tD.length=ys:=by rw[<-hxl]; exact List.drop_left
 have hL:(Yt S sp (xs++ys)).L=UW S.L sp.Wj ys:=by simp only[Yt,hdr]
 have hpp:=znw hp
 have B21:Tq n (HL S sp (xs++ys) zs ((S'.B.drop S.B.length).take sp.aB.length)) a':=by
  have CI6:∀(id b:Nat),(Yt S sp (xs++ys)).B[id]? = some b->(HL S sp (xs++ys) zs ((S'.B.drop S.B.length).take sp.aB.length)).B[id]? = some b:=fun id b hb=>by
   have fD:S.B[id]? = some b:=hb;exact Au1 id b (by have:=(I8.1 fD).1; omega) (hB id b fD)
  refine⟨hhf.size,fun i x h=>?_,fun i r pc x h=>?_⟩
  ·rcases BZ (fun p hp=>(hpp p hp).1) h with ⟨j,h1,h2⟩ | h1
   ·obtain⟨_,hj,hF⟩:=hpp (i,j) h1;have hd:=hf'.fits i _ hF;cases h2;obtain⟨b,hb,hv⟩:=hd;exact⟨b,Au1 _ _ (by simp only at hj; omega) hb,hv⟩
   ·exact EV.eD (S:=Yt S sp (xs++ys)) CI6 (hhf.fits i x h1)
  ·rcases BZ (fun p hp=>(hpp p hp).1) h with ⟨j,h1,h2⟩ | h1
   ·cases h2
   ·exact hhf.old i r pc x h1
 have pM:∀(id:Nat) (t:TypeId) (cs:List Va),((Yt S sp (xs++ys)).L++Gs sp.aB zs)[id]? = some (t,cs)->∃b,(S.B++(S'.B.drop S.B.length).take sp.aB.length)[id]? = some b/\W9.heap[b]? = some (Obj.cells cs.toArray t (0,0)):=fun id t cs hc=>by
  by_cases aG:id<S.L.length
  ·rw[Ip (by rw[g1]; exact aG)] at hc;obtain⟨b,h1,h2⟩:=g2 id t cs hc;exact⟨b,Au1 id b Qo (hB id b h1),h2⟩
  ·rw[List.getElem?_append_right (by rw[g1]; omega),g1,n3] at hc
   split at hc
   ·rename_i IS;have e:S.L.length+(id-S.L.length)=id:=Qo;rw[e] at hc;obtain⟨b,h1,h2⟩:=hw'.loc id t cs hc;exact⟨b,Au1 id b Qo h1,h2⟩
   ·cases hc
 have hlen:((Yt S sp (xs++ys)).L++Gs sp.aB zs).length=(S.B++(S'.B.drop S.B.length).take sp.aB.length).length:=by
  rw[Io,Io,g1,n1,hbl,CI0]
 have hnd:(S.B++(S'.B.drop S.B.length).take sp.aB.length).Nodup:=by
  rw[hGB]; exact hw'.mC.sublist (List.take_sublist _ _)
 refine⟨hbl,fun b hb=>by rw[hGB] at hb; exact List.mem_of_mem_take hb,B21,⟨?_,fun id aG=>?_⟩,⟨fun id b hb=>?_,fun id t cs hc=>?_,fun id aG=>⟨aG,?_⟩⟩,⟨?_,pM,hlen,hnd,fun id b aG hb=>?_⟩,fun e1 e2=>⟨?_,pM,hlen,hnd,fun id b aG hb=>?_⟩⟩
 ·show S.old<=(S.B++(S'.B.drop S.B.length).take sp.aB.length).length;have:=Wt.old;rw[Io]; omega
 ·show id<((Yt S sp (xs++ys)).L++Gs sp.aB zs).length;have:=Wt.lk id aG;rw[Io,g1]; omega
 ·exact Au1 id b (by have:=(I8.1 hb).1; omega) (hB id b hb)
 ·have aG:id<S.L.length:=(I8.1 hc).1;obtain⟨u1,u2⟩:(∀(id:Nat) (t:TypeId) (cs:List Va),id∈sp.Wj.map (·.1)->(UW S.L sp.Wj ys)[id]? = some (t,cs)->S'.L[id]? = some (t,cs))/\True:=⟨t2.2,trivial⟩;have IS:id<(UW S.L sp.Wj ys).length:=by rw[t1]; exact aG
  have hg:(UW S.L sp.Wj ys)[id]? = some (((UW S.L sp.Wj ys)[id]).1,((UW S.L sp.Wj ys)[id]).2):=Il IS;show ∃lA,((Yt S sp (xs++ys)).L++Gs sp.aB zs)[id]? = some (t,lA);rw[Ip (by rw[g1]; exact aG),hL]
  by_cases hm:id∈sp.Wj.map (·.1)
  ·have h4:=u1 id _ _ hm hg;obtain⟨lA,h5⟩:=tP.ty id t cs hc;rw[h5] at h4;simp only[I0,Prod.mk.injEq] at h4;exact⟨((UW S.L sp.Wj ys)[id]).2,by rw[hg,<-h4.1]⟩
  ·exact⟨cs,by rw[t2.1 id hm]; exact hc⟩
 ·have IS:=Wt.lk id aG;show ((Yt S sp (xs++ys)).L++Gs sp.aB zs)[id]? = S.L[id]?;rw[Ip (by rw[g1]; exact IS),hL,t2.1 id fun hm=>hs.Wj id hm aG]
 ·exact Q0.refl _ _
 ·have h1:id<(S.B++(S'.B.drop S.B.length).take sp.aB.length).length:=(I8.1 hb).1;have h2:(S.B++(S'.B.drop S.B.length).take sp.aB.length).length<=id:=aG;omega
 ·have hbs:(HL S sp (xs++ys) zs ((S'.B.drop S.B.length).take sp.aB.length)).bs=S'.bs:=by
   show (S.B++(S'.B.drop S.B.length).take sp.aB.length).take S.old=S'.B.take S'.old;rw[e2];have h1:=Wt.old;rw[hGB,List.take_take,Nat.min_eq_left Qo]
  rw[hbs,<-e1]; exact hw'.ext
 ·have h1:S'.B[id]? = some b:=B02 id b hb;have:=hw'.fresh id b (by rw[e2]; exact aG) h1;rw[e1] at this;exact this
structure zwh (C:Ug) (S:St) (w:Wo) (ds:List Nat) (a:Act) (sp:ZV) (vs:List Va) (w1:Wo) (a':Act) (W9:Wo):Prop where
 fit:Tq C.n (Yt S sp vs) a'
 rel:Zg (Yt S sp vs) w1 W9
 wf:Lk (Yt S sp vs)
 fra:D1 ds a a'
theorem za4{S S':St}{sp:ZV}(hnd:(sp.Wj.map (·.1)).Nodup)(hty:∀(id:Nat) (t:TypeId) (cs:List Va),S.L[id]? = some (t,cs)->∃lA,S'.L[id]? = some (t,lA)){xs ys:List Va}(hxl:xs.length=sp.tD.length)(hy:Kx S' sp.Wj=some ys) :
  (∀(id:Nat) (t:TypeId) (cs:List Va),S.L[id]? = some (t,cs)->∃lA,(Yt S sp (xs++ys)).L[id]? = some (t,lA))/\(∀id,id∉sp.Wj.map (·.1)->(Yt S sp (xs++ys)).L[id]? = S.L[id]?):=by
 have hdr:(xs++ys).drop sp.tD.length=ys:=by rw[<-hxl]; exact List.drop_left
 obtain⟨h1,h2,h3⟩:=Ks (L:=S.L) hnd hy hty;have hL:(Yt S sp (xs++ys)).L=UW S.L sp.Wj ys:=by simp only[Yt,hdr]
 rw[hL];refine⟨fun id t cs hc=>?_,h2⟩;have aG:id<(UW S.L sp.Wj ys).length:=by rw[h1]; exact(I8.1 hc).1
 by_cases hm:id∈sp.Wj.map (·.1)
 ·have hg:(UW S.L sp.Wj ys)[id]? = some (((UW S.L sp.Wj ys)[id]).1,((UW S.L sp.Wj ys)[id]).2):=Il aG;have h4:=h3 id _ _ hm hg;obtain⟨lA,h5⟩:=hty id t cs hc;rw[h5] at h4;simp only[I0,Prod.mk.injEq] at h4;exact⟨((UW S.L sp.Wj ys)[id]).2,by rw[hg,<-h4.1]⟩
 ·exact⟨cs,by rw[h2 id hm]; exact hc⟩
theorem F9{n:Nat}{S:St}{a:Act}(hf:Tq n S a){x:Operand}{e:EV}(hb:zdf S [] x=some e):EV.den S e (a.eval x):=by
 have:=ZW (ops:=#[]) (hf.enter #[] (fun _=>False)).fit (pc:=[]) (fun p hp=>by cases hp) (S:={ S with r:=S.r+1 }) (x:=x) (e:=e) (by
  cases x with
  | tmp t=>
   simp only[zdf] at hb ⊢
   split at hb
   ·exact hb
   ·rename_i r tJ y hg
    cases bT:Nat.beq r S.r&&zco tJ [] with
    | false=>rw[bT] at hb; cases hb
    | true=>
     simp only[A'] at bT;have:=Ib bT.1;have h2:=hf.old t r tJ y hg;omega
   ·cases hb
  | const v=>exact hb
  | global g=>exact hb
  | func f=>exact hb)
 exact EV.eD (S:={ S with r:=S.r+1 }) (fun _ _ h=>h) this
theorem zjo(S:St)(c:Operand)(x:Bool):(qW S c x).L=S.L/\(qW S c x).B=S.B/\(qW S c x).old=S.old/\(qW S c x).lk=S.lk/\(qW S c x).r=S.r:=by
 unfold qW;split
 ·cases Nat.blt _ 4000 <;> exact⟨rfl,rfl,rfl,rfl,rfl⟩
 ·exact⟨rfl,rfl,rfl,rfl,rfl⟩
theorem Tq.qW{n:Nat}{S:St}{a:Act}(hf:Tq n S a){c:Operand}{x:Bool}(hc:a.eval c=.bool x):Tq n (qW S c x) a:=by
 unfold YtnclplgaicdapaaGreatDoor.qW;split
 ·rename_i t
  cases hl:Nat.blt t 4000 with
  | false=>exact hf
  | true=>
   have IS:t<4000:=Ik hl;have hg:∀i,(PT.set 12 S.F t (.un (.kb x))).get i=if t=i then some (.un (.kb x)) else S.F.get i:=fun i=>PT.jF _ 12 S.F t i (by have h1 : @LT.lt Nat _ t 4000:=IS; show @LT.lt Nat _ (t+1) (2 ^ 12); omega)
   refine⟨hf.size,fun i y hy=>?_,fun i r pc y hy=>?_⟩
   ·have hy:(PT.set 12 S.F t (.un (.kb x))).get i=some (.un y):=hy;rw[hg i] at hy
    by_cases hti:t=i
    ·subst hti;rw[C' rfl] at hy;simp only[I0,SV.un.injEq] at hy;subst hy;exact hc
    ·rw[B' hti] at hy;exact EV.eD (S:=S) (fun _ _ h=>h) (hf.fits i y hy)
   ·have hy:(PT.set 12 S.F t (.un (.kb x))).get i=some (.gd r pc y):=hy;rw[hg i] at hy
    by_cases hti:t=i
    ·rw[C' hti] at hy; cases hy
    ·rw[B' hti] at hy; exact hf.old i r pc y hy
 ·exact hf
theorem zlx{S:St}{w wr:Wo}{c:Operand}{x:Bool}(h:Zg S w wr):Zg (qW S c x) w wr:=by
 obtain⟨h1,h2,h3,h4,h5⟩:=zjo S c x;refine⟨?_,?_,?_,?_,?_⟩
 ·unfold St.bs; rw[h2,h3]; exact h.ext
 ·rw[h1,h2]; exact h.loc
 ·rw[h1,h2]; exact h.len
 ·rw[h2]; exact h.mC
 ·rw[h2,h3]; exact h.fresh
theorem zp4{S:St}{c:Operand}{x:Bool}(h:Lk S):Lk (qW S c x):=by
 obtain⟨h1,h2,h3,h4,h5⟩:=zjo S c x;exact⟨by rw[h2,h3]; exact h.old,by rw[h1,h4]; exact h.lk⟩
theorem zlw{C:Ug}{S:St}{w:Wo}{ds:List Nat}{a:Act}{S':St}{w':Wo}{a':Act}{W9:Wo}{c:Operand}{x:Bool}(h:Pz C (qW S c x) w ds a S' w' a' W9):Pz C S w ds a S' w' a' W9:=by
 obtain⟨h1,h2,h3,h4,h5⟩:=zjo S c x;refine⟨h.fit,h.rel,h.wf,⟨?_,?_,?_⟩,h.fra,?_⟩
 ·have:=h.fr.B; rw[h2] at this; exact this
 ·have:=h.fr.ty; rw[h1] at this; exact this
 ·have:=h.fr.lk; rw[h1,h4] at this; exact this
 ·have:=h.pm; rw[h3] at this; exact this
theorem Yc{C:Ug}(E:zon C){sps:List (Nat×ZV)}:∀(c:Code) (S:St) (w wr:Wo) (a:Act) (K:Exit->St->Wo->Prop) (Q:Exit->Act->Wo->Prop),FH C sps c S w K->Tq C.n S a->Zg S w wr->Lk S->
  (∀e S' w' a' W9,K e S' w'->Pz C S w (YR c) a S' w' a' W9->Q e a' W9)->c.wpIn (Vf C.rd) 0 C.P Q a wr
 | .skip,S,w,wr,a,K,Q,h,hf,hw,Wt,hQ=>wpIn_skip (hQ _ _ _ _ _ h (Pz.refl _ hf hw Wt))
 | .label _,S,w,wr,a,K,Q,h,hf,hw,Wt,hQ=>wpIn_label (hQ _ _ _ _ _ h (Pz.refl _ hf hw Wt))
 | .exit _,S,w,wr,a,K,Q,h,hf,hw,Wt,hQ=>wpIn_exit (hQ _ _ _ _ _ h (Pz.refl _ hf hw Wt))
 | .ret,S,w,wr,a,K,Q,h,hf,hw,Wt,hQ=>wpIn_ret (hQ _ _ _ _ _ h (Pz.refl _ hf hw Wt))
 | .region _ ops d,S,w,wr,a,K,Q,h,hf,hw,Wt,hQ=>zkh E h hf hw Wt fun S' w' a' W9 hK he=>hQ _ _ _ _ _ hK he
 | .seq x y,S,w,wr,a,K,Q,h,hf,hw,Wt,hQ=>by
  have Ar0:∀z∈YR x,z∈YR (.seq x y):=fun z hz=>Ia _ hz
  have BP7:∀z∈YR y,z∈YR (.seq x y):=fun z hz=>Iw _ hz
  simp only[FH] at h
  split at h
  ·refine wpIn_seq (Yc E x S w wr a _ _ h hf hw Wt fun e S' w' a' W9 hK he=>?_)
   cases e with
   | normal=>exact Yc E y S' w' W9 a' _ _ hK he.fit he.rel he.wf fun e2 S2 w2 a2 J' eB aE=>hQ _ _ _ _ _ eB (he.trans aE Ar0 BP7)
   | _=>exact hQ _ _ _ _ _ hK (he.mono Ar0)
  ·rename_i sp _
   cases hok:zsf S sp (YR x) with
   | false=>rw[hok] at h; exact h.elim
   | true=>
    rw[hok] at h;simp only[cond_true] at h;have hs:=zc1 hok;have hf0:Tq C.n { S with lk:=HW S sp } a:=⟨hf.size,hf.fits,hf.old⟩;have hw0:Zg { S with lk:=HW S sp } w wr:=⟨hw.ext,hw.loc,hw.len,hw.mC,hw.fresh⟩;have CL4:Lk { S with lk:=HW S sp }:=⟨Wt.old,fun id aG=>(Pw.1 aG).1⟩
    have out:∀{S':St} {w':Wo} {a':Act} {W9:Wo},Pz C { S with lk:=HW S sp } w (YR x) a S' w' a' W9->Pz C S w (YR (.seq x y)) a { S' with lk:=S.lk } w' a' W9:=fun {S' w' a' W9} he=>by
     have f1:MJ S { S' with lk:=S.lk }:=⟨he.fr.B,he.fr.ty,fun id aG=>⟨aG,(he.fr.lk id (Pw.2 ⟨Wt.lk id aG,fun hm=>hs.Wj id hm aG⟩)).2⟩⟩
     exact⟨⟨he.fit.size,he.fit.fits,he.fit.old⟩,⟨he.rel.ext,he.rel.loc,he.rel.len,he.rel.mC,he.rel.fresh⟩,⟨he.wf.old,fun id aG=>by
      obtain⟨lA,hc'⟩:=f1.ty id (S.L[id]'(Wt.lk id aG)).1 (S.L[id]'(Wt.lk id aG)).2 (Il _);exact(I8.1 hc').1⟩,f1,he.fra.mono Ar0,he.pm⟩
    cases iV:C.pm with
    | true=>
     rw[iV] at h;simp only[cond_true] at h;obtain⟨tT,h1,h2⟩:=h;refine wpIn_seq (Yc E x _ w wr a _ _ h1 hf0 hw0 CL4 fun e S' w' a' W9 hK he=>?_)
     cases e with
     | normal=>
      obtain⟨xs,ys,zs,g1,g2,g3,g4,g5,g6,g7⟩:=zgj hK;obtain⟨j1,j2,j3,j4,j5,j6,j7⟩:=zpe hs hf hw Wt he.fit he.rel he.fra he.fr g1 g2 g3 g6;obtain⟨p1,p2⟩:=he.pm iV;refine Yc E y _ w W9 a' _ _ (B3 (TJ (TJ h2 g4) g5) j1 g7) j3 (j7 p1 p2) j4 fun e2 S2 w2 a2 J' eB aE=>hQ _ _ _ _ _ eB ⟨aE.fit,aE.rel,aE.wf,j5.trans aE.fr,(he.fra.mono Ar0).trans (aE.fra.mono BP7),fun hp=>aE.pm hp⟩
     | _=>exact hQ _ _ _ _ _ hK (out he)
    | false=>
     rw[iV] at h;simp only[cond_false] at h;obtain⟨tT,h1,h2⟩:=h;refine wpIn_seq (Yc E x _ w wr a _ _ h1 hf0 hw0 CL4 fun e S' w' a' W9 hK he=>?_)
     cases e with
     | normal=>
      obtain⟨xs,ys,zs,g1,g2,g3,g4,g5,g6,g7⟩:=zgj (hK W9 he.rel.ext he.rel.lt);obtain⟨j1,j2,j3,j4,j5,j6,j7⟩:=zpe hs hf hw Wt he.fit he.rel he.fra he.fr g1 g2 g3 g6;refine Yc E y _ W9 W9 a' _ _ (B3 (TJ (TJ h2 g4) g5) j1 W9 (fun b hb=>he.rel.lt b (j2 b hb)) g7) ⟨j3.size,j3.fits,j3.old⟩ j6 ⟨I7 _,j4.lk⟩ fun e2 S2 w2 a2 J' eB aE=>hQ _ _ _ _ _ eB ⟨aE.fit,aE.rel,aE.wf,j5.trans ⟨aE.fr.B,aE.fr.ty,aE.fr.lk⟩,(he.fra.mono Ar0).trans (aE.fra.mono BP7),fun hp=>by rw[iV] at hp; cases hp⟩
     | _=>exact hQ _ _ _ _ _ hK (out he)
 | .cond c x y,S,w,wr,a,K,Q,h,hf,hw,Wt,hQ=>by
  simp only[FH] at h
  split at h
  ·rename_i hb;have hc:a.eval c=.bool true:=F9 hf hb;refine wpIn_cond_split hc (fun hb=>?_) (fun hb=>by cases hb);exact Yc E x S w wr a _ _ h hf hw Wt fun e S' w' a' W9 hK he=>hQ _ _ _ _ _ hK (he.mono fun z hz=>Ia _ hz)
  ·rename_i hb;have hc:a.eval c=.bool false:=F9 hf hb;refine wpIn_cond_split hc (fun hb=>by cases hb) (fun hb=>?_);exact Yc E y S w wr a _ _ h hf hw Wt fun e S' w' a' W9 hK he=>hQ _ _ _ _ _ hK (he.mono fun z hz=>Iw _ hz)
  ·rename_i b hb;have hc:a.eval c=.bool b:=F9 hf hb;refine wpIn_cond_split hc (fun hb=>?_) (fun hb=>?_)
   ·subst hb;exact Yc E x (qW S c true) w wr a _ _ (h.1 rfl) (hf.qW hc) (zlx hw) (zp4 Wt) fun e S' w' a' W9 hK he=>hQ _ _ _ _ _ hK ((zlw he).mono fun z hz=>Ia _ hz)
   ·subst hb;exact Yc E y (qW S c false) w wr a _ _ (h.2 rfl) (hf.qW hc) (zlx hw) (zp4 Wt) fun e S' w' a' W9 hK he=>hQ _ _ _ _ _ hK ((zlw he).mono fun z hz=>Iw _ hz)
  ·exact h.elim
 | .scope b,S,w,wr,a,K,Q,h,hf,hw,Wt,hQ=>by
  refine HF (Yc E b S w wr a _ _ h hf hw Wt fun e S' w' a' W9 hK he=>?_)
  cases e with
  | goto l=>exact hK.elim
  | _=>exact hQ _ _ _ _ _ hK he
 | .block id b,S,w,wr,a,K,Q,h,hf,hw,Wt,hQ=>by
  refine wpIn_block (Yc E b S w wr a _ _ h hf hw Wt fun e S' w' a' W9 hK he=>?_)
  cases e with
  | exit id'=>
   simp only[Exit.inBlock]
   dsimp only at hK
   cases hb:Nat.beq id' id with
   | true=>
    rw[hb] at hK;rw[C' (Ib hb)];exact hQ _ _ _ _ _ hK he
   | false=>
    rw[hb] at hK;rw[B' (fun e=>by rw[e,Nat.beq_refl] at hb; cases hb)];exact hQ _ _ _ _ _ hK he
  | _=>exact hQ _ _ _ _ _ hK he
 | .loop b,S,w,wr,a,K,Q,h,hf,hw,Wt,hQ=>by
  simp only[FH] at h
  split at h
  ·exact h.elim
  ·rename_i key DA5
   split at h
   ·exact h.elim
   ·rename_i sp hsp
    cases hok:zsf S sp (YR b) with
    | false=>rw[hok] at h; exact h.elim
    | true=>
     rw[hok] at h;simp only[cond_true] at h;have hs:=zc1 hok
     cases iV:C.pm with
     | true=>
      rw[iV] at h;simp only[cond_true] at h;obtain⟨Jc,μ,Ba2,nB⟩:=h
      have mk:∀(S':St) (a':Act) (W9:Wo) (xs ys:List Va),Tq C.n S' a'->Zg S' w W9->S'.old=S.old->D1 (YR b) a a'->(∀(id b:Nat),S.B[id]? = some b->S'.B[id]? = some b)->
        (∀(id:Nat) (t:TypeId) (cs:List Va),S.L[id]? = some (t,cs)->∃lA,S'.L[id]? = some (t,lA))->(∀id,id<S.L.length->id∉sp.Wj.map (·.1)->S'.L[id]? = S.L[id]?)->
        GS S' sp.tD=some xs->Kx S' sp.Wj=some ys->zwh C S w (YR b) a sp (xs++ys) w a' W9:=by
       intro S' a' W9 xs ys h1 h2 h3 h4 h5 h6 h7 h8 h9;obtain⟨g1,g2⟩:=za3 hs hw h2 h5 h6 h7 (Uy h8).1 h9;refine⟨za2 hs hf h1 h4 h8,⟨?_,g2,by rw[g1]; exact hw.len,hw.mC,hw.fresh⟩,⟨Wt.old,fun id aG=>by rw[g1]; exact(Pw.1 aG).1⟩,h4⟩;have hbs:S'.bs=S.bs:=by unfold St.bs; rw[h3]; exact zhf Wt.old h5
       have:=h2.ext;rw[hbs] at this;exact this
      obtain⟨xs,ys,hx,hy,hk,hI⟩:=Kc Ba2
      refine FB (fun n a' W9=>∃xs ys S',μ (xs++ys)=n/\Jc (xs++ys)/\JT sp.ks (xs++ys)=true/\xs.length=sp.tD.length/\Kx S' sp.Wj=some ys/\(∀(id:Nat) (t:TypeId) (cs:List Va),S.L[id]? = some (t,cs)->∃lA,S'.L[id]? = some (t,lA))/\zwh C S w (YR b) a sp (xs++ys) w a' W9)
       (m:=μ (xs++ys)) ⟨xs,ys,S,rfl,hI,hk,(Uy hx).1,hy,fun _ _ cs h=>⟨cs,h⟩,mk S a wr xs ys hf hw rfl (D1.refl _ _) (fun _ _ h=>h) (fun _ _ cs h=>⟨cs,h⟩) (fun _ _ _=>rfl) hx hy⟩ ?_
      rintro n a' W9 ⟨xs,ys,S',rfl,hI,hk,hxl,hyl,hty,hH⟩;obtain⟨t1,t2⟩:=za4 hs.nd hty hxl hyl
      have hlen:(Yt S sp (xs++ys)).L.length=S.L.length:=by
       have:=hH.rel.len;rw[this]; exact hw.len.symm
      refine Yc E b _ w W9 a' _ _ (TJ nB hk hI) hH.fit hH.rel hH.wf fun e S2 w2 a2 J' hK he=>?_
      obtain⟨f1,f2⟩:=zkw hs Wt hlen t1 t2 he.fr;obtain⟨p1,p2⟩:=he.pm iV;subst p1
      cases e with
      | normal=>
       obtain⟨xs',ys',dF,hy',hk',hI',IS⟩:=Kc hK;refine⟨μ (xs'++ys'),IS,xs',ys',S2,rfl,hI',hk',(Uy dF).1,hy',f1.ty,?_⟩;exact mk S2 a2 J' xs' ys' he.fit he.rel p2 (hH.fra.trans he.fra) f1.B f1.ty f2 dF hy'
      | _=>
       exact hQ _ _ _ _ _ hK ⟨⟨he.fit.size,he.fit.fits,he.fit.old⟩,⟨he.rel.ext,he.rel.loc,he.rel.len,he.rel.mC,he.rel.fresh⟩,
        ⟨he.wf.old,fun id aG=>by
         obtain⟨lA,hc'⟩:=f1.ty id (S.L[id]'(Wt.lk id aG)).1 (S.L[id]'(Wt.lk id aG)).2 (Il _);exact(I8.1 hc').1⟩,f1,hH.fra.trans he.fra,fun _=>⟨rfl,p2⟩⟩
     | false=>
      rw[iV] at h;simp only[cond_false] at h;obtain⟨Jc,μ,Ba2,nB⟩:=h
      have mk:∀(S':St) (w':Wo) (a':Act) (W9:Wo) (xs ys:List Va),Tq C.n S' a'->Zg S' w' W9->D1 (YR b) a a'->(∀(id b:Nat),S.B[id]? = some b->S'.B[id]? = some b)->
        (∀(id:Nat) (t:TypeId) (cs:List Va),S.L[id]? = some (t,cs)->∃lA,S'.L[id]? = some (t,lA))->(∀id,id<S.L.length->id∉sp.Wj.map (·.1)->S'.L[id]? = S.L[id]?)->
        GS S' sp.tD=some xs->Kx S' sp.Wj=some ys->zwh C S.aX W9 (YR b) a sp (xs++ys) W9 a' W9:=by
       intro S' w' a' W9 xs ys h1 h2 h4 h5 h6 h7 h8 h9;obtain⟨g1,g2⟩:=za3 hs hw h2 h5 h6 h7 (Uy h8).1 h9;have hf1:=za2 (ys:=ys) hs hf h1 h4 h8;refine⟨⟨hf1.size,hf1.fits,hf1.old⟩,⟨Q0.refl _ _,g2,by show (Yt S sp (xs++ys)).L.length=_; rw[g1]; exact hw.len,hw.mC,fun id b aG hb=>?_⟩,⟨I7 _,fun id aG=>by show id<(Yt S sp (xs++ys)).L.length; rw[g1]; exact(Pw.1 aG).1⟩,h4⟩;have:id<S.B.length:=(I8.1 hb).1;have C99:S.B.length<=id:=aG;omega
      obtain⟨xs,ys,hx,hy,hk,hI⟩:=Kc (Ba2 wr hw.ext hw.lt)
      refine FB (fun n a' W9=>∃xs ys S',μ (xs++ys) W9=n/\Jc (xs++ys) W9/\JT sp.ks (xs++ys)=true/\xs.length=sp.tD.length/\Kx S' sp.Wj=some ys/\(∀(id:Nat) (t:TypeId) (cs:List Va),S.L[id]? = some (t,cs)->∃lA,S'.L[id]? = some (t,lA))/\zwh C S.aX W9 (YR b) a sp (xs++ys) W9 a' W9)
       (m:=μ (xs++ys) wr) ⟨xs,ys,S,rfl,hI,hk,(Uy hx).1,hy,fun _ _ cs h=>⟨cs,h⟩,mk S w a wr xs ys hf hw (D1.refl _ _) (fun _ _ h=>h) (fun _ _ cs h=>⟨cs,h⟩) (fun _ _ _=>rfl) hx hy⟩ ?_
      rintro n a' W9 ⟨xs,ys,S',rfl,hI,hk,hxl,hyl,hty,hH⟩;obtain⟨t1,t2⟩:=za4 hs.nd hty hxl hyl
      have hlen:(Yt S sp (xs++ys)).L.length=S.L.length:=by
       have:(Yt S.aX sp (xs++ys)).L.length=S.B.length:=hH.rel.len;rw[<-hw.len] at this;exact this
      refine Yc E b _ W9 W9 a' _ _ (TJ nB hk W9 hH.rel.lt hI) hH.fit hH.rel hH.wf fun e S2 w2 a2 J' hK he=>?_
      have pL:MJ (Yt S sp (xs++ys)) S2:=⟨he.fr.B,he.fr.ty,he.fr.lk⟩;obtain⟨f1,f2⟩:=zkw hs Wt hlen t1 t2 pL
      cases e with
      | normal=>
       obtain⟨xs',ys',dF,hy',hk',hI',IS⟩:=Kc (hK J' he.rel.ext he.rel.lt);refine⟨μ (xs'++ys') J',IS,xs',ys',S2,rfl,hI',hk',(Uy dF).1,hy',f1.ty,?_⟩;exact mk S2 w2 a2 J' xs' ys' he.fit he.rel (hH.fra.trans he.fra) f1.B f1.ty f2 dF hy'
      | _=>
       exact hQ _ _ _ _ _ hK ⟨⟨he.fit.size,he.fit.fits,he.fit.old⟩,⟨he.rel.ext,he.rel.loc,he.rel.len,he.rel.mC,he.rel.fresh⟩,
        ⟨he.wf.old,fun id aG=>by
         obtain⟨lA,hc'⟩:=f1.ty id (S.L[id]'(Wt.lk id aG)).1 (S.L[id]'(Wt.lk id aG)).2 (Il _);exact(I8.1 hc').1⟩,f1,hH.fra.trans he.fra,fun hp=>by rw[iV] at hp; cases hp⟩
 | .rangeFunc _ _ _ _,_,_,_,_,_,_,h,_,_,_,_=>h.elim
 | .goto _,_,_,_,_,_,_,h,_,_,_,_=>h.elim
 | .refuse _,_,_,_,_,_,_,h,_,_,_,_=>h.elim
def zky:List Va->Nat->PT SV
 | [],_=>.leaf
 | v::r,i=>PT.set 12 (zky r (i+1)) i (.un (.v v))
theorem zgh:∀{l:List Va} {k i:Nat} {sv:SV},k+l.length<=4000->(zky l k).get i=some sv->∃v,l[i-k]? = some v/\k<=i/\sv=.un (.v v)
 | [],k,i,sv,_,h=>by simp[zky,PT.get] at h
 | v::r,k,i,sv,hl,h=>by
  simp only[zky] at h;simp only[List.length_cons] at hl;rw[PT.jF _ 12 _ _ _ (by show @LT.lt Nat _ (k+1) (2 ^ 12); have e:(2:Nat) ^ 12=4096:=rfl; omega)] at h
  by_cases hk:k=i
  ·subst hk;rw[C' rfl] at h;simp only[I0] at h;exact⟨v,Qs,I7 _,h.symm⟩
  ·rw[B' hk] at h;obtain⟨u,h1,h2,h3⟩:=zgh Qo h;refine⟨u,?_,Qo,h3⟩;have:i-k=(i-(k+1))+1:=Qo;rw[this]; simpa using h1
def Dx(args:List Va):St:={ F:=zky args 0,L:=[],B:=[],old:=0,lk:=[],r:=1 }
def zlq(C:Ug)(S:St)(w:Wo):List ResultVar->(List Va->Prop)->Prop
 | [],K=>K []
 | .tmp t::r,K=>match Gx S [] (.tmp t) with
  | some v=>zlq C S w r fun l=>K (v::l)
  | none=>False
 | .cell p t::r,K=>match C.T t,zdf S [] (.tmp p) with
  | some ty,some (.loc id 0)=>match S.L[id]? with
   | some (_,cs)=>bif Nat.beq cs.length ty.ks.length then
     (match ty.val cs with
      | some v=>zlq C S w r fun l=>K (v::l)
      | none=>False)
    else False
   | none=>False
  | some ty,some (.el o n)=>zkj ty.ks fun vs=>match ty.val vs with
   | some v=>Q1 S.bs w o n vs/\zlq C S w r fun l=>K (v::l)
   | none=>False
  | _,_=>False
def zof:List Va->Va
 | [v]=>v
 | l=>.tuple l.toArray
def zts(C:Ug)(sps:List (Nat×ZV))(args:List Va)(body:Code)(res:List ResultVar)(w:Wo)(R:Va->Wo->Prop):Prop:=
 FH C sps body (Dx args) w fun e S w'=>match e with
  | .normal | .ret=>zlq C S w' res fun l=>bif C.pm then R (zof l) w' else ∀wr,Q0 S.bs w' wr->R (zof l) wr
  | _=>False
theorem zvc{C:Ug}(E:zon C){S:St}{w wr:Wo}{a:Act}(hf:Tq C.n S a)(hw:Zg S w wr):∀{res:List ResultVar} {K:List Va->Prop},zlq C S w res K->
  ∃l,K l/\l.length=res.length/\(res.mapM (m:=Sem) fun
   | .tmp t=>pure (a.tmps.getD t undef)
   | .cell p t=>do loadVar t (<-asAddr (a.tmps.getD p undef))).run C.P wr=.ok l wr:=by
 have hd:∀{x:Operand} {e:EV},zdf S [] x=some e->EV.den S e (a.eval x):=fun {x e} hb=>by
  have:=ZW (ops:=#[]) (hf.enter #[] (fun _=>False)).fit (pc:=[]) (fun p hp=>by cases hp) (S:={ S with r:=S.r+1 }) (x:=x) (e:=e) (by
   cases x with
   | tmp t=>
    simp only[zdf] at hb ⊢
    split at hb
    ·exact hb
    ·rename_i r tJ y hg
     cases bT:Nat.beq r S.r&&zco tJ [] with
     | false=>rw[bT] at hb; cases hb
     | true=>
      simp only[A'] at bT;have:=Ib bT.1;have h2:=hf.old t r tJ y hg;omega
    ·cases hb
   | const v=>exact hb
   | global g=>exact hb
   | func f=>exact hb)
  exact EV.eD (S:={ S with r:=S.r+1 }) (fun _ _ h=>h) this
 intro res
 induction res with
 | nil=>intro K h; exact⟨[],h,rfl,Qs⟩
 | cons x r ih=>
  intro K h
  cases x with
  | tmp t=>
   simp only[zlq] at h
   split at h
   ·rename_i v hv;obtain⟨l,h1,h2,h3⟩:=ih h
    have hv':a.tmps.getD t undef=v:=by
     unfold Gx at hv
     split at hv
     ·rename_i e he;exact Cj hv (hd he)
     ·cases hv
    refine⟨v::l,h1,by simp[h2],?_⟩;simp only[List.mapM_cons,Sem.run_bind,Sem.run_pure,Result.andThen_ok,h3,hv']
   ·exact h.elim
  | cell p t=>
   simp only[zlq] at h
   split at h
   ·rename_i ty id ht he;obtain⟨b,hb,hx⟩:=hd he;simp only[Act.eval] at hx
    split at h
    ·rename_i t' cs hl
     cases hc:Nat.beq cs.length ty.ks.length with
     | false=>rw[hc] at h; exact h.elim
     | true=>
      rw[hc] at h;simp only[cond_true] at h
      split at h
      ·rename_i v hv;obtain⟨l,h1,h2,h3⟩:=ih h
       have hl2:=Vz E.T ht hv (Ib hc) (a:=⟨b,0,none⟩) (w:=wr) (fun j y hy=>by
        rw[Addr.add_lit,Gq hw hl hb,Nat.zero_add]; exact hy)
       refine⟨v::l,h1,by simp[h2],?_⟩;have ha:(asAddr (a.tmps.getD p undef)).run C.P wr=.ok ⟨b,0,none⟩ wr:=by rw[hx]; rfl
       simp only[List.mapM_cons,Sem.run_bind,ha,Sem.run_pure,Result.andThen_ok,hl2,h3]
      ·exact h.elim
    ·exact h.elim
   ·rename_i ty o n ht he;obtain⟨ad,ho,hx⟩:=hd he;simp only[Act.eval] at hx;obtain⟨vs,hlen,h⟩:=OL h
    split at h
    ·rename_i v hv;obtain⟨hcx,h⟩:=h;obtain⟨l,h1,h2,h3⟩:=ih h;have hl2:=Vz E.T ht hv hlen (a:=ad.add n) (w:=wr) (hcx.cells hw.ext ho);refine⟨v::l,h1,by simp[h2],?_⟩;have ha:(asAddr (a.tmps.getD p undef)).run C.P wr=.ok (ad.add n) wr:=by rw[hx]; rfl
     simp only[List.mapM_cons,Sem.run_bind,ha,Sem.run_pure,Result.andThen_ok,hl2,h3]
    ·exact h.elim
   ·exact h.elim
theorem Nc{C:Ug}(E:zon C){sps:List (Nat×ZV)}{f:FuncId}{fn:Func}{body:Code}{args:List Va}{w:Wo}{R:Va->Wo->Prop}(hf:C.P.funcs[f]? = some fn)(hb:fn.body=some body)(hn:fn.ntmps=C.n)(hargs:args.length<=C.n)(hn4:C.n<=4000)(hrd:C.rd=none)(h:zts C sps args body fn.results.toList w R):Calls C.P f args.toArray w fun e w'=>∃v wv,e=.returned v/\(C.pm=true->wv=w/\Q0 [] w w')/\(C.pm=true->R v wv)/\(C.pm=false->R v w'):=by
 refine(callsIn_wide (n:=0)).1 (callsIn_of_wp hf hb trivial ?_);have hF:Vf C.rd=Fence.wide:=by rw[hrd]; rfl
 rw[<-hF]
 have B21:Tq C.n (Dx args) { tmps:=args.toArray++Array.replicate (fn.ntmps-args.toArray.size) undef,defers:=[] }:=by
  have AH6:∀i sv,(Dx args).F.get i=some sv->∃v,args[i]? = some v/\sv=.un (.v v):=fun i sv hs=>by
   obtain⟨v,h1,_,h3⟩:=zgh Qo hs;exact⟨v,by simpa using h1,h3⟩
  refine⟨by simp[hn]; omega,fun i x hx=>?_,fun i r pc x hx=>?_⟩
  ·obtain⟨v,h1,h2⟩:=AH6 i _ hx;cases h2;show _=v;rw[Array.getD_eq_getD_getElem?,Array.getElem?_append_left (by simpa using (I8.1 h1).1)];simp[h1]
  ·obtain⟨v,h1,h2⟩:=AH6 i _ hx;cases h2
 have tG:Zg (Dx args) w w:=⟨Q0.refl _ _,fun id t cs hl=>by simp[Dx] at hl,rfl,List.nodup_nil,fun id b _ hb=>by simp[Dx] at hb⟩;refine Yc E body (Dx args) w w _ _ _ h B21 tG ⟨Ic _,fun id aG=>by cases aG⟩ fun e S w' a' W9 hK he=>?_
 have fin:zlq C S w' fn.results.toList (fun l=>bif C.pm then R (zof l) w' else ∀wr,Q0 S.bs w' wr->R (zof l) wr)->a'.defers=[]/\∃v,(results fn a'.tmps).run C.P W9=.ok v W9/\∃v' wv,Ending.returned v=.returned v'/\(C.pm=true->wv=w/\Q0 [] w W9)/\(C.pm=true->R v' wv)/\(C.pm=false->R v' W9):=fun hr=>by
  obtain⟨l,h1,h2,h3⟩:=zvc E he.fit he.rel hr;refine⟨he.fra.1,zof l,?_,zof l,w',rfl,fun hp=>?_,fun hp=>?_,fun hp=>?_⟩
  ·simp only[results,Sem.run_bind,Array.mapM_eq_mapM_toList,Sem.run_map];refine(congrArg (fun r:Result (List Va)=>(r.andThen fun a w'=>Result.ok a.toArray w').andThen fun vs w'=>(Pure.pure (if h:vs.size=1 then vs[0] else .tuple vs):Sem Va).run C.P w') h3).trans ?_;simp only[Result.andThen_ok,Sem.run_pure]
   congr 1
   cases l with
   | nil=>rfl
   | cons x r=>
    cases r with
    | nil=>rfl
    | cons y q=>simp[zof]
  ·obtain⟨p1,p2⟩:=he.pm hp;refine⟨p1,?_⟩;have hx:=he.rel.ext;rw[<-p1];have hbs:S.bs=[]:=by unfold St.bs; rw[p2]; rfl
   rw[hbs] at hx;exact hx
  ·rw[hp] at h1; exact h1
  ·rw[hp] at h1; exact h1 W9 he.rel.ext
 cases e with
 | normal=>exact fin hK
 | ret=>exact fin hK
 | _=>exact hK.elim
theorem zny{C:Ug}(E:zon C){sps:List (Nat×ZV)}{f:FuncId}{fn:Func}{body:Code}{args:List Va}{w:Wo}{bs:List Nat}{r:Va}(hf:C.P.funcs[f]? = some fn)(hb:fn.body=some body)(hn:fn.ntmps=C.n)(hargs:args.length<=C.n)(hn4:C.n<=4000)(iV:C.pm=true)(hrd:C.rd=none)(h:∀wr,Q0 bs w wr->zts C sps args body fn.results.toList wr fun v _=>v=r):Q2 bs C.P f args.toArray w r:=fun wr hx=>
 (Nc E hf hb hn hargs hn4 hrd (h wr hx)).mono fun e w' ⟨v,_,he,h1,h2,_⟩=>by
  have:=h2 iV;subst this;exact⟨he,(h1 iV).2⟩
theorem zq4{C:Ug}(E:zon C){sps:List (Nat×ZV)}{f:FuncId}{fn:Func}{body:Code}{args:List Va}{w:Wo}{R:Va->Wo->Prop}(hf:C.P.funcs[f]? = some fn)(hb:fn.body=some body)(hn:fn.ntmps=C.n)(hargs:args.length<=C.n)(hn4:C.n<=4000)(iV:C.pm=false)(hrd:C.rd=none)(h:zts C sps args body fn.results.toList w R):Calls C.P f args.toArray w fun e w'=>∃v,e=.returned v/\R v w':=
 (Nc E hf hb hn hargs hn4 hrd h).mono fun e w' ⟨v,_,he,_,_,h3⟩=>⟨v,he,h3 iV⟩
theorem UP{w:Wo}{b:Nat}{cs:Array Va}{t:TypeId}{fz:Nat×Nat}(h:w.heap[b]? = some (.cells cs t fz))(k:Nat):w.cell? ⟨b,k,none⟩=cs[k]? := by
 simp[World.cell?,h]
theorem JF{w:Wo}{b:Nat}{o:Obj}(h:w.heap[b]? = some o):b<w.heap.size:=by
 rcases Nat.lt_or_ge b w.heap.size with hl | hl
 ·exact hl
 ·rw[Array.getElem?_eq_none_iff.2 hl] at h; cases h
theorem VF{bs:List Nat}{w:Wo}{b k0:Nat}{cs:List Va}{t:TypeId}{fz:Nat×Nat}(h:w.heap[b]? = some (.cells cs.toArray t fz))(hb:b∉bs){k:Nat}{v:Va}(hk:cs[k0+k]? = some v):Jf bs w (some ⟨b,k0,none⟩) k v:=
 ⟨⟨b,k0,none⟩,rfl,hb,by rw[Addr.add_lit,UP h]; simpa using hk⟩
theorem Xh{bs:List Nat}{w:Wo}{o:OA}{n:Nat}{v:Va}(h:Jf bs w o n v):Q1 bs w o n [v]:=h
theorem Ps{bs:List Nat}{w:Wo}{o:OA}:∀{n:Nat} {vs:List Va},(∀j v,vs[j]? = some v->Jf bs w o (n+j) v)->Q1 bs w o n vs
 | _,[],_=>trivial
 | n,[v],h=>h 0 v rfl
 | n,v::u::r,h=>⟨h 0 v rfl,Ps (vs:=u::r) fun j x hj=>by
   have:=h (j+1) x (by simpa using hj);rw[show n+1+j=n+(j+1) by omega]; exact this⟩
theorem PC{bs:List Nat}{w:Wo}{b k0:Nat}{cs:List Va}{t:TypeId}{fz:Nat×Nat}(h:w.heap[b]? = some (.cells cs.toArray t fz))(hb:b∉bs){n:Nat}{vs:List Va}(hk:∀j v,vs[j]? = some v->cs[k0+(n+j)]? = some v):Q1 bs w (some ⟨b,k0,none⟩) n vs:=
 Ps fun j v hj=>VF h hb (hk j v hj)
theorem Q1.ext{bs:List Nat}{w w':Wo}{o:OA}{n:Nat}{vs:List Va}(h:Q1 bs w o n vs)(hx:Q0 bs w w'):Q1 bs w' o n vs:=
 Ps fun j v hj=>(h.get j v hj).ext hx
theorem Q1.less{bs cs:List Nat}{w:Wo}{o:OA}{n:Nat}{vs:List Va}(h:Q1 bs w o n vs)(hs:∀x∈cs,x∈bs):Q1 cs w o n vs:=
 Ps fun j v hj=>(h.get j v hj).less hs
theorem QM{bs:List Nat}{w w':Wo}{b:Nat}{o:Obj}(h:w.heap[b]? = some o)(hx:Q0 bs w w')(hb:b∉bs):w'.heap[b]? = some o:=by
 rw[hx.block b (JF h) hb]; exact h
theorem Ol{w:Wo}{b k n:Nat}{cs vs:List Va}{t:TypeId}{fz:Nat×Nat}(h:w.heap[b]? = some (.cells cs.toArray t fz)):(Rl w (some ⟨b,k,none⟩) n vs).heap[b]? = some (.cells (zjp cs (k+n) vs).toArray t fz):=DW vs w b k n cs t fz h
theorem zl4(bs:List Nat)(a:Addr):∀(vs:List Va) (w:Wo) (n:Nat),a.block∈bs->Q0 bs w (cN w a n vs)
 | [],w,n,_=>Q0.refl _ _
 | v::r,w,n,h=>((Q0.refl bs w).setCell (p:=a.add n) (.inr (by rw[Zz]; exact h)) v).trans (zl4 bs a r _ _ h)
theorem JV{bs:List Nat}{w:Wo}{o:OA}{n:Nat}{vs:List Va}(h:∀a,o=some a->a.block∈bs):Q0 bs w (Rl w o n vs):=by
 cases o with
 | none=>exact Q0.refl _ _
 | some a=>exact zl4 bs a vs w n (h a rfl)
theorem MH{bs:List Nat}{w:Wo}{b k0 n k:Nat}{cs:List Va}{t:TypeId}(h:w.heap[b]? = some (.cells cs.toArray t (0,0)))(hb:b∉bs)(hk:k0+(n+k)<=cs.length):X0 bs w (some ⟨b,k0,none⟩) n k:=
 ⟨⟨b,k0,none⟩,rfl,hb,fun j h1 h2=>by
  rw[Addr.add_lit,UP h];refine⟨⟨cs[k0+j]' Qo,Qs⟩,?_⟩;simp[World.frozen?,h]⟩
theorem Q0.fresh{bs cs:List Nat}{w0 w w':Wo}(h:Q0 bs w0 w)(k:Q0 cs w w')(hc:∀x∈cs,w0.heap.size<=x\/x∈bs):Q0 bs w0 w':=
 ⟨k.os.trans h.os,k.tape.trans h.tape,k.output.trans h.output,IA h.size k.size,fun i hi hb=>(k.block i (Nat.lt_of_lt_of_le hi h.size) (fun hx=>by
  rcases hc i hx with h1 | h1
  ·omega
  ·exact hb h1)).trans (h.block i hi hb)⟩
theorem Fk{bs:List Nat}{P:Program}{f:FuncId}{args:Array Va}{w:Wo}{v:Va}(h:∀wr,Q0 bs w wr->Calls P f args wr fun e w'=>∃v0,e=.returned v0/\(v0=v/\Q0 [] wr w')):Q2 bs P f args w v:=
 fun wr hx=>(h wr hx).mono fun e w' ⟨v0,he,hv,dF⟩=>⟨by rw[he,hv],dF⟩
theorem KT{w:Wo}{o:OA}{n k:Nat}{vs:List Va}:Rl w (o.map (·.add n)) k vs=Rl w o (n+k) vs:=by
 cases o with
 | none=>rfl
 | some a=>
  simp only[Option.map_some,Rl]
  induction vs generalizing w k with
  | nil=>rfl
  | cons v r ih=>
   simp only[cN];rw[U3,ih];rfl
theorem FE{bs:List Nat}{w:Wo}{o:OA}{n k m:Nat}:X0 bs w (o.map (·.add n)) k m↔X0 bs w o (n+k) m:=by
 cases o with
 | none=>
  constructor <;> (rintro⟨a,ha,_⟩; cases ha)
 | some p=>
  constructor
  ·rintro⟨a,ha,hb,hc⟩;simp only[Option.map_some,I0] at ha;subst ha;refine⟨p,rfl,by rwa[Zz] at hb,fun j h1 h2=>?_⟩;have:=hc (j-n) Qo Qo
   rwa[U3,show n+(j-n)=j by omega] at this
  ·rintro⟨a,ha,hb,hc⟩;cases ha;refine⟨p.add n,rfl,by rwa[Zz],fun j h1 h2=>?_⟩;rw[U3];exact hc (n+j) Qo Qo
structure LI where
 floor:Int
 on:Bool
 v:Int
 w:Int
 sum:Int
 deriving DecidableEq,Inhabited
structure UM where
 IW:Int
 Rv:Int
 Sl:Int
 locals:List Int
 Rw:List Bool
 deriving DecidableEq,Inhabited
structure ZO where
 used:Bool
 parent:Int
 name:ByteArray
 weight:Int
 ID:Int
 period:Int
 next:Int
 sum:Int
 IQ:UM
 IE:List LI
 deriving DecidableEq,Inhabited
structure MM where
 state:Int
 group:Int
 IZ:Int
 nice:Int
 mask:Int
 v:Int
 sum:Int
 used:Int
 load:Int
 deriving DecidableEq,Inhabited
structure Mj where
 up:Bool
 cur:Int
 WH:Int
 busy:Int
 idle:Int
 deriving DecidableEq,Inhabited
structure Q8 where
 now:Int
 ID:List Mj
 tasks:List MM
 IC:List ZO
 deriving DecidableEq,Inhabited
structure z10 where
 kind:Int
 nA:Int
 n:Int
 deriving DecidableEq,Inhabited
def gi{α:Type}[Inhabited α](l:List α)(i:Int):α:=l.getD i.toNat default
theorem zty{α:Type}[Inhabited α](l:List α)(k:Nat):gi l (k:Int)=l.getD k default:=rfl
theorem VG{α:Type}[Inhabited α]{l:List α}{k:Nat}(h:k<l.length):gi l (k:Int)=l[k]:=by
 simp[zty,List.getD_eq_getElem?_getD,h]
theorem zw1{α:Type}[Inhabited α]{l:List α}{k:Nat}(h:k<l.length):l[k]? = some (gi l (k:Int)):=by
 rw[VG h]; simp[h]
theorem zm9{α:Type}[Inhabited α]{l:List α}{i:Int}(h0:0<=i)(h1:i<l.length):gi l i∈l:=by
 obtain⟨k,rfl⟩:=Int.eq_ofNat_of_zero_le h0;have:k<l.length:=Qo;rw[VG this]; exact List.getElem_mem this
theorem zm8{α:Type}[Inhabited α]{l m:List α}(hl:l.length=m.length)(h:∀k:Nat,k<l.length->gi l (k:Int)=gi m (k:Int)):l=m:=by
 refine List.ext_getElem hl fun k h1 h2=>?_
 have:=h k h1
 rwa[VG h1,VG h2] at this
theorem QE{α:Type}[Inhabited α](l:List α)(x:α){i j:Int}(h0:0<=i)(hi:i<(l.length:Int))(hj:0<=j):gi (l.set i.toNat x) j=if i=j then x else gi l j:=by
 obtain⟨k,rfl⟩:=Int.eq_ofNat_of_zero_le h0;obtain⟨q,rfl⟩:=Int.eq_ofNat_of_zero_le hj;simp only[zty,Ig,List.getD_eq_getElem?_getD,List.getElem?_set]
 by_cases hkq:k=q
 ·subst hkq;have:k<l.length:=Qo;simp[this]
 ·have:¬((k:Int)=q):=Qo;simp[hkq,this]
def PG(s:LI):List Va:=[I s.floor,.bool s.on,I s.v,I s.w,I s.sum]
def Xv(t:MM):List Va:=[I t.state,I t.group,I t.IZ,I t.nice,I t.mask,I t.v,I t.sum,I t.used,I t.load]
def Hy(c:Mj):List Va:=[.bool c.up,I c.cur,I c.WH,I c.busy,I c.idle]
def z09(o:z10):List Va:=[I o.kind,I o.nA,I o.n]
def JI(n:Int):List Va:=[I n]
def Mm(b:Bool):List Va:=[.bool b]
structure MG where
 lO:OA
 lC:Nat
 dO:OA
 dC:Nat
 sO:OA
 sC:Nat
 deriving Inhabited
def Yq(g:ZO)(m:MG):List Va:=[.bool g.used,I g.parent,.string g.name,I g.weight,I g.ID,I g.period,I g.next,I g.sum,
 I g.IQ.IW,I g.IQ.Rv,I g.IQ.Sl,.slice m.lO g.IQ.locals.length m.lC,.slice m.dO g.IQ.Rw.length m.dC,.slice m.sO g.IE.length m.sC]
def Rd{α:Type}[Inhabited α](enc:α->List Va)(z:Nat)(bs:List Nat)(w:Wo)(o:OA)(l:List α):Prop:=
 ∀i:Int,0<=i->i<(l.length:Int)->Q1 bs w o (Int.toNat i*z) (enc (gi l i))
theorem Rd.ext{α:Type}[Inhabited α]{enc:α->List Va}{z:Nat}{bs:List Nat}{w w':Wo}{o:OA}{l:List α}(h:Rd enc z bs w o l)(hx:Q0 bs w w'):Rd enc z bs w' o l:=
 fun i h0 h1=>(h i h0 h1).ext hx
theorem Rd.less{α:Type}[Inhabited α]{enc:α->List Va}{z:Nat}{bs cs:List Nat}{w:Wo}{o:OA}{l:List α}(h:Rd enc z bs w o l)(hs:∀x∈cs,x∈bs):Rd enc z cs w o l:=
 fun i h0 h1=>(h i h0 h1).less hs
theorem Jf.wide{bs cs:List Nat}{w:Wo}{o:OA}{n:Nat}{v:Va}(h:Jf bs w o n v)(hs:∀x∈cs,x∈bs\/w.heap.size<=x):Jf cs w o n v:=by
 obtain⟨a,ho,hb,hc⟩:=h;refine⟨a,ho,fun hx=>?_,hc⟩;have IS:=World.block_lt_of_cell? w _ hc;rw[Zz] at IS;rcases hs _ hx with h1 | h1
 ·exact hb h1
 ·omega
theorem Q1.wide{bs cs:List Nat}{w:Wo}{o:OA}{n:Nat}{vs:List Va}(h:Q1 bs w o n vs)(hs:∀x∈cs,x∈bs\/w.heap.size<=x):Q1 cs w o n vs:=
 Ps fun j v hj=>(h.get j v hj).wide hs
theorem Rd.wide{α:Type}[Inhabited α]{enc:α->List Va}{z:Nat}{bs cs:List Nat}{w:Wo}{o:OA}{l:List α}(h:Rd enc z bs w o l)(hs:∀x∈cs,x∈bs\/w.heap.size<=x):Rd enc z cs w o l:=
 fun i h0 h1=>(h i h0 h1).wide hs
theorem Q1.some{bs:List Nat}{w:Wo}{o:OA}{n:Nat}{v:Va}{r:List Va}(h:Q1 bs w o n (v::r)):o.isSome=true:=by
 obtain⟨a,rfl,_,_⟩:=h.get 0 v rfl;rfl
theorem Rd.ix{α:Type}[Inhabited α]{enc:α->List Va}{z:Nat}{bs:List Nat}{w:Wo}{o:OA}{l:List α}(h:Rd enc z bs w o l)(he:∀x,∃v r,enc x=v::r){i:Int}(h0:0<=i)(h1:i<(l.length:Int)):Ix o l.length i:=by
 obtain⟨v,r,e⟩:=he (gi l i);have:=h i h0 h1;rw[e] at this;exact⟨h0,h1,this.some⟩
theorem YW(x:LI):∃v r,PG x=v::r:=⟨_,_,rfl⟩
theorem QG(x:MM):∃v r,Xv x=v::r:=⟨_,_,rfl⟩
theorem ZP(x:Mj):∃v r,Hy x=v::r:=⟨_,_,rfl⟩
theorem Jm(x:Int):∃v r,JI x=v::r:=⟨_,_,rfl⟩
theorem Dq(x:Bool):∃v r,Mm x=v::r:=⟨_,_,rfl⟩
abbrev zmh:=Rd PG 5
abbrev zsq:=Rd Xv 9
abbrev z00:=Rd Hy 5
abbrev zqo:=Rd JI 1
abbrev zy9:=Rd Mm 1
structure KX (bs:List Nat) (w:Wo) (o:OA) (gs:List ZO) (ms:Nat->MG):Prop where
 cells:∀i:Int,0<=i->i<(gs.length:Int)->Q1 bs w o (Int.toNat i*14) (Yq (gi gs i) (ms i.toNat))
 locals:∀i:Int,0<=i->i<(gs.length:Int)->zqo bs w (ms i.toNat).lO (gi gs i).IQ.locals
 Rw:∀i:Int,0<=i->i<(gs.length:Int)->zy9 bs w (ms i.toNat).dO (gi gs i).IQ.Rw
 IE:∀i:Int,0<=i->i<(gs.length:Int)->zmh bs w (ms i.toNat).sO (gi gs i).IE
theorem KX.ext{bs:List Nat}{w w':Wo}{o:OA}{gs:List ZO}{ms:Nat->MG}(h:KX bs w o gs ms)(hx:Q0 bs w w'):KX bs w' o gs ms:=
 ⟨fun i a b=>(h.cells i a b).ext hx,fun i a b=>(h.locals i a b).ext hx,fun i a b=>(h.Rw i a b).ext hx,fun i a b=>(h.IE i a b).ext hx⟩
theorem KX.less{bs cs:List Nat}{w:Wo}{o:OA}{gs:List ZO}{ms:Nat->MG}(h:KX bs w o gs ms)(hs:∀x∈cs,x∈bs):KX cs w o gs ms:=
 ⟨fun i a b=>(h.cells i a b).less hs,fun i a b=>(h.locals i a b).less hs,fun i a b=>(h.Rw i a b).less hs,fun i a b=>(h.IE i a b).less hs⟩
theorem KX.wide{bs cs:List Nat}{w:Wo}{o:OA}{gs:List ZO}{ms:Nat->MG}(h:KX bs w o gs ms)(hs:∀x∈cs,x∈bs\/w.heap.size<=x):KX cs w o gs ms:=
 ⟨fun i a b=>(h.cells i a b).wide hs,fun i a b=>(h.locals i a b).wide hs,fun i a b=>(h.Rw i a b).wide hs,fun i a b=>(h.IE i a b).wide hs⟩
theorem KX.ix{bs:List Nat}{w:Wo}{o:OA}{gs:List ZO}{ms:Nat->MG}(h:KX bs w o gs ms){i:Int}(h0:0<=i)(h1:i<(gs.length:Int)):Ix o gs.length i:=
 ⟨h0,h1,(h.cells i h0 h1).some⟩
def ZR(p:Nat)(vs:List Va):Int:=match vs[p]? with
 | some (.int _ i)=>i
 | _=>0
def zqz(I:Nat->Prop)(vs:List Va):Prop:=∃k:Nat,I k/\vs=[.int .i64 (k:Int)]
def Xc(n:Nat)(p:Nat)(vs:List Va):Nat:=((n:Int)+1-ZR p vs).toNat
theorem Xw{B:(List Va->Prop)->(List Va->Nat)->Int->Prop}(n:Nat){si:Int}(s:Nat)(hs:si=s)(I:Nat->Prop)(h0:I s)(hB:∀k:Nat,I k->B (zqz I) (Xc n 0) (k:Int)) :
  ∃(IP:List Va->Prop) (mu:List Va->Nat),IP [.int .i64 si]/\∀i:Int,IP [.int .i64 i]->B IP mu i:=by
 refine⟨zqz I,Xc n 0,⟨s,h0,by rw[hs]⟩,?_⟩;rintro i ⟨k,hI,he⟩;simp only[I4,I5,true_and,and_true] at he;subst he;exact hB k hI
theorem QB{n k:Nat}{I:Nat->Prop}(hk:k<n)(hI:I (k+1)):zqz I [.int .i64 ((k:Int)+1)]/\Xc n 0 [.int .i64 ((k:Int)+1)]<Xc n 0 [.int .i64 (k:Int)]:=by
 refine⟨⟨k+1,hI,Qs⟩,?_⟩;simp only[Xc,ZR,Ie];omega
def ztk(I:Nat->Wo->Prop)(vs:List Va)(w:Wo):Prop:=∃k:Nat,I k w/\vs=[.int .i64 (k:Int)]
def Zq(n:Nat)(p:Nat)(vs:List Va)(_:Wo):Nat:=Xc n p vs
theorem Xx{B:(List Va->Wo->Prop)->(List Va->Wo->Nat)->Int->Wo->Prop}{bs L:List Nat}{wv:Wo}(n:Nat){si:Int}(s:Nat)(hs:si=s)(I:Nat->Wo->Prop)(h0:∀wr,Q0 bs wv wr->(∀bq∈L,bq<wr.heap.size)->I s wr)(hB:∀(k:Nat) (w1:Wo),(∀bq∈L,bq<w1.heap.size)->I k w1->B (ztk I) (Zq n 0) (k:Int) w1) :
  ∃(IP:List Va->Wo->Prop) (mu:List Va->Wo->Nat),(∀wr,Q0 bs wv wr->(∀bq∈L,bq<wr.heap.size)->IP [.int .i64 si] wr)/\∀(i:Int) (w1:Wo),(∀bq∈L,bq<w1.heap.size)->IP [.int .i64 i] w1->B IP mu i w1:=by
 refine⟨ztk I,Zq n 0,fun wr hx hq=>⟨s,h0 wr hx hq,by rw[hs]⟩,?_⟩;rintro i w1 hq ⟨k,hI,he⟩;simp only[I4,I5,true_and,and_true] at he;subst he;exact hB k w1 hq hI
theorem Qm{n k:Nat}{I:Nat->Wo->Prop}{wr w1:Wo}(hk:k<n)(hI:I (k+1) wr):ztk I [.int .i64 ((k:Int)+1)] wr/\Zq n 0 [.int .i64 ((k:Int)+1)] wr<Zq n 0 [.int .i64 (k:Int)] w1:=by
 refine⟨⟨k+1,hI,Qs⟩,?_⟩;simp only[Zq,Xc,ZR,Ie];omega
def ztj(I:Int->Nat->Prop)(vs:List Va):Prop:=∃(x:Int) (k:Nat),I x k/\vs=[.int .i64 x,.int .i64 (k:Int)]
theorem OQ{B:(List Va->Prop)->(List Va->Nat)->Int->Int->Prop}(n:Nat){xi si:Int}(s:Nat)(hs:si=s)(I:Int->Nat->Prop)(h0:I xi s)(hB:∀(x:Int) (k:Nat),I x k->B (ztj I) (Xc n 1) x (k:Int)) :
  ∃(IP:List Va->Prop) (mu:List Va->Nat),IP [.int .i64 xi,.int .i64 si]/\∀(x i:Int),IP [.int .i64 x,.int .i64 i]->B IP mu x i:=by
 refine⟨ztj I,Xc n 1,⟨xi,s,h0,by rw[hs]⟩,?_⟩;rintro x i ⟨x',k,hI,he⟩;simp only[I4,I5,true_and,and_true] at he;obtain⟨rfl,rfl⟩:=he;exact hB x k hI
theorem QJ{n k:Nat}{I:Int->Nat->Prop}{x x':Int}(hk:k<n)(hI:I x' (k+1)):ztj I [.int .i64 x',.int .i64 ((k:Int)+1)]/\Xc n 1 [.int .i64 x',.int .i64 ((k:Int)+1)]<Xc n 1 [.int .i64 x,.int .i64 (k:Int)]:=by
 refine⟨⟨x',k+1,hI,Qs⟩,?_⟩;simp only[Xc,ZR,Ie,List.getElem?_cons_succ];omega
theorem XA:maxLen<=9223372036854775807:=by simp[maxLen]
theorem ziw{k n:Nat}(h:(k:Int)<(n:Int))(hn:n<=maxLen):Qq .i64 ((k:Int)+1):=by
 have:=XA;exact⟨Qo,Qo⟩
end Go.Proofs.YtnclplgaicdapaaGreatDoor
