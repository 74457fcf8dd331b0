/- Part 2 of what the law FnPinned needs: the engine, the functions' propositions, the contracts. -/
import Derived.Test.YtclpmgfpjeaibaaGreatFnPinnedPa
import Derived.RangeFuncRecord
import Derived.OrdersIn
import Derived.TacticsIn
import Derived.Scope
namespace Go.Proofs.YtclpmgfpjeaibaaGreat
open Go.RowKit
set_option linter.unusedVariables false
set_option linter.unusedSimpArgs false
def Lz (r:Option Nat):Fence:={ Fence.wide with round:=r }
theorem zdi (r:Option Nat) (n:Nat):(Lz r).room n:=fun d h=>by simp [Lz,Fence.wide] at h
theorem P6 {r:Option Nat} {n:Nat} {P:Program} {f:FuncId} {args:Array Value} {w:World} {R:Ending->World->Prop} (h:Calls P f args w R):CallsIn (Lz r) n P f args w R:=(callsIn_wide (n:=n)).2 h
theorem zn2 {r:Option Nat} {n:Nat} {P:Program} {f:FuncId} {args:Array Value} {w:World} {R:Ending->World->Prop} (h:CallsIn (Lz r) n P f args w R):Calls P f args w R:=(callsIn_wide (n:=n)).1 h
theorem CR {r:Option Nat} {n m:Nat} {P:Program} {l:Nat} {f:FuncId} {tmps:Array Value} {asg body:Code} {w:World} {R:Ending->World->Prop} (h:RoundIn Fence.wide n P l f tmps asg body w R):RoundIn (Lz r) m P l f tmps asg body w R:=
 ⟨trivial,fun c cs _=>h.2 c cs (room_wide _)⟩
theorem zk8 {r:Option Nat} {n:Nat} {P:Program} {row:String} {args:Array Value} {w:World} {R:Value->World->Prop} (h:Rows P row args w R):RowsIn (Lz r) n P row args w R:=fun c cs _=>by
 obtain ⟨v,w',hr,hs⟩:=h c cs;exact ⟨v,w',hr,(stepsIn_wide (P:=P)).2 hs⟩
theorem zgu {r:Option Nat} {P:Program} {o:Oper} {a:Act} {w:World} {next:Act->World->Prop} {Q:Exit->Act->World->Prop} (hd:∀c,o.op≠.defer c) (h:o.uponIn (Lz r) 0 P a next Q ((execOp a.eval o).run P w)):o.wpIn (Lz r) 0 P a w next Q:=
 ⟨fun _ _=>trivial,by rw [Oper.semAt_eq _ _ _ hd]; exact h⟩
theorem zri {r:Option Nat} {P:Program} {o:Oper} {a:Act} {w:World} {next:Act->World->Prop} {Q:Exit->Act->World->Prop} (hd:∀c,o.op≠.defer c) (h:o.wpIn (Lz r) 0 P a w next Q):o.uponIn (Lz r) 0 P a next Q ((execOp a.eval o).run P w):=by
 have:=h.2;rw [Oper.semAt_eq _ _ _ hd] at this;exact this
theorem z7 {P:Program} {o:Oper} {ρ:Operand->Value} {c:Call} (hc:o.op = .defer c) (w:World):(∃d w',(execOp ρ o).run P w = .ok (.defer d) w')\/∃x w',(execOp ρ o).run P w = .halt x w':=by
 simp only [execOp,hc,Sem.run_bind]
 cases hr:(resolve ρ c o.type).run P w with
 | ok d w'=>exact .inl ⟨d,w',by simp [Result.andThen]⟩
 | halt x w'=>exact .inr ⟨x,w',by simp [Result.andThen]⟩
theorem zd0 {P:Program} {C:World->Prop} {o:Oper} {ρ:Operand->Value} {w:World} {v:Value} (h:Oper.quietUpon P C w v ((execOp ρ o).run P w)):∀c,o.op≠.defer c:=fun c hc=>by
 rcases z7 (P:=P) (ρ:=ρ) hc w with ⟨d,w',hr⟩ | ⟨x,w',hr⟩ <;> (rw [hr] at h; exact h)
theorem Hq {r:Option Nat} {P:Program} {C:World->Prop} {o:Oper} {a:Act} {K:Act->Prop} {K':Act->World->Prop} {Q':Exit->Act->World->Prop} {w:World} (hw:C w) (h:∀a w',C w'->K a->K' a w') (hh:o.quiet P a C K):o.wpIn (Lz r) 0 P a w K' Q':=by
 obtain ⟨v,h1,h2⟩:=hh;have h3:=h1 w hw;refine zgu (zd0 h3) ?_;unfold Oper.quietAt at h3;generalize (execOp a.eval o).run P w=res at *
 cases res with
 | ok n w'=>
  cases n <;> simp only [Oper.quietUpon] at h3 <;> simp only [Oper.uponIn]
  case value u=>
   obtain ⟨e1,e2⟩:=h3;rw [e1,e2];exact h _ _ hw h2
  case skip=>
   obtain ⟨e1,e2⟩:=h3;rw [e1,<-e2];exact h _ _ hw h2
  case enter f args=>
   obtain ⟨e1,e2⟩:=h3;rw [e1];exact ⟨fun hx=>(by simp [Lz,Fence.wide] at hx),P6 (e2.mono fun e w'' ⟨he,hc⟩=>by subst he; exact h _ _ hc h2)⟩
 | halt x w'=>exact h3.elim
section
variable {P:Program} {b:Frame} {a:Act} {k:List Item} {cs:List Frame} {w:World}
theorem UB {c:Code}:step P (lone (b.atR a (.code (.scope c)::k)) cs w) = .next (lone (b.atR a (.code c :: .inScope c::k)) cs w):=
 step_lone_go (by simp [stepG,stepG.exec,Frame.atR])
theorem CD {c:Code}:step P (lone (b.atR a (.inScope c::k)) cs w) = .next (lone (b.atR a k) cs w):=
 step_lone_go (by simp [stepG,stepG.exec,Frame.atR])
end
section
variable {F:Fence} {n:Nat} {P:Program} {Q:Exit->Act->World->Prop} {a:Act} {w:World}
theorem KP {c:Code} (h:c.wpIn F n P (Exit.noGoto Q) a w):(Code.scope c).wpIn F n P Q a w:=by
 intro b k cs hro hb hr;have h0:(lone (b.atR a (.code (.scope c)::k)) cs w).fenced P F:=fenced_calm hb hr rfl;obtain ⟨e,a₁,w₁,hq,harr⟩:=h b (.inScope c::k) cs hro hb hr
 cases e with
 | normal=>exact ⟨.normal,a₁,w₁,hq,.head h0 UB (StepsIn.trans harr (.one (fenced_calm hb hr rfl) CD))⟩
 | exit id=>exact ⟨.exit id,a₁,w₁,hq,fun k' hk=>.head h0 UB (harr.1 k' (by simp [exitTo,hk])),fun hr' hk=>(let ⟨k₁,h1,h2⟩:=harr.2 hr' (by simp [exitTo,hk]); ⟨k₁,h1,.head h0 UB h2⟩)⟩
 | goto l=>exact hq.elim
 | ret=>exact ⟨_,a₁,w₁,hq,.of_steps (.one h0 UB) harr⟩
 | panic ch=>exact ⟨_,a₁,w₁,hq,.of_steps (.one h0 UB) harr⟩
 | outgrown=>exact ⟨_,a₁,w₁,hq,.of_steps (.one h0 UB) harr⟩
theorem Hp {c:Code} (I:Nat->Act->World->Prop) {m:Nat} (h₀:I m a w)
  (round:∀m a w,I m a w->c.wpIn F n P (Exit.then (fun a' w'=>∃j,j<m/\I j a' w') Q) a w):(Code.loop c).wpIn F n P Q a w:=by
 intro b k cs hro hb hr
 have key:∀m a w,I m a w->∃e a' w',Q e a' w'/\ArrivesIn (Machine.fenced P F) P (lone (b.atR a (.code c :: .inLoop c::k)) cs w) b k cs e a' w':=by
  intro m
  induction m using Nat.strongRecOn with
  | _ m ih=>
   intro a w hI;obtain ⟨e,a₁,w₁,hq,harr⟩:=round m a w hI b (.inLoop c::k) cs hro hb hr
   cases e with
   | normal=>
    obtain ⟨j,hlt,hI₁⟩:=hq;obtain ⟨e₂,a₂,w₂,hq₂,harr₂⟩:=ih j hlt a₁ w₁ hI₁;exact ⟨e₂,a₂,w₂,hq₂,.of_steps (StepsIn.trans harr (.one (fenced_calm hb hr rfl) stepR_inLoop)) harr₂⟩
   | exit id=>exact ⟨_,a₁,w₁,hq,.pass (x:=.inLoop c) rfl (fun _ _=>.inl (by simp)) harr⟩
   | goto l=>exact ⟨_,a₁,w₁,hq,.pass (x:=.inLoop c) rfl (fun _ _=>.inl (by simp)) harr⟩
   | ret=>exact ⟨_,a₁,w₁,hq,.pass (x:=.inLoop c) rfl (fun _ _=>.inl (by simp)) harr⟩
   | panic ch=>exact ⟨_,a₁,w₁,hq,.pass (x:=.inLoop c) rfl (fun _ _=>.inl (by simp)) harr⟩
   | outgrown=>exact ⟨_,a₁,w₁,hq,.pass (x:=.inLoop c) rfl (fun _ _=>.inl (by simp)) harr⟩
 obtain ⟨e,a',w',hq,harr⟩:=key m a w h₀;exact ⟨e,a',w',hq,.of_steps (.one (fenced_calm hb hr rfl) stepR_loop) harr⟩
end
def zc7 (v:Value) (vs:List Value):Sem Next:=do let d <-Deferred.ofValue v vs.toArray; invoke d.target d.args
def zpx (m:String) (v:Value) (vs:List Value):Sem Next:=invoke (.fn (.method m) #[]) (#[v]++vs.toArray)
def zc2 (P:Program) (v:Value) (vs:List Value) (w:World) (R:Ending->World->Prop):Prop:=
 (∃(f:FuncId) (as0:Array Value),(zc7 v vs).run P w = .ok (.enter f as0) w/\Calls P f as0 w R) \/
 ∃(l:Nat) (f:FuncId) (tmps:Array Value) (asg body:Code),(zc7 v vs).run P w = .ok (.round l f tmps asg body) w/\RoundIn Fence.wide 0 P l f tmps asg body w R
theorem zc2.mono {P:Program} {v:Value} {vs:List Value} {w:World} {R R':Ending->World->Prop} (h:zc2 P v vs w R) (hr:∀e w',R e w'->R' e w'):zc2 P v vs w R':=by
 rcases h with ⟨f,as0,h1,h2⟩ | ⟨l,f,tmps,asg,body,h1,h2⟩
 ·exact .inl ⟨f,as0,h1,h2.mono hr⟩
 ·exact .inr ⟨l,f,tmps,asg,body,h1,h2.mono hr⟩
def zln (C:Vj) (t:TypeId):Bool:=match C.T t with
 | some { agg:=_,ks:=_,d:=.int _ }=>true
 | _=>false
def GN (C:Vj):Op->Bool
 | .alloc _ | .box _ _ | .store _ _ _ | .buildSlice _ _ _=>true
 | .call { callee:=.value (.func f),args:=_,argTypes:=_ } => !(ze6 C.pf f).isSome
 | .call { callee:=.builtin b,args:=_,argTypes:=_ }=>match b with
  | .append | .copy=>true
  | _=>false
 | .call { callee:=.value (.tmp _),args:=_,argTypes:=_ } | .call { callee:=.invoke _ _,args:=_,argTypes:=_ }=>true
 | .makeSlice _ _ _ | .makeMap _ _ | .lookup _ _ _ _ | .mapUpdate _ _ _ _ | .insert _ _ _ _ | .range _ _ | .next _ _=>true
 | .convert s d _ => !(zln C s&&zln C d)
 | _=>false
def St.aged (S:St):St:={ S with old:=S.B.length }
def Q9 (B:List Nat) (w w':World):Prop:=∀b∈B,w'.heap[b]? = w.heap[b]?
def ztg:Builtin->List RK
 | .append=>[.cell .slice]
 | _=>[.cell (.int .i64)]
def zkz (args:Array Operand):Array Bool:=args.map fun | .const _=>true | _=>false
def TM (z:Nat):List (Nat×Operand)->Nat->List Value->Option (List Value)
 | [],_,[]=>some []
 | (i,_)::r,k,v::vs=>bif Nat.beq i k&&Nat.beq v.cells.toList.length z then
   match TM z r (k+1) vs with
   | some l=>some (v.cells.toList++l)
   | none=>none
  else none
 | _,_,_=>none
def Nr (C:Vj) (S:St) (w:World) (d:Option Tmp) (t:TypeId) (cells:List Value) (e:Nat->EV) (K:St->World->Prop):Prop:=
 ∀b,w.heap.size<=b->LU C { S with L:=S.L++[(t,cells)],B:=S.B++[b] } d (.un (e S.L.length)) fun S'=>K S' w
def Ds (C:Vj) (S:St) (w:World) (d:Option Tmp) (t:TypeId) (cells:List Value) (e:Nat->EV) (K:St->World->Prop):Prop:=
 bif C.pm then False else ∀b w',Q0 S.bs w w'->w.heap.size<=b->w'.heap[b]? = some (Obj.cells cells.toArray t (0,0))->b∉S.B->LU C S.aged d (.un (e b)) fun S'=>K S' w'
def OU (l:List Nat) (x:Nat):Bool:=l.any fun y=>Nat.beq y x
def zcf (C:Vj) (o:Oper):Option (List Operand×List RK×Bool×(List Value->Sem Value)):=
 match o.op with
 | .makeSlice t l c=>some ([l,c],[.cell .slice],false,fun | [x,y]=>Instr.makeSlice t x y | _=>pure undef)
 | .makeMap t none=>some ([],[.cell .map],false,fun _=>Instr.makeMap t none)
 | .makeMap t (some r)=>some ([r],[.cell .map],false,fun | [x]=>Instr.makeMap t (some x) | _=>pure undef)
 | .lookup t x i ok=>match zsg C o.type with
  | some rk=>some ([x,i],rk,false,fun | [a,b]=>Instr.lookup t a b ok | _=>pure undef)
  | none=>none
 | .mapUpdate t m k x=>some ([m,k,x],[],true,fun | [a,b,c]=>do Instr.mapUpdate t a b c; pure undef | _=>pure undef)
 | .insert t m k x=>some ([m,k,x],[],true,fun | [a,b,c]=>do Instr.mapUpdate t a b c; pure undef | _=>pure undef)
 | .range t x=>some ([x],[.cell .ptr],false,fun | [a]=>Instr.range t a | _=>pure undef)
 | .convert s d x=>match zsg C o.type with
  | some rk=>some ([x],rk,false,fun | [a]=>convert s d a | _=>pure undef)
  | none=>none
 | _=>none
theorem NR {C:Vj} {o:Oper} {xs:List Operand} {rk:List RK} {u:Bool} {f:List Value->Sem Value} (h:zcf C o=some (xs,rk,u,f)) (ρ:Operand->Value) {P:Program} {w w':World} {v:Value} (hr:(f (xs.map ρ)).run P w = .ok v w') :
  (execOp ρ o).run P w = .ok (if u then .skip else .value v) w':=by
 unfold zcf at h
 split at h
 case h_5 t m k x ho=>
  simp only [Option.some.injEq,Prod.mk.injEq] at h;obtain ⟨rfl,rfl,rfl,rfl⟩:=h;simp only [List.map_cons,List.map_nil,Sem.run_bind,Sem.run_pure] at hr;simp only [execOp,ho,Sem.run_bind,Sem.run_pure,if_true];generalize (Instr.mapUpdate t (ρ m) (ρ k) (ρ x)).run P w=q at hr ⊢
  cases q <;> simp_all [Result.andThen]
 case h_6 t m k x ho=>
  simp only [Option.some.injEq,Prod.mk.injEq] at h;obtain ⟨rfl,rfl,rfl,rfl⟩:=h;simp only [List.map_cons,List.map_nil,Sem.run_bind,Sem.run_pure] at hr;simp only [execOp,ho,Sem.run_bind,Sem.run_pure,if_true];generalize (Instr.mapUpdate t (ρ m) (ρ k) (ρ x)).run P w=q at hr ⊢
  cases q <;> simp_all [Result.andThen]
 all_goals
  (try split at h)
  all_goals first
   | cases h; done
   | (rename_i ho _ _ _
      simp only [Option.some.injEq,Prod.mk.injEq] at h;obtain ⟨rfl,rfl,rfl,rfl⟩:=h;simp only [List.map_cons,List.map_nil] at hr;simp [execOp,ho,hr]
      done)
   | (rename_i ho
      simp only [Option.some.injEq,Prod.mk.injEq] at h;obtain ⟨rfl,rfl,rfl,rfl⟩:=h;simp only [List.map_cons,List.map_nil] at hr;simp [execOp,ho,hr])
def O7 (w:World) (b:Nat) (s:ByteArray) (p:Nat):World:={ w with heap:=w.heap.setIfInBounds b (.stringIter s p) }
def zro (C:Vj) (S:St) (w:World) (o:Oper) (pc:List (Nat×Bool)) (K:St->World->Prop):Prop:=
 match o.op with
 | .alloc t=>match C.T t with
  | some ty=>bif ty.ks.contains .other then False
   else match o.dst with
    | some d=>bif OU C.vis d then Ds C S w o.dst t (ty.ks.map zv) (fun b=>.el (some ⟨b,0,none⟩) 0) K else Nr C S w o.dst t (ty.ks.map zv) (fun i=>.loc i 0) K
    | none=>False
  | none=>False
 | .box t x=>match Kn S pc x with
  | some v=>match o.dst with
    | some d=>bif OU C.vis d then Ds C S w o.dst t v.cells.toList (fun b=>.el (some ⟨b,0,none⟩) 0) K else Nr C S w o.dst t v.cells.toList (fun i=>.loc i 0) K
    | none=>False
  | none=>False
 | .buildSlice t n parts=>match C.T t,LK S pc (parts.toList.map (·.2)) with
  | some { agg:=_,ks:=_,d:=.slice e z },some vs=>match C.T e,TM z parts.toList 0 vs with
   | some _,some cells=>bif Nat.beq n vs.length&&Nat.blt 0 z&&Nat.blt 0 n&&Nat.blt (n*z) 16777216 then
     (match o.dst with
      | some d=>bif OU C.vis d then Ds C S w o.dst e cells (fun b=>.v (.slice (some ⟨b,0,none⟩) n n)) K else Nr C S w o.dst e cells (fun i=>.ls i n) K
      | none=>False)
    else False
   | _,_=>False
  | _,_=>False
 | .store t x y=>match C.T t,Ac S pc x,Kn S pc y with
  | some ty,some (.loc id off),some v=>match S.L[id]? with
   | some (t',cs)=>bif Nat.beq v.cells.toList.length ty.ks.length&&Nat.ble (off+v.cells.toList.length) cs.length&&Zd v.cells.toList && !OU S.lk id then
     K { S with L:=S.L.set id (t',cs.take off++v.cells.toList++cs.drop (off+v.cells.toList.length)) } w
    else False
   | none=>False
  | some ty,some (.le id i m),some v=>match S.L[id]? with
   | some (t',cs)=>bif Nat.beq v.cells.toList.length ty.ks.length&&Nat.beq v.cells.toList.length 1&&Zd [v] && !OU S.lk id then
     (i.toNat+m<cs.length)/\zde (cs.map zs6) fun vs=>cs.set (i.toNat+m) v=vs/\K { S with L:=S.L.set id (t',vs) } w
    else False
   | none=>False
  | some ty,some (.el ob n),some v=>bif Nat.beq v.cells.toList.length ty.ks.length&&Zd v.cells.toList && !C.pm&&Nat.blt 0 ty.ks.length then
    Xg S.bs w ob n v.cells.toList.length/\K S (sto w ob n v.cells.toList)
   else False
  | some ty,some (.v (.pointer ob)),some v=>bif Nat.beq v.cells.toList.length ty.ks.length&&Zd v.cells.toList && !C.pm&&Nat.blt 0 ty.ks.length then
    Xg S.bs w ob 0 v.cells.toList.length/\K S (sto w ob 0 v.cells.toList)
   else False
  | _,_,_=>False
 | .call { callee:=.value (.func f),args:=args,argTypes:=_ }=>match ze6 C.ef f,LK S pc args.toList with
  | some rks,some vs=>bif C.pm then False else ∀wr,Q0 S.bs w wr->(∀b∈S.B,b<wr.heap.size)->XB S wr (zd1 S pc args.toList)
    (Calls C.P f vs.toArray wr fun e w'=>KT rks fun r=>e = .returned r/\Q9 S.B wr w'/\LU C S.aged o.dst (.un (.v r)) fun S'=>K S' w')
  | _,_=>False
 | .call { callee:=.builtin bi,args:=args,argTypes:=ts }=>match LK S pc args.toList with
  | some vs=>bif C.pm then False else ∀wr,Q0 S.bs w wr->(∀b∈S.B,b<wr.heap.size)->XB S wr (zd1 S pc args.toList)
    (KT (ztg bi) fun r=>∃w',(builtin bi ts o.type (zkz args) vs.toArray).run C.P wr = .ok (.value r) w'/\Q9 S.B wr w'/\LU C S.aged o.dst (.un (.v r)) fun S'=>K S' w')
  | none=>False
 | .call { callee:=.value (.tmp t),args:=args,argTypes:=_ }=>match Kn S pc (.tmp t),LK S pc args.toList,zsg C o.type with
  | some v,some vs,some rks=>bif C.pm then False else ∀wr,Q0 S.bs w wr->(∀b∈S.B,b<wr.heap.size)->XB S wr (zd1 S pc args.toList)
    (zc2 C.P v vs wr fun e w'=>KT rks fun r=>e = .returned r/\Q9 S.B wr w'/\LU C S.aged o.dst (.un (.v r)) fun S'=>K S' w')
  | _,_,_=>False
 | .call { callee:=.invoke rc m,args:=args,argTypes:=_ }=>match Kn S pc rc,LK S pc args.toList,zsg C o.type with
  | some v,some vs,some rks=>bif C.pm then False else ∀wr,Q0 S.bs w wr->(∀b∈S.B,b<wr.heap.size)->XB S wr (zd1 S pc args.toList)
    (∃(f:FuncId) (as0:Array Value),(zpx m v vs).run C.P wr = .ok (.enter f as0) wr/\Calls C.P f as0 wr fun e w'=>KT rks fun r=>e = .returned r/\Q9 S.B wr w'/\LU C S.aged o.dst (.un (.v r)) fun S'=>K S' w')
  | _,_,_=>False
 | .next it true=>match Kn S pc it with
  | some (.pointer ob)=>bif C.pm then False else ∀wr,Q0 S.bs w wr->(∀b∈S.B,b<wr.heap.size)->
    ∃(b:Nat) (s:ByteArray) (pos:Nat),ob=some ⟨b,0,none⟩/\b∉S.B/\wr.heap[b]? = some (.stringIter s pos)/\
     (s.size<=pos->LU C S.aged o.dst (.un (.v (.tuple #[.bool false]))) fun S'=>K S' wr)/\
     (pos<s.size->LU C S.aged o.dst (.un (.v (.tuple #[.bool true,.int .i64 pos,.int .i32 (Utf8.decode s pos).1]))) fun S'=>K S' (O7 wr b s (pos+(Utf8.decode s pos).2)))
  | _=>False
 | _=>match zcf C o with
  | some (xs,rk,u,f)=>match LK S pc xs with
   | some vs=>bif C.pm then False else ∀wr,Q0 S.bs w wr->(∀b∈S.B,b<wr.heap.size)->
     (bif u then (match o.dst with
      | none=>∃w',(f vs).run C.P wr = .ok undef w'/\Q9 S.B wr w'/\K S.aged w'
      | some _=>False)
     else KT rk fun r=>∃w',(f vs).run C.P wr = .ok r w'/\Q9 S.B wr w'/\LU C S.aged o.dst (.un (.v r)) fun S'=>K S' w')
   | none=>False
  | none=>False
structure OH (S S':St):Prop where
 B:∀(id b:Nat),S.B[id]? = some b->S'.B[id]? = some b
 ty:∀(id:Nat) (t:TypeId) (cs:List Value),S.L[id]? = some (t,cs)->∃cs':List Value,S'.L[id]? = some (t,cs')
 lk:∀id∈S.lk,id∈S'.lk/\S'.L[id]? = S.L[id]?
theorem OH.refl (S:St):OH S S:=⟨fun _ _ h=>h,fun _ _ cs h=>⟨cs,h⟩,fun _ h=>⟨h,rfl⟩⟩
theorem OH.trans {S S' S'':St} (h:OH S S') (k:OH S' S''):OH S S'':=
 ⟨fun id b hb=>k.B id b (h.B id b hb),fun id t cs hc=>(let ⟨cs1,h1⟩:=h.ty id t cs hc; k.ty id t cs1 h1),fun id hi=>⟨(k.lk id (h.lk id hi).1).1,((k.lk id (h.lk id hi).1).2).trans (h.lk id hi).2⟩⟩
theorem OH.putF {S S':St} (h:OH S S') (d:Option Tmp) (sv:SV):OH S (S'.putF d sv):=by
 cases d <;> exact ⟨h.B,h.ty,h.lk⟩
theorem Z7.putF {S:St} {w wr:World} (h:Z7 S w wr) (d:Option Tmp) (sv:SV):Z7 (S.putF d sv) w wr:=by
 cases d <;> exact ⟨h.ext,h.loc,h.len,h.dist,h.fresh⟩
theorem Ph {l:List Nat} {x:Nat} (h:OU l x=false):x∉l:=by
 intro hx;have:OU l x=true:=by simp only [OU,List.any_eq_true]; exact ⟨x,hx,Nat.beq_refl x⟩
 rw [h] at this; cases this
structure Mo (S:St):Prop where
 old:S.old<=S.B.length
 lk:∀id∈S.lk,id<S.L.length
theorem Mo.putF {S:St} (h:Mo S) (d:Option Tmp) (sv:SV):Mo (S.putF d sv):=by
 cases d <;> exact ⟨h.old,h.lk⟩
theorem Mo.aged {S:St} (h:Mo S):Mo S.aged:=⟨Nat.le_refl _,h.lk⟩
theorem Z7.push {S:St} {w wr:World} (h:Z7 S w wr) (ho:S.old<=S.B.length) (t:TypeId) (cells:List Value) :
  Z7 { S with L:=S.L++[(t,cells)],B:=S.B++[wr.heap.size] } w (wr.alloc (.cells cells.toArray t)):=by
 have hlt:∀b∈S.B,b<wr.heap.size:=fun b hb=>by
  obtain ⟨id,hid⟩:=List.getElem?_of_mem hb;have hl:id<S.L.length:=by rw [h.len]; exact (List.getElem?_eq_some_iff.1 hid).1
  obtain ⟨b',hb',hh⟩:=h.loc id (S.L[id]).1 (S.L[id]).2 (by rw [List.getElem?_eq_getElem hl]);rw [hid] at hb'; cases hb';exact FT hh
 have hbs:(S.B++[wr.heap.size]).take S.old=S.B.take S.old:=List.take_append_of_le_length ho;refine ⟨?_,fun id t' cs hl => ?_,by simp [h.len],?_,fun id b hid hb => ?_⟩
 ·show Q0 ((S.B++[wr.heap.size]).take S.old) w _;rw [hbs]; exact h.ext.alloc _
 ·by_cases hi:id<S.L.length
  ·have hl':S.L[id]? = some (t',cs):=by rw [<-hl]; exact (List.getElem?_append_left hi).symm
   obtain ⟨b,hb,hh⟩:=h.loc id t' cs hl';refine ⟨b,?_,(Below.heap_alloc wr _ b (FT hh)).trans hh⟩;show (S.B++[wr.heap.size])[id]? = some b;rw [List.getElem?_append_left (by rw [<-h.len]; exact hi)]; exact hb
  ·have hi':id=S.L.length:=by
    have:id<(S.L++[(t,cells)]).length:=(List.getElem?_eq_some_iff.1 hl).1;simp at this; omega
   subst hi';simp only [List.getElem?_concat_length,Option.some.injEq,Prod.mk.injEq] at hl;obtain ⟨rfl,rfl⟩:=hl;refine ⟨wr.heap.size,?_,heap_alloc_new wr _⟩;show (S.B++[wr.heap.size])[S.L.length]? = _;rw [h.len]; simp
 ·refine List.nodup_append.2 ⟨h.dist,by simp,fun x hx y hy => ?_⟩;simp only [List.mem_singleton] at hy;subst hy;have:=hlt x hx;omega
 ·have hb':(S.B++[wr.heap.size])[id]? = some b:=hb
  by_cases hi:id<S.B.length
  ·rw [List.getElem?_append_left hi] at hb';exact h.fresh id b hid hb'
  ·have:id=S.B.length:=by
    have:id<(S.B++[wr.heap.size]).length:=(List.getElem?_eq_some_iff.1 hb').1;simp at this; omega
   subst this;simp at hb';subst hb';exact h.ext.size
theorem Z7.age {S:St} {w wr wr':World} (h:Z7 S w wr) (hk:Q9 S.B wr wr'):Z7 S.aged wr' wr':=
 ⟨Q0.refl _ _,fun id t cs hl=>by
  obtain ⟨b,hb,hh⟩:=h.loc id t cs hl;exact ⟨b,hb,(hk b (List.mem_of_getElem? hb)).trans hh⟩,h.len,h.dist,fun id b hid hb=>by
  have:id<S.B.length:=(List.getElem?_eq_some_iff.1 hb).1;simp only [St.aged] at hid;omega⟩
theorem Z7.lt {S:St} {w wr:World} (h:Z7 S w wr):∀b∈S.B,b<wr.heap.size:=fun b hb=>by
 obtain ⟨id,hid⟩:=List.getElem?_of_mem hb;have hl:id<S.L.length:=by rw [h.len]; exact (List.getElem?_eq_some_iff.1 hid).1
 obtain ⟨b',hb',hh⟩:=h.loc id (S.L[id]).1 (S.L[id]).2 (by rw [List.getElem?_eq_getElem hl]);rw [hid] at hb'; cases hb';exact FT hh
theorem Z7.ndup {S:St} {w wr:World} (h:Z7 S w wr) {i j b:Nat} (hi:S.B[i]? = some b) (hj:S.B[j]? = some b):i=j:=by
 obtain ⟨h1l,h1e⟩:=List.getElem?_eq_some_iff.1 hi;obtain ⟨h2l,h2e⟩:=List.getElem?_eq_some_iff.1 hj;have hp:=List.pairwise_iff_getElem.1 h.dist;rcases Nat.lt_trichotomy i j with hlt | heq | hgt
 ·exact absurd (h1e.trans h2e.symm) (hp i j h1l h2l hlt)
 ·exact heq
 ·exact absurd (h2e.trans h1e.symm) (hp j i h2l h1l hgt)
theorem zc0 {P:Program} {T:TypeId->Option Ty} (hT:zkb P T) {t:TypeId} {ty:Ty} (ht:T t=some ty) (hno:ty.ks.contains .other=false) :
  ∃i z,P.info? t=some i/\i.zero=some z/\z.cells=(ty.ks.map zv).toArray:=by
 obtain ⟨i,z,hi,hz,_,hks⟩:=(hT.facts ht).info;refine ⟨i,z,hi,hz,?_⟩
 have h0:∀(l:List Value),(l.map Ou).contains .other=false->(l.map Ou).map zv=l:=by
  intro l
  induction l with
  | nil=>intro _; rfl
  | cons x r ih=>
   intro hc;simp only [List.map_cons,List.contains_cons,Bool.or_eq_false_iff] at hc;have hx:Ou x≠.other:=by intro e; rw [e] at hc; simp at hc
   simp only [List.map_cons,ih hc.2,<-za9 hx]
 have h1:=h0 z.cells.toList (by rw [hks]; exact hno);rw [hks] at h1;rw [h1,Array.toArray_toList]
theorem EV.den_mono {S S':St} (h:FN S S'):∀{e:EV} {u:Value},EV.den S e u->EV.den S' e u
 | .v _,_,h'=>h'
 | .el _ _,_,h'=>h'
 | .loc _ _,_,⟨b,hb,h'⟩=>⟨b,h _ _ hb,h'⟩
 | .ls _ _,_,⟨b,hb,h'⟩=>⟨b,h _ _ hb,h'⟩
 | .le _ _ _,_,⟨b,hb,h'⟩=>⟨b,h _ _ hb,h'⟩
 | .no,_,h'=>h'
 | .kb _,_,h'=>h'
theorem OG.mono {n:Nat} {S S':St} {ops:Array Oper} {D:Nat->Prop} {a:Act} (h:OG n S ops D a) (hl:FN S S') (hF:S'.F=S.F) (hr:S'.r=S.r):OG n S' ops D a:=
 ⟨⟨h.fit.size,fun i s hs=>by
  rw [hF] at hs;have:=h.fit.fits i s hs
  cases s with
  | un x=>exact EV.den_mono hl this
  | gd r pc x=>
   intro hrr;rw [hr] at hrr;have h1:=this hrr;exact ⟨fun hp=>EV.den_mono hl (h1.1 hp),h1.2⟩⟩,fun i pc x hx=>by rw [hF,hr] at hx; exact h.dn i pc x hx,fun i r pc x hx=>by rw [hF] at hx; rw [hr]; exact h.st i r pc x hx⟩
def zcn (cs:List Value):Nat->List Value->List Value
 | _,[]=>cs
 | k,v::r=>zcn (cs.set k v) (k+1) r
theorem Kt:∀(vs cs:List Value) (k:Nat),k+vs.length<=cs.length->zcn cs k vs=cs.take k++vs++cs.drop (k+vs.length)
 | [],cs,k,_=>by simp [zcn]
 | v::r,cs,k,h=>by
  simp only [zcn,List.length_cons] at *;rw [Kt r (cs.set k v) (k+1) (by simp; omega)];have hk:k<cs.length:=by omega
  rw [List.take_succ_eq_append_getElem (by simpa using hk),List.getElem_set_self,List.take_set_of_le (Nat.le_refl _),List.drop_set_of_lt (by omega)];simp [Nat.add_assoc,Nat.add_comm 1]
theorem LY:∀(vs:List Value) (w:World) (b k n:Nat) (cs:List Value) (t:TypeId) (fz:Nat×Nat),w.heap[b]? = some (.cells cs.toArray t fz)->
  (stoL w ⟨b,k,none⟩ n vs).heap[b]? = some (.cells (zcn cs (k+n) vs).toArray t fz)
 | [],_,_,_,_,_,_,_,h=>h
 | v::r,w,b,k,n,cs,t,fz,h=>by
  simp only [stoL,zcn];refine LY r _ b k (n+1) (cs.set (k+n) v) t fz ?_;rw [Addr.add_lit];simp only [World.setCell,Array.getElem?_modify,if_true,h,Option.map_some,Option.isSome_none,Bool.false_eq_true,if_false];simp
structure zkg (C:Vj) (S:St) (w:World) (o:Oper) (a:Act) (K:St->World->Prop) (N:Act->World->Prop):Prop where
 go:∀(S1:St) (w' wr':World) (e:EV) (v:Value),OH S S1->S1.F=S.F->S1.r=S.r->Mo S1->Z7 S1 w' wr'->(C.pm=true->w'=w/\S1.old=S.old)->EV.den S1 e v->(∀x,o.dst=some x->x<C.n/\x<4000)->K (S1.putF o.dst (.un e)) w'->N (a.put o.dst v) wr'
theorem zb8 {C:Vj} {S:St} {w:World} {o:Oper} {a:Act} {K:St->World->Prop} {N:Act->World->Prop} (hN:zkg C S w o a K N) {wr:World} (hw:Z7 S w wr)
  (hwf:Mo S) {t:TypeId} {cells:List Value} {e:Nat->EV} (h:Nr C S w o.dst t cells e K) {v:Value}
  (hv:EV.den { S with L:=S.L++[(t,cells)],B:=S.B++[wr.heap.size] } (e S.L.length) v):N (a.put o.dst v) (wr.alloc (.cells cells.toArray t)):=by
 obtain ⟨h1,h2⟩:=Y6 (h wr.heap.size hw.ext.size);refine hN.go { S with L:=S.L++[(t,cells)],B:=S.B++[wr.heap.size] } w _ (e S.L.length) v ⟨fun id b hb => ?_,fun id t' cs hc=>⟨cs,?_⟩,fun id hi=>⟨hi,?_⟩⟩ rfl rfl ⟨by simp; have:=hwf.old; omega,fun id hi=>by have:=hwf.lk id hi; simp; omega⟩ (hw.push hwf.old t cells) (fun _=>⟨rfl,rfl⟩) hv h2 h1
 ·show (S.B++[wr.heap.size])[id]? = some b;rw [List.getElem?_append_left (List.getElem?_eq_some_iff.1 hb).1]; exact hb
 ·show (S.L++[(t,cells)])[id]? = some (t',cs);rw [List.getElem?_append_left (List.getElem?_eq_some_iff.1 hc).1]; exact hc
 ·exact List.getElem?_append_left (hwf.lk id hi)
theorem zb9 {C:Vj} {S:St} {w:World} {o:Oper} {a:Act} {K:St->World->Prop} {N:Act->World->Prop} (hN:zkg C S w o a K N) {wr:World} (hw:Z7 S w wr)
  (hwf:Mo S) {t:TypeId} {cells:List Value} {e:Nat->EV} (h:Ds C S w o.dst t cells e K) {v:Value}
  (hv:EV.den S.aged (e wr.heap.size) v):N (a.put o.dst v) (wr.alloc (.cells cells.toArray t)):=by
 have hlt:=hw.lt;unfold Ds at h
 have hpm:C.pm=false:=by
  cases hp:C.pm with
  | false=>rfl
  | true=>rw [hp] at h; exact h.elim
 rw [hpm] at h;simp only [cond_false] at h;obtain ⟨h1,h2⟩:=Y6 (h wr.heap.size (wr.alloc (.cells cells.toArray t)) (hw.ext.alloc _) hw.ext.size (heap_alloc_new wr _) (fun hb=>by have:=hlt _ hb; omega));exact hN.go S.aged _ _ _ v ⟨fun _ _ h=>h,fun _ _ cs h=>⟨cs,h⟩,fun id hi=>⟨hi,rfl⟩⟩ rfl rfl hwf.aged (hw.age fun b hb=>Below.heap_alloc wr _ b (hlt b hb)) (fun hp=>by rw [hpm] at hp; cases hp) hv h2 h1
theorem KR {z:Nat} (hz:0<z):∀{ps:List (Nat×Operand)} {k:Nat} {vs cells:List Value},TM z ps k vs=some cells->ps.length=vs.length/\cells.length=vs.length*z/\
  ∀(pre:List Value),pre.length=k*z->∀(init:List Value),init.length=vs.length*z->
   Instr.fill (fun i=>some (i*z,z)) (pre++init).toArray ((ps.map (·.1)).zip vs)=some (pre++cells).toArray
 | [],k,[],cells,h=>by
  simp only [TM,Option.some.injEq] at h; subst h;refine ⟨rfl,by simp,fun pre _ init hi => ?_⟩;have:init=[]:=List.eq_nil_of_length_eq_zero (by simpa using hi);subst this;simp [Instr.fill]
 | (i,x)::ps,k,v::vs,cells,h=>by
  simp only [TM] at h
  cases hb:(Nat.beq i k&&Nat.beq v.cells.toList.length z) with
  | false=>rw [hb] at h; cases h
  | true=>
   rw [hb] at h;simp only [cond_true] at h;simp only [Bool.and_eq_true] at hb;have e1:i=k:=Nat.eq_of_beq_eq_true hb.1;have e2:v.cells.toList.length=z:=Nat.eq_of_beq_eq_true hb.2;subst e1
   split at h
   ·rename_i l hl;simp only [Option.some.injEq] at h; subst h;obtain ⟨h1,h2,h3⟩:=KR hz hl;refine ⟨by simp [h1],by simp [h2,e2,Nat.add_mul]; omega,fun pre hp init hi => ?_⟩;have hsz:v.cells.size=z:=by simpa using e2
    have hvl:(v::vs).length*z=z+vs.length*z:=by simp [Nat.add_mul,Nat.add_comm]
    rw [hvl] at hi
    have hc:(decide (v.cells.size≠z)||decide (i*z+v.cells.size>(pre++init).toArray.size))=false:=by
     simp only [hsz,List.size_toArray,List.length_append,hp,hi];simp
    simp only [List.map_cons,List.zip_cons_cons,Instr.fill];rw [hc];simp only [Bool.false_eq_true,if_false]
    have hfold:∀(l:List Value) (j:Nat) (arr:List Value),(l.zipIdx j).foldl (fun cs (c,j)=>cs.setIfInBounds (i*z+j) c) arr.toArray=(zcn arr (i*z+j) l).toArray:=by
     intro l
     induction l with
     | nil=>intro j arr; rfl
     | cons c l ih=>
      intro j arr;simp only [List.zipIdx_cons,List.foldl_cons,zcn];rw [show (arr.toArray.setIfInBounds (i*z+j) c)=(arr.set (i*z+j) c).toArray by simp];exact ih (j+1) _
    have hz2:(v.cells.zipIdx.foldl (fun cs (c,j)=>cs.setIfInBounds (i*z+j) c) (pre++init).toArray)=(pre++v.cells.toList++init.drop z).toArray:=by
     rw [<-Array.foldl_toList,Array.toList_zipIdx];rw [hfold v.cells.toList 0 (pre++init),Kt _ _ _ (by simp [hp,hi,hsz])];have t1:(pre++init).take (i*z)=pre:=by rw [<-hp]; exact List.take_left
     have t2:(pre++init).drop (i*z+z)=init.drop z:=by rw [<-hp,List.drop_append]; simp
     simp only [Nat.add_zero,e2,t1,t2]
    rw [hz2];have:=h3 (pre++v.cells.toList) (by simp [hp,hsz,Nat.add_mul]) (init.drop z) (by simp [hi])
    simpa using this
   ·cases h
 | [],_,_::_,_,h=>by simp [TM] at h
 | (_,_)::_,_,[],_,h=>by simp [TM] at h
theorem NW {P:Program} (t:TypeId) (v:Value) (w:World):(newVar t v).run P w = .ok ⟨w.heap.size,0,none⟩ (w.alloc (.cells v.cells t)):=by
 simp [newVar,newRow]
theorem Z7.storeLoc {S:St} {w wr:World} (h:Z7 S w wr) {id b off:Nat} {t:TypeId} {cs vs:List Value} (hl:S.L[id]? = some (t,cs)) (hb:S.B[id]? = some b) (hlen:off+vs.length<=cs.length) (hold:S.old<=S.B.length) :
  Z7 { S with L:=S.L.set id (t,cs.take off++vs++cs.drop (off+vs.length)) } w (stoL wr ⟨b,off,none⟩ 0 vs):=by
 obtain ⟨b',hb',hh⟩:=h.loc id t cs hl;rw [hb] at hb'; cases hb';have hid:id<S.L.length:=(List.getElem?_eq_some_iff.1 hl).1
 have hmem:b∈S.bs\/w.heap.size<=b:=by
  by_cases ho:S.old<=id
  ·exact .inr (h.fresh id b ho hb)
  ·refine .inl ?_;have:(S.B.take S.old)[id]? = some b:=by rw [List.getElem?_take,if_pos (by omega)]; exact hb
   exact List.mem_of_getElem? this
 obtain ⟨r1,r2,r3⟩:=Kv vs wr ⟨b,off,none⟩ 0;refine ⟨⟨r1.trans h.ext.os,r2.trans h.ext.tape,r3.trans h.ext.output,by rw [TK]; exact h.ext.size,fun k hk hnb => ?_⟩,fun id' t' cs' hl' => ?_,by simp [h.len],h.dist,h.fresh⟩
 ·refine (VR vs wr ⟨b,off,none⟩ 0 k ?_).trans (h.ext.block k hk hnb);rintro rfl;rcases hmem with hm | hm
  ·exact hnb hm
  ·exact Nat.lt_irrefl _ (Nat.lt_of_lt_of_le hk hm)
 ·by_cases he:id=id'
  ·subst he;simp only [List.getElem?_set_self hid,Option.some.injEq,Prod.mk.injEq] at hl';obtain ⟨rfl,rfl⟩:=hl';refine ⟨b,hb,?_⟩;rw [LY vs wr b off 0 cs _ _ hh,Nat.add_zero,Kt _ _ _ hlen]
  ·have hl2:S.L[id']? = some (t',cs'):=by rw [<-hl']; exact (List.getElem?_set_ne he).symm
   obtain ⟨b2,hb2,hh2⟩:=h.loc id' t' cs' hl2;refine ⟨b2,hb2,?_⟩
   rw [VR vs wr ⟨b,off,none⟩ 0 b2 (by
    show b2≠b;rintro rfl;exact he (h.ndup hb hb2))]
   exact hh2
theorem Z7.storeOut {S:St} {w wr:World} (h:Z7 S w wr) {a:Addr} {n:Nat} {vs:List Value} (hb:a.block∉S.bs) (hlt:a.block<w.heap.size):Z7 S (stoL w a n vs) (stoL wr a n vs):=by
 obtain ⟨r1,r2,r3⟩:=Kv vs wr a n;obtain ⟨q1,q2,q3⟩:=Kv vs w a n;refine ⟨⟨by rw [r1,q1]; exact h.ext.os,by rw [r2,q2]; exact h.ext.tape,by rw [r3,q3]; exact h.ext.output,by rw [TK,TK]; exact h.ext.size,fun k hk hnb => ?_⟩,fun id t cs hl => ?_,h.len,h.dist,fun id b ho hid=>by rw [TK]; exact h.fresh id b ho hid⟩
 ·rw [TK] at hk;have he:=h.ext.block k hk hnb
  by_cases hka:k=a.block
  ·subst hka; exact zae vs wr w a n he
  ·rw [VR vs wr a n k hka,VR vs w a n k hka]; exact he
 ·obtain ⟨b,hid,hh⟩:=h.loc id t cs hl;refine ⟨b,hid,?_⟩;rw [VR vs wr a n b]
  ·exact hh
  ·rintro rfl
   by_cases ho:S.old<=id
   ·have:=h.fresh id _ ho hid; omega
   ·refine hb (List.mem_of_getElem? (i:=id) ?_);show (S.B.take S.old)[id]? = _;rw [List.getElem?_take,if_pos (by omega)]; exact hid
theorem Xg.run {P:Program} {S:St} {w wr:World} (h:Z7 S w wr) {ob:OA} {n:Nat} {vs:List Value} (hx:Xg S.bs w ob n vs.length) (hpos:0<vs.length) (h1:Zd vs=true) {a:Addr} (ho:ob=some a) :
  (storeCells (a.add n) vs 0).run P wr = .ok () (stoL wr (a.add n) 0 vs)/\a.block∉S.bs/\a.block<w.heap.size:=by
 obtain ⟨a',ha,hb,hc⟩:=hx;rw [ho] at ha; cases ha;obtain ⟨⟨u,hu⟩,_⟩:=hc n (Nat.le_refl _) (by omega);have hlt:a.block<w.heap.size:=by have:=World.block_lt_of_cell? w _ hu; rwa [Zy] at this
 refine ⟨U9 vs wr (a.add n) 0 (JV h1) fun j _ hj => ?_,hb,hlt⟩;obtain ⟨⟨u',hu'⟩,hf'⟩:=hc (n+j) (by omega) (by omega);have he:=h.ext.block a.block hlt hb;rw [JP];refine ⟨⟨u',?_⟩,?_⟩
 ·rw [<-hu']; exact World.cell?_of_block (w:=w) (by rw [Zy]; exact he)
 ·rw [<-hf']; exact frozen?_of_block (by rw [Zy]; exact he)
theorem A2:∀(vs:List Value) (w:World) (a:Addr) (n k:Nat),stoL w (a.add n) k vs=stoL w a (n+k) vs
 | [],_,_,_,_=>rfl
 | v::r,w,a,n,k=>by
  simp only [stoL,JP];exact A2 r _ a n (k+1)
theorem zcp {P:Program} {T:TypeId->Option Ty} (hT:zkb P T) {t:TypeId} {ty:Ty} (ht:T t=some ty) {a:Addr} {v:Value} (hl:v.cells.toList.length=ty.ks.length) {w w':World}
  (h:(storeCells a v.cells.toList).run P w = .ok () w'):(storeVar t a v).run P w = .ok () w':=by
 obtain ⟨i,z,hi,_,hsz,_⟩:=(hT.facts ht).info;have hn:¬v.cells.size≠ty.ks.length:=by simpa using hl
 simp only [storeVar,Sem.run_bind,ZR hi,Result.andThen_ok,hsz,Sem.run_ite,if_neg hn,Sem.run_pure,h]
theorem zjn (parts:Array (Nat×Operand)) (f:Operand->Value):(parts.map fun (i,x)=>(i,f x)).toList=(parts.toList.map (·.1)).zip ((parts.toList.map (·.2)).map f):=by
 have:(parts.map fun (i,x)=>(i,f x)).toList=parts.toList.map fun (i,x)=>(i,f x):=by simp
 rw [this];generalize parts.toList=q
 induction q with
 | nil=>rfl
 | cons y q ih=>simp [ih]
theorem Nn {C:Vj} {S:St} {w:World} {o:Oper} {a:Act} {K:St->World->Prop} {N:Act->World->Prop} (hN:zkg C S w o a K N) {wr:World} (hw:Z7 S w wr)
  (hwf:Mo S) {t:TypeId} {cells:List Value} {e1 e2:Nat->EV} {v:Value}
  (h:match o.dst with
   | some d=>bif OU C.vis d then Ds C S w o.dst t cells e1 K else Nr C S w o.dst t cells e2 K
   | none=>False)
  (h1:EV.den S.aged (e1 wr.heap.size) v) (h2:EV.den { S with L:=S.L++[(t,cells)],B:=S.B++[wr.heap.size] } (e2 S.L.length) v):N (a.put o.dst v) (wr.alloc (.cells cells.toArray t)):=by
 split at h
 ·rename_i d hd
  cases hm:OU C.vis d with
  | true=>
   rw [hm] at h;simp only [cond_true] at h;exact zb9 hN hw hwf h h1
  | false=>
   rw [hm] at h;simp only [cond_false] at h;exact zb8 hN hw hwf h h2
 ·exact h.elim
theorem zq6 {S:St} {w wr:World} (hw:Z7 S w wr) (b:Nat):(S.B++[b])[S.L.length]? = some b:=by rw [hw.len]; simp
theorem OD {Q:Exit->Act->World->Prop} {C:Vj} {S:St} {w wr:World} {a:Act} {K:St->World->Prop} {N:Act->World->Prop} {o:Oper} (hdn:o.dst=none) (hN:zkg C S w o a K N) (hw:Z7 S w wr) (hwf:Mo S)
  (hT:zkb C.P C.T) {t:TypeId} {x y:Operand} (ho:o.op = .store t x y) {ty:Ty} (ht:C.T t=some ty) {e:EV} (hx:EV.den S e (a.eval x)) {v:Value} (hy:a.eval y=v)
  (h:match e with
   | .loc id off=>match S.L[id]? with
    | some (t',cs)=>bif Nat.beq v.cells.toList.length ty.ks.length&&Nat.ble (off+v.cells.toList.length) cs.length&&Zd v.cells.toList && !OU S.lk id then
      K { S with L:=S.L.set id (t',cs.take off++v.cells.toList++cs.drop (off+v.cells.toList.length)) } w
     else False
    | none=>False
   | .le id i m=>match S.L[id]? with
    | some (t',cs)=>bif Nat.beq v.cells.toList.length ty.ks.length&&Nat.beq v.cells.toList.length 1&&Zd [v] && !OU S.lk id then
      (i.toNat+m<cs.length)/\zde (cs.map zs6) fun vs=>cs.set (i.toNat+m) v=vs/\K { S with L:=S.L.set id (t',vs) } w
     else False
    | none=>False
   | .el ob n=>bif Nat.beq v.cells.toList.length ty.ks.length&&Zd v.cells.toList && !C.pm&&Nat.blt 0 ty.ks.length then
     Xg S.bs w ob n v.cells.toList.length/\K S (sto w ob n v.cells.toList)
    else False
   | .v (.pointer ob)=>bif Nat.beq v.cells.toList.length ty.ks.length&&Zd v.cells.toList && !C.pm&&Nat.blt 0 ty.ks.length then
     Xg S.bs w ob 0 v.cells.toList.length/\K S (sto w ob 0 v.cells.toList)
    else False
   | _=>False):o.uponIn (Lz C.rd) 0 C.P a N Q ((execOp a.eval o).run C.P wr):=by
 have hgo:∀(S1:St) (w' wr':World),OH S S1->S1.F=S.F->S1.r=S.r->Mo S1->Z7 S1 w' wr'->(C.pm=true->w'=w/\S1.old=S.old)->K S1 w'->N (a.put o.dst undef) wr':=fun S1 w' wr' h1 h2 h3 h4 h5 h7 h6=>
  hN.go S1 w' wr' (.v undef) undef h1 h2 h3 h4 h5 h7 rfl (fun x hx=>by rw [hdn] at hx; cases hx) (by rw [hdn]; exact h6)
 have hrun:∀{ad:Addr} {w':World},a.eval x = .pointer (some ad)->v.cells.toList.length=ty.ks.length->(storeCells ad v.cells.toList).run C.P wr = .ok () w'->(execOp a.eval o).run C.P wr = .ok .skip w':=fun {ad w'} h1 h2 h3=>by
  have:=zcp hT ht h2 h3;simp [execOp,ho,h1,hy,Instr.storeAt,Instr.sureAddr,this]
 have hset:∀{id:Nat} {t':TypeId} {cs r:List Value},S.L[id]? = some (t',cs)->OU S.lk id=false->OH S { S with L:=S.L.set id (t',r) }:=fun {id t' cs r} hl hm=>
  ⟨fun _ _ h=>h,fun id' t2 cs2 h2=>by
   show ∃cs',(S.L.set id (t',r))[id']? = some (t2,cs')
   by_cases he:id=id'
   ·subst he;rw [hl] at h2;cases h2;exact ⟨r,List.getElem?_set_self (List.getElem?_eq_some_iff.1 hl).1⟩
   ·exact ⟨cs2,by rw [List.getElem?_set_ne he]; exact h2⟩,fun id' hi=>⟨hi,by
   show (S.L.set id (t',r))[id']? = _;exact List.getElem?_set_ne (by rintro rfl; exact Ph hm hi)⟩⟩
 cases e with
 | loc id off=>
  obtain ⟨b,hb,hxp⟩:=hx
  dsimp only at h
  split at h
  ·rename_i t' cs hl
   cases hc:(Nat.beq v.cells.toList.length ty.ks.length&&Nat.ble (off+v.cells.toList.length) cs.length&&Zd v.cells.toList && !OU S.lk id) with
   | false=>rw [hc] at h; exact h.elim
   | true=>
    rw [hc] at h;simp only [cond_true] at h;simp only [Bool.and_eq_true,Bool.not_eq_true'] at hc;obtain ⟨⟨⟨c1,c2⟩,c3⟩,c4⟩:=hc;have c1:=Nat.eq_of_beq_eq_true c1;have c2:=Nat.le_of_ble_eq_true c2
    have hrc:=U9 (P:=C.P) v.cells.toList wr ⟨b,off,none⟩ 0 (JV c3) (fun j _ hj=>by
     rw [Addr.add_lit,MM hw hl hb];obtain ⟨b',hb',hh⟩:=hw.loc id t' cs hl;rw [hb] at hb'; cases hb';have hlt:off+j<cs.length:=by omega
     refine ⟨⟨cs[off+j],List.getElem?_eq_getElem hlt⟩,?_⟩;simp [World.frozen?,hh])
    rw [hrun hxp c1 hrc];exact hgo _ _ _ (hset hl c4) rfl rfl ⟨hwf.old,fun id hi=>by simpa using hwf.lk id hi⟩ (hw.storeLoc hl hb c2 hwf.old) (fun _=>⟨rfl,rfl⟩) h
  ·exact h.elim
 | le id i m=>
  obtain ⟨b,hb,h0,hxp⟩:=hx
  dsimp only at h
  split at h
  ·rename_i t' cs hl
   cases hc:(Nat.beq v.cells.toList.length ty.ks.length&&Nat.beq v.cells.toList.length 1&&Zd [v] && !OU S.lk id) with
   | false=>rw [hc] at h; exact h.elim
   | true=>
    rw [hc] at h;simp only [cond_true] at h;simp only [Bool.and_eq_true,Bool.not_eq_true'] at hc;obtain ⟨⟨⟨c1,c2⟩,c3⟩,c4⟩:=hc;have c1:=Nat.eq_of_beq_eq_true c1;have c2:=Nat.eq_of_beq_eq_true c2;obtain ⟨hlt,h⟩:=h;obtain ⟨_,_,rfl,h⟩:=T2 h
    have hvc:v.cells.toList=[v]:=by
     cases v with
     | agg cs=>cases c3
     | _=>rfl
    rw [<-hvc] at c3
    have hrc:=U9 (P:=C.P) v.cells.toList wr ⟨b,i.toNat+m,none⟩ 0 (JV c3) (fun j _ hj=>by
     rw [Addr.add_lit,MM hw hl hb];obtain ⟨b',hb',hh⟩:=hw.loc id t' cs hl;rw [hb] at hb'; cases hb';have hlt:i.toNat+m+j<cs.length:=by omega
     refine ⟨⟨cs[i.toNat+m+j],List.getElem?_eq_getElem hlt⟩,?_⟩;simp [World.frozen?,hh])
    rw [hrun hxp c1 hrc];have hst:=hw.storeLoc (vs:=v.cells.toList) hl hb (off:=i.toNat+m) (by omega) hwf.old
    have he:cs.take (i.toNat+m)++v.cells.toList++cs.drop (i.toNat+m+v.cells.toList.length)=cs.set (i.toNat+m) v:=by
     rw [<-Kt _ _ _ (by omega),hvc]; rfl
    rw [he] at hst;exact hgo _ _ _ (hset hl c4) rfl rfl ⟨hwf.old,fun id hi=>by simpa using hwf.lk id hi⟩ hst (fun _=>⟨rfl,rfl⟩) h
  ·exact h.elim
 | el ob n=>
  obtain ⟨ad,hob,hxp⟩:=hx
  dsimp only at h
  cases hc:(Nat.beq v.cells.toList.length ty.ks.length&&Zd v.cells.toList && !C.pm&&Nat.blt 0 ty.ks.length) with
  | false=>rw [hc] at h; exact h.elim
  | true=>
   rw [hc] at h;simp only [cond_true] at h;simp only [Bool.and_eq_true,Bool.not_eq_true'] at hc;obtain ⟨⟨⟨c1,c2⟩,c3⟩,c4⟩:=hc;have c1:=Nat.eq_of_beq_eq_true c1;have c4:0<ty.ks.length:=Nat.le_of_ble_eq_true c4;obtain ⟨h1,h2⟩:=h;obtain ⟨hr,hbs,hlt⟩:=h1.run (P:=C.P) hw (by omega) c2 hob;rw [hrun hxp c1 hr,A2,Nat.add_zero];subst hob;exact hgo S _ _ (OH.refl S) rfl rfl hwf (hw.storeOut hbs hlt) (fun hp=>by rw [hp] at c3; cases c3) h2
 | v x0=>
  cases x0 with
  | pointer ob=>
    simp only [EV.den] at hx
    dsimp only at h
    cases hc:(Nat.beq v.cells.toList.length ty.ks.length&&Zd v.cells.toList && !C.pm&&Nat.blt 0 ty.ks.length) with
    | false=>rw [hc] at h; exact h.elim
    | true=>
     rw [hc] at h;simp only [cond_true] at h;simp only [Bool.and_eq_true,Bool.not_eq_true'] at hc;obtain ⟨⟨⟨c1,c2⟩,c3⟩,c4⟩:=hc;have c1:=Nat.eq_of_beq_eq_true c1;have c4:0<ty.ks.length:=Nat.le_of_ble_eq_true c4;obtain ⟨h1,h2⟩:=h;obtain ⟨ad,hob,_⟩:=id h1;obtain ⟨hr,hbs,hlt⟩:=h1.run (P:=C.P) hw (by omega) c2 hob;rw [Addr.add_zero'] at hr;rw [hrun (by rw [hx,hob]) c1 hr];subst hob;exact hgo S _ _ (OH.refl S) rfl rfl hwf (hw.storeOut hbs hlt) (fun hp=>by rw [hp] at c3; cases c3) h2
  | _=>exact h.elim
 | ls id len=>exact h.elim
 | no=>exact h.elim
 | kb x=>exact h.elim
theorem ziz {C:Vj} (hT:zkb C.P C.T) (hcall:∀f ks,ze6 C.ef f=some ks->VZ C.P f) {S:St} {w wr:World} {ops:Array Oper} {D:Nat->Prop} {o:Oper} {a:Act} {pc:List (Nat×Bool)} {K:St->World->Prop} {N:Act->World->Prop} {Q:Exit->Act->World->Prop}
  (hf:OG C.n S ops D a) (hw:Z7 S w wr) (hwf:Mo S) (hp:LS ops a pc) (hN:zkg C S w o a K N) (h:zro C S w o pc K) (hnd:∀t x y,o.op = .store t x y->o.dst=none):o.wpIn (Lz C.rd) 0 C.P a wr N Q:=by
 refine zgu (fun c hc=>by unfold zro at h; simp [hc,zcf] at h) ?_;unfold zro at h
 split at h
 case h_1 t ho=>
  split at h
  ·rename_i ty ht
   cases hc:ty.ks.contains .other with
   | true=>rw [hc] at h; exact h.elim
   | false=>
    rw [hc] at h;simp only [cond_false] at h;obtain ⟨i,z,hi,hz,hzc⟩:=zc0 hT ht hc
    have hrun:(execOp a.eval o).run C.P wr = .ok (.value (.pointer (some ⟨wr.heap.size,0,none⟩))) (wr.alloc (.cells (ty.ks.map zv).toArray t)):=by
     simp [execOp,ho,Instr.alloc,zeroValue,XU hi,hz,NW,hzc]
    rw [hrun];simp only [Oper.uponIn];exact Nn hN hw hwf h ⟨_,rfl,by rw [Addr.add_zero']⟩ ⟨wr.heap.size,zq6 hw _,rfl⟩
  ·exact h.elim
 case h_2 t x ho=>
  split at h
  ·rename_i v hv;have hv':=QC hf.fit hp hv
   have hrun:(execOp a.eval o).run C.P wr = .ok (.value (.pointer (some ⟨wr.heap.size,0,none⟩))) (wr.alloc (.cells v.cells.toList.toArray t)):=by
    simp [execOp,ho,Instr.box,NW,hv']
   rw [hrun];simp only [Oper.uponIn];exact Nn hN hw hwf h ⟨_,rfl,by rw [Addr.add_zero']⟩ ⟨wr.heap.size,zq6 hw _,rfl⟩
  ·exact h.elim
 case h_3 t n parts ho=>
  split at h
  ·rename_i ag ks e z vs ht hvs;have hv':=X4 hf.fit hp hvs
   split at h
   ·rename_i ety cells hte hcat
    cases hb:(Nat.beq n vs.length&&Nat.blt 0 z&&Nat.blt 0 n&&Nat.blt (n*z) 16777216) with
    | false=>rw [hb] at h; exact h.elim
    | true=>
     rw [hb] at h;simp only [cond_true] at h;simp only [Bool.and_eq_true] at hb;obtain ⟨⟨⟨b1,b2⟩,b3⟩,b4⟩:=hb;have b1:=Nat.eq_of_beq_eq_true b1;have b2:0<z:=Nat.le_of_ble_eq_true b2;have b3:0<n:=Nat.le_of_ble_eq_true b3;have b4:n*z<16777216:=Nat.le_of_ble_eq_true b4;obtain ⟨d,hu,_,htd⟩:=(hT.facts ht).desc;obtain ⟨inf,rfl,hinf,hisz⟩:=Oq htd.symm;obtain ⟨i2,z2,hi2,hz2,hsz2,_⟩:=(hT.facts hte).info;rw [hinf] at hi2; cases hi2;obtain ⟨_,hcl,hfill⟩:=KR b2 hcat;have hf0:=hfill [] (by simp) (((Array.range (n*z)).map (z2.cells[· % z2.cells.size]!)).toList) (by simp [b1]);simp only [List.nil_append,Array.toArray_toList] at hf0;have hparts:=zjn parts a.eval;rw [hv'] at hparts
     have hn0:¬n*z=0:=by
      have:=Nat.mul_pos b3 b2;omega
     have hbig:¬n*z>2 ^ 24:=by
      have:(2:Nat) ^ 24=16777216:=rfl;omega
     have hrun:(execOp a.eval o).run C.P wr = .ok (.value (.slice (some ⟨wr.heap.size,0,none⟩) n n)) (wr.alloc (.cells cells.toArray e)):=by
      simp only [execOp,ho,Instr.buildSlice,Sem.run_bind,run_underlying hu,Result.andThen_ok,ZR hinf,hisz,Sem.run_ite,if_neg hbig,if_neg hn0,zeroValue,XU hinf,hz2,Sem.run_pure,hparts,hf0,newRow,run_newObj];rfl
     rw [hrun];simp only [Oper.uponIn];exact Nn hN hw hwf h rfl ⟨wr.heap.size,zq6 hw _,rfl⟩
   ·exact h.elim
  ·exact h.elim
 case h_4 t x y ho=>
  have hdn:=hnd t x y ho
  split at h
  ·rename_i ty id off v ht hx hy;exact OD hdn hN hw hwf hT ho ht (ZD hf.fit hp hx) (QC hf.fit hp hy) h
  ·rename_i ty id i m v ht hx hy;exact OD hdn hN hw hwf hT ho ht (ZD hf.fit hp hx) (QC hf.fit hp hy) h
  ·rename_i ty ob n v ht hx hy;exact OD hdn hN hw hwf hT ho ht (ZD hf.fit hp hx) (QC hf.fit hp hy) h
  ·rename_i ty ob v ht hx hy;exact OD hdn hN hw hwf hT ho ht (ZD hf.fit hp hx) (QC hf.fit hp hy) h
  ·exact h.elim
 case h_5 f args ts ho=>
  split at h
  ·rename_i rks vs hef hvs;have hv:=X4 hf.fit hp hvs;have ea:args.map a.eval=vs.toArray:=by rw [<-hv,<-Array.toList_map,Array.toArray_toList]
   have hpm:C.pm=false:=by
    cases hp:C.pm with
    | false=>rfl
    | true=>rw [hp] at h; exact h.elim
   rw [hpm] at h;simp only [cond_false] at h;rw [zeh (hcall f rks hef) args ts a ho,ea];simp only [Oper.uponIn];refine ⟨fun hx=>(by simp [Lz,Fence.wide] at hx),P6 ((XB.out hw (h wr hw.ext hw.lt)).mono fun e w' he => ?_)⟩;obtain ⟨r,rfl,hk,hp⟩:=Js he;obtain ⟨h1,h2⟩:=Y6 hp;exact hN.go S.aged _ _ (.v r) r ⟨fun _ _ h=>h,fun _ _ cs h=>⟨cs,h⟩,fun id hi=>⟨hi,rfl⟩⟩ rfl rfl hwf.aged (hw.age hk) (fun hp=>by rw [hpm] at hp; cases hp) rfl h2 h1
  ·exact h.elim
 case h_6 bi args ts ho=>
  split at h
  ·rename_i vs hvs;have hv:=X4 hf.fit hp hvs;have ea:args.map a.eval=vs.toArray:=by rw [<-hv,<-Array.toList_map,Array.toArray_toList]
   have hpm:C.pm=false:=by
    cases hp:C.pm with
    | false=>rfl
    | true=>rw [hp] at h; exact h.elim
   rw [hpm] at h;simp only [cond_false] at h;obtain ⟨r,w',hrun,hk,hp⟩:=Js (XB.out hw (h wr hw.ext hw.lt))
   have hr2:(execOp a.eval o).run C.P wr = .ok (.value r) w':=by
    rw [<-hrun];simp only [execOp,ho,resolve,Sem.run_bind,Sem.run_pure,Result.andThen_ok,invoke,ea];rfl
   rw [hr2];obtain ⟨h1,h2⟩:=Y6 hp;exact hN.go S.aged _ _ (.v r) r ⟨fun _ _ h=>h,fun _ _ cs h=>⟨cs,h⟩,fun id hi=>⟨hi,rfl⟩⟩ rfl rfl hwf.aged (hw.age hk) (fun hp=>by rw [hpm] at hp; cases hp) rfl h2 h1
  ·exact h.elim
 case h_7 t args ts ho=>
  split at h
  ·rename_i v vs rks hv0 hvs hrk;have hv1:=QC hf.fit hp hv0;have hv:=X4 hf.fit hp hvs;have ea:args.map a.eval=vs.toArray:=by rw [<-hv,<-Array.toList_map,Array.toArray_toList]
   have hpm:C.pm=false:=by
    cases hp:C.pm with
    | false=>rfl
    | true=>rw [hp] at h; exact h.elim
   rw [hpm] at h;simp only [cond_false] at h
   have hgo:∀(e:Ending) (w':World),(KT rks fun r=>e = .returned r/\Q9 S.B wr w'/\LU C S.aged o.dst (.un (.v r)) fun S'=>K S' w')->(match e with
     | .returned v=>N (a.put o.dst v) w'
     | .panicked chain=>Q (.panic chain) a w'
     | .outgrown=>LetsOut Q):=fun e w' he=>by
    obtain ⟨r,rfl,hk,hp⟩:=Js he;obtain ⟨h1,h2⟩:=Y6 hp;exact hN.go S.aged _ _ (.v r) r ⟨fun _ _ h=>h,fun _ _ cs h=>⟨cs,h⟩,fun id hi=>⟨hi,rfl⟩⟩ rfl rfl hwf.aged (hw.age hk) (fun hp=>by rw [hpm] at hp; cases hp) rfl h2 h1
   rcases XB.out hw (h wr hw.ext hw.lt) with ⟨f,as0,hrun,hc⟩ | ⟨l,f,tmps,asg,body,hrun,hc⟩
   ·have hr2:(execOp a.eval o).run C.P wr = .ok (.enter f as0) wr:=by
     rw [<-hrun];simp only [execOp,ho,resolve,zc7,ea,hv1]
    rw [hr2];simp only [Oper.uponIn];exact ⟨fun hx=>(by simp [Lz,Fence.wide] at hx),P6 (hc.mono fun e w' he=>by have:=hgo e w' he; cases e <;> exact this)⟩
   ·have hr2:(execOp a.eval o).run C.P wr = .ok (.round l f tmps asg body) wr:=by
     rw [<-hrun];simp only [execOp,ho,resolve,zc7,ea,hv1]
    rw [hr2];simp only [Oper.uponIn];exact ⟨fun hx=>(by simp [Lz,Fence.wide] at hx),CR (hc.mono fun e w' he=>by have:=hgo e w' he; cases e <;> exact this)⟩
  ·exact h.elim
 case h_8 rc m args ts ho=>
  split at h
  ·rename_i v vs rks hv0 hvs hrk;have hv1:=QC hf.fit hp hv0;have hv:=X4 hf.fit hp hvs;have ea:args.map a.eval=vs.toArray:=by rw [<-hv,<-Array.toList_map,Array.toArray_toList]
   have hpm:C.pm=false:=by
    cases hp:C.pm with
    | false=>rfl
    | true=>rw [hp] at h; exact h.elim
   rw [hpm] at h;simp only [cond_false] at h;obtain ⟨f,as0,hrun,hc⟩:=XB.out hw (h wr hw.ext hw.lt)
   have hr2:(execOp a.eval o).run C.P wr = .ok (.enter f as0) wr:=by
    rw [<-hrun];simp only [execOp,ho,resolve,Sem.run_bind,Sem.run_pure,Result.andThen_ok,zpx,ea,hv1]
   rw [hr2];simp only [Oper.uponIn];refine ⟨fun hx=>(by simp [Lz,Fence.wide] at hx),P6 (hc.mono fun e w' he => ?_)⟩;obtain ⟨r,rfl,hk,hp⟩:=Js he;obtain ⟨h1,h2⟩:=Y6 hp;exact hN.go S.aged _ _ (.v r) r ⟨fun _ _ h=>h,fun _ _ cs h=>⟨cs,h⟩,fun id hi=>⟨hi,rfl⟩⟩ rfl rfl hwf.aged (hw.age hk) (fun hp=>by rw [hpm] at hp; cases hp) rfl h2 h1
  ·exact h.elim
 case h_9 it ho=>
  split at h
  ·rename_i ob hx;have hx':=QC hf.fit hp hx
   have hpm:C.pm=false:=by
    cases hp:C.pm with
    | false=>rfl
    | true=>rw [hp] at h; exact h.elim
   rw [hpm] at h;simp only [cond_false] at h;obtain ⟨b,s,pos,rfl,hb,hh,h1,h2⟩:=h wr hw.ext hw.lt;have hg:(getObj b).run C.P wr = .ok (.stringIter s pos) wr:=by simp [getObj,Sem.run,hh]
   by_cases hlt:pos<s.size
   ·have hset:(setObj b (.stringIter s (pos+(Utf8.decode s pos).2))).run C.P wr = .ok () (O7 wr b s (pos+(Utf8.decode s pos).2)):=by
     simp [setObj,Sem.run,hh,O7]
    have hrun:(execOp a.eval o).run C.P wr = .ok (.value (.tuple #[.bool true,.int .i64 pos,.int .i32 (Utf8.decode s pos).1])) (O7 wr b s (pos+(Utf8.decode s pos).2)):=by
     simp [execOp,ho,hx',Instr.next,hg,hlt,hset,goInt]
    rw [hrun];simp only [Oper.uponIn];obtain ⟨g1,g2⟩:=Y6 (h2 hlt)
    have hk:Q9 S.B wr (O7 wr b s (pos+(Utf8.decode s pos).2)):=fun x hx=>by
     have hne:b≠x:=fun e=>hb (e▸hx)
     simp only [O7];rw [Array.getElem?_setIfInBounds_ne hne]
    exact hN.go S.aged _ _ (.v _) _ ⟨fun _ _ h=>h,fun _ _ cs h=>⟨cs,h⟩,fun id hi=>⟨hi,rfl⟩⟩ rfl rfl hwf.aged (hw.age hk) (fun hp=>by rw [hpm] at hp; cases hp) rfl g2 g1
   ·have hrun:(execOp a.eval o).run C.P wr = .ok (.value (.tuple #[.bool false])) wr:=by
     simp [execOp,ho,hx',Instr.next,hg,hlt]
    rw [hrun];simp only [Oper.uponIn];obtain ⟨g1,g2⟩:=Y6 (h1 (Nat.le_of_not_lt hlt));exact hN.go S.aged _ _ (.v _) _ ⟨fun _ _ h=>h,fun _ _ cs h=>⟨cs,h⟩,fun id hi=>⟨hi,rfl⟩⟩ rfl rfl hwf.aged (hw.age fun _ _=>rfl) (fun hp=>by rw [hpm] at hp; cases hp) rfl g2 g1
  ·exact h.elim
 case h_10=>
  split at h
  ·rename_i xs rk u f hpr
   split at h
   ·rename_i vs hvs;have hv:=X4 hf.fit hp hvs
    have hpm:C.pm=false:=by
     cases hp:C.pm with
     | false=>rfl
     | true=>rw [hp] at h; exact h.elim
    rw [hpm] at h;simp only [cond_false] at h;have h:=h wr hw.ext hw.lt
    cases u with
    | true=>
     simp only [cond_true] at h
     split at h
     ·rename_i hd;obtain ⟨w',hr,hk,hK⟩:=h;rw [<-hv] at hr;rw [NR hpr a.eval hr];simp only [if_true,Oper.uponIn];exact hN.go S.aged _ _ (.v undef) undef ⟨fun _ _ h=>h,fun _ _ cs h=>⟨cs,h⟩,fun id hi=>⟨hi,rfl⟩⟩ rfl rfl hwf.aged (hw.age hk) (fun hp=>by rw [hpm] at hp; cases hp) rfl (fun x hx=>by rw [hd] at hx; cases hx) (by rw [hd]; exact hK)
     ·exact h.elim
    | false=>
     simp only [cond_false] at h;obtain ⟨r,w',hr,hk,hp⟩:=Js h;rw [<-hv] at hr;rw [NR hpr a.eval hr];simp only [Bool.false_eq_true,if_false,Oper.uponIn];obtain ⟨h1,h2⟩:=Y6 hp;exact hN.go S.aged _ _ (.v r) r ⟨fun _ _ h=>h,fun _ _ cs h=>⟨cs,h⟩,fun id hi=>⟨hi,rfl⟩⟩ rfl rfl hwf.aged (hw.age hk) (fun hp=>by rw [hpm] at hp; cases hp) rfl h2 h1
   ·exact h.elim
  ·exact h.elim
theorem zfh {G:Prop->Prop} {d:TD} {op:BinOp} {a b:Value} {K:Value->Prop} (h:zdb G d op a b K):∃v,K v:=by
 have kk:∀{p:Prop} [Decidable p] {A:Prop},(bif decide p then A else False)->A:=fun {p _ A} h=>by
  by_cases hk:p
  ·simpa [hk] using h
  ·simp [hk] at h
 unfold zdb at h
 split at h <;> first
  | exact h.elim
  | exact ⟨_,h⟩
  | exact ⟨_,h.2⟩
  | exact ⟨_,(kk h).2⟩
  | exact ⟨_,kk h⟩
theorem zce {a b:Operand} {cb:Bool} {x y:Value} {K:Value->Prop} (h:Hb a b cb x y K):∃v,K v:=by
 unfold Hb at h
 split at h <;> first | exact h.elim | exact ⟨_,h⟩
theorem zdd {C:Vj} {S:St} {w:World} {ops:Array Oper} {o:Oper} {pc:List (Nat×Bool)} {K:EV->Ox->Prop} (h:zr4 C S w ops o pc K):∃e fact,K e fact:=by
 unfold zr4 at h
 split at h
 case h_3=>
  split at h
  ·split at h
   ·split at h
    ·exact ⟨_,_,h⟩
    ·exact h.elim
   ·split at h
    ·exact ⟨_,_,h⟩
    ·exact h.elim
   ·split at h
    ·obtain ⟨v,h⟩:=zce h; exact ⟨_,_,h⟩
    ·exact h.elim
  ·exact h.elim
 case h_5=>
  split at h
  ·rename_i ty u v ht hu hv
   cases hb:zsz ty.d _ C.wr with
   | true=>
    rw [hb] at h;simp only [cond_true] at h;obtain ⟨v,h⟩:=Oy h;exact ⟨_,_,h.2⟩
   | false=>
    rw [hb] at h;simp only [cond_false] at h;obtain ⟨v,h⟩:=zfh h;exact ⟨_,_,h⟩
  ·exact h.elim
 case h_14=>
  (repeat' split at h) <;> first
   | exact h.elim
   | (obtain ⟨l,_,h⟩:=Dj h; obtain ⟨u,_,h⟩:=LB h; exact ⟨_,_,h.2⟩)
 case h_19=>
  split at h
  ·obtain ⟨l,_,h⟩:=T2 h
   split at h
   ·exact ⟨_,_,h.2⟩
   ·exact h.elim
  ·rename_i ty ob ht hx
   cases hk:ty.ks.isEmpty with
   | true=>rw [hk] at h; exact h.elim
   | false=>
    rw [hk] at h;obtain ⟨l,_,h⟩:=T2 h
    split at h
    ·exact ⟨_,_,h.2⟩
    ·exact h.elim
  ·(repeat' split at h) <;> first
    | exact h.elim
    | exact ⟨_,_,h⟩
  ·(repeat' split at h) <;> first
    | exact h.elim
    | (obtain ⟨v,h⟩:=Oy h; exact ⟨_,_,h.2⟩)
  ·exact h.elim
 case h_21=>
  (repeat' split at h) <;> first
   | exact h.elim
   | (obtain ⟨v,h⟩:=Js h; exact ⟨_,_,h.2⟩)
 case h_16=>
  split at h
  ·rename_i ty v ht hx
   cases ho':ty.d.isOther with
   | true=>rw [ho'] at h; exact h.elim
   | false=>rw [ho'] at h; exact ⟨_,_,h⟩
  ·exact h.elim
 case h_17=>
  (repeat' split at h) <;> first
   | exact h.elim
   | (obtain ⟨v,h⟩:=Js h; exact ⟨_,_,h.2⟩)
 all_goals
  (repeat' split at h) <;> first
   | exact h.elim
   | exact ⟨_,_,h⟩
   | exact ⟨_,_,h.2⟩
   | (obtain ⟨v,h⟩:=Oy h; exact ⟨_,_,h.2⟩)
def Lm (o:Oper):Bool:=
 match o.op,o.dst with
 | .store _ _ _,some _=>true
 | .defer _,_=>true
 | _,_=>false
def zqm (dn:Nat->Bool) (o:Oper):Bool:=
 match o.guard with
 | some (j,_)=>dn j
 | none=>true
def zhg (S:St) (ops:Array Oper) (o:Oper):Bool:=match o.guard with
 | none=>false
 | some (j,_)=>match (ops[j]?).bind (·.dst) with
  | some d=>match S.F.get d with
   | some (.gd _ _ .no)=>true
   | _=>false
  | none=>false
def HQ (S:St) (ops:Array Oper) (pc:List (Nat×Bool)) (o:Oper):Bool:=zhg S ops o||o.op.operands.toList.any fun x=>match Ac S pc x with
 | some .no=>true
 | _=>false
theorem Lp {n:Nat} {S:St} {ops:Array Oper} {a:Act} (hf:Ed n S ops a) {pc:List (Nat×Bool)} {o:Oper} (hpc:zf1 S ops o=some pc) (h:HQ S ops pc o=true):¬LS ops a pc:=fun hp=>by
 unfold HQ at h;rcases Bool.or_eq_true_iff.1 h with h | h
 ·unfold zhg at h
  split at h
  ·cases h
  ·rename_i j want hg
   split at h
   ·rename_i d hd
    split at h
    ·rename_i r pc' hv;unfold zf1 at hpc;rw [hg] at hpc;simp only [hd,hv] at hpc
     cases hr:Nat.beq r S.r with
     | false=>rw [hr] at hpc; cases hpc
     | true=>
      rw [hr] at hpc;simp only [cond_true,Option.some.injEq] at hpc;subst hpc;exact ((hf.fits d _ hv (Nat.eq_of_beq_eq_true hr)).1 fun p hm=>hp p (List.mem_cons_of_mem _ hm)).elim
    ·cases h
   ·cases h
 ·obtain ⟨x,_,hx⟩:=List.any_eq_true.1 h
  split at hx
  ·rename_i hv;exact (ZD hf hp hv).elim
  ·cases hx
def BN (C:Vj) (ops:Array Oper) (dn:Nat->Bool) (o:Oper) (S:St) (w:World) (K:Ox->St->World->Prop):Prop:=
 bif zqm dn o && !Lm o then
  match zf1 S ops o with
  | none=>False
  | some pc=>bif HQ S ops pc o then LU C S o.dst (CF S pc .no) fun S'=>K none S' w else bif GN C o.op then (match pc with
   | []=>zro C S w o [] (K none)
   | pc=>bif zjp S ops pc then KH S ops pc (zro C S w o pc (K none))/\(KH S ops pc False->LU C S o.dst (CF S pc .no) fun S'=>K none S' w) else False)
   else zr4 C S w ops o pc fun e f=>LU C S o.dst (CF S pc e) fun S'=>K f S' w
 else False
structure zpu (C:Vj) (S:St) (w:World) (ops:Array Oper) (D:Nat->Prop) (o:Oper) (a:Act) (S':St) (w':World) (a':Act) (wr':World):Prop where
 fit:OG C.n S' ops D a'
 rel:Z7 S' w' wr'
 wf:Mo S'
 fr:OH S S'
 r:S'.r=S.r
 put:∃v,a'=a.put o.dst v
 pm:C.pm=true->w'=w/\S'.old=S.old
theorem zf2 {S:St} {ops:Array Oper} {D:Nat->Prop} {n:Nat} {a:Act} (hf:OG n S ops D a) {o:Oper} {pc:List (Nat×Bool)} (h:zf1 S ops o=some pc) (hg:∀j b,o.guard=some (j,b)->D j):∀p∈pc,D p.1:=by
 unfold zf1 at h
 split at h
 ·simp only [Option.some.injEq] at h; subst h; intro p hp; cases hp
 ·rename_i j want hgd
  split at h
  ·rename_i d hd
   split at h
   ·simp only [Option.some.injEq] at h; subst h;intro p hp;simp only [List.mem_singleton] at hp;subst hp;exact hg j want hgd
   ·rename_i r pc' b hv
    cases hr:Nat.beq r S.r with
    | false=>rw [hr] at h; cases h
    | true=>
     rw [hr] at h;simp only [cond_true,Option.some.injEq] at h; subst h;intro p hp;rcases List.mem_cons.1 hp with rfl | hp
     ·exact hg j want hgd
     ·have:=Nat.eq_of_beq_eq_true hr;subst this;exact hf.dn d pc' _ hv p hp
   ·rename_i r pc' hv
    cases hr:Nat.beq r S.r with
    | false=>rw [hr] at h; cases h
    | true=>
     rw [hr] at h;simp only [cond_true,Option.some.injEq] at h; subst h;intro p hp;rcases List.mem_cons.1 hp with rfl | hp
     ·exact hg j want hgd
     ·have:=Nat.eq_of_beq_eq_true hr;subst this;exact hf.dn d pc' _ hv p hp
   ·cases h
  ·cases h
structure zkf (C:Vj):Prop where
 T:zkb C.P C.T
 pf:∀f ks,ze6 C.pf f=some ks->VZ C.P f
 ef:∀f ks,ze6 C.ef f=some ks->VZ C.P f
 mixed:C.P.follows .mixedOrders=true
theorem BO {C:Vj} (E:zkf C) {ops:Array Oper} {D D':Nat->Prop} {dn:Nat->Bool} {i:Nat} {o:Oper} {S:St} {w wr:World} {a:Act} {K:Ox->St->World->Prop} {N:Act->World->Prop} {Q:Exit->Act->World->Prop}
  (hu:Ho ops=true) (ho:ops[i]? = some o) (hi:¬D i) (hD:∀j,D j->zkc ops j) (hDD:∀j,D j->D' j) (hdn:∀j,dn j=true->zkc ops j->D j)
  (hf:OG C.n S ops D a) (hw:Z7 S w wr) (hwf:Mo S)
  (hN:∀f S' w' a' wr',K f S' w'->zpu C S w ops D' o a S' w' a' wr'->N a' wr') (h:BN C ops dn o S w K) :
  if Region.wanted o (yielded ops a.tmps) then o.wpIn (Lz C.rd) 0 C.P a wr N Q else N (a.put o.dst undef) wr:=by
 unfold BN at h
 cases hb:(zqm dn o && !Lm o) with
 | false=>rw [hb] at h; exact h.elim
 | true=>
  rw [hb] at h;simp only [cond_true] at h;simp only [Bool.and_eq_true,Bool.not_eq_true'] at hb
  have hg:∀j b,o.guard=some (j,b)->D j:=fun j b hgd=>by
   refine hdn j ?_ ⟨o,by rw [Array.mem_toList_iff]; exact Array.mem_of_getElem? ho,b,hgd⟩;have:=hb.1;unfold zqm at this;rw [hgd] at this;exact this
  split at h
  ·exact h.elim
  ·rename_i pc hpc;have hpcD:=zf2 hf hpc hg;have hwant:=MR hf.fit hpc
   cases hdd:HQ S ops pc o with
   | true=>
    rw [hdd] at h;simp only [cond_true] at h;have hp:=Lp hf.fit hpc hdd;rw [if_neg (fun hw1=>hp (hwant.1 hw1))];obtain ⟨h1,h2⟩:=Y6 h;exact hN _ _ _ _ _ h1 ⟨hf.put hu ho hi hD hDD hpcD h2 ⟨fun hp'=>absurd hp' hp,fun _=>rfl⟩,hw.putF _ _,hwf.putF _ _,(OH.refl S).putF _ _,by cases o.dst <;> rfl,⟨undef,rfl⟩,fun _=>⟨rfl,by cases o.dst <;> rfl⟩⟩
   | false=>
   rw [hdd] at h;simp only [cond_false] at h
   cases he:GN C o.op with
   | true=>
    rw [he] at h;simp only [cond_true] at h
    have run:LS ops a pc->zro C S w o pc (K none)->o.wpIn (Lz C.rd) 0 C.P a wr N Q:=fun hpc0 h=>by
     refine ziz E.T E.ef hf hw hwf hpc0 ⟨fun S1 w' wr' e v h1 h2 h3 h4 h5 h9 h6 h7 h8 => ?_⟩ h (fun t x y hs => ?_)
     ·refine hN none _ _ _ _ h8 ⟨?_,h5.putF _ _,h4.putF _ _,h1.putF _ _,by cases o.dst <;> exact h3,⟨v,rfl⟩,fun hp=>by cases o.dst <;> exact h9 hp⟩;have hf1:OG C.n S1 ops D a:=hf.mono h1.B h2 h3;exact hf1.put (pc:=[]) hu ho hi hD hDD (fun p hp=>by cases hp) h7 ⟨fun _=>h6,fun hn=>absurd (fun p hp=>by cases hp) hn⟩
     ·have:=hb.2;unfold Lm at this;rw [hs] at this
      cases hd:o.dst with
      | none=>rfl
      | some d=>rw [hd] at this; cases this
    split at h
    ·have hw1:Region.wanted o (yielded ops a.tmps)=true:=hwant.2 (fun p hp=>by cases hp);rw [if_pos hw1];exact run (fun p hp=>by cases hp) h
    ·cases hpo:zjp S ops pc with
     | false=>rw [hpo] at h; exact h.elim
     | true=>
      rw [hpo] at h;simp only [cond_true] at h
      by_cases hp:LS ops a pc
      ·rw [if_pos (hwant.2 hp)];exact run hp (FSx hf.fit hp h.1)
      ·rw [if_neg (fun hw1=>hp (hwant.1 hw1))];obtain ⟨h1,h2⟩:=Y6 (h.2 (zbp hf.fit hpo hp));exact hN _ _ _ _ _ h1 ⟨hf.put hu ho hi hD hDD hpcD h2 ⟨fun hp'=>absurd hp' hp,fun _=>rfl⟩,hw.putF _ _,hwf.putF _ _,(OH.refl S).putF _ _,by cases o.dst <;> rfl,⟨undef,rfl⟩,fun _=>⟨rfl,by cases o.dst <;> rfl⟩⟩
   | false=>
    rw [he] at h;simp only [cond_false] at h
    by_cases hp:LS ops a pc
    ·rw [if_pos (hwant.2 hp)];obtain ⟨e,fact,v,hK,hden,hfact,hq⟩:=CP E.T E.pf hf.fit hp h;obtain ⟨h1,h2⟩:=Y6 hK;refine Hq (C:=Z7 S w) (K:=fun a'=>a'=a.put o.dst v) hw (fun a' w' hw' ha' => ?_) ⟨v,fun wr' hw'=>hq S w a rfl (fun _ _ h=>h) hfact wr' hw',rfl⟩;subst ha';exact hN _ _ _ _ _ h1 ⟨hf.put hu ho hi hD hDD hpcD h2 ⟨fun _=>hden,fun hn=>absurd hp hn⟩,hw'.putF _ _,hwf.putF _ _,(OH.refl S).putF _ _,by cases o.dst <;> rfl,⟨v,rfl⟩,fun _=>⟨rfl,by cases o.dst <;> rfl⟩⟩
    ·rw [if_neg (fun hw1=>hp (hwant.1 hw1))];obtain ⟨e,fact,hK⟩:=zdd h;obtain ⟨h1,h2⟩:=Y6 hK;exact hN _ _ _ _ _ h1 ⟨hf.put hu ho hi hD hDD hpcD h2 ⟨fun hp'=>absurd hp' hp,fun _=>rfl⟩,hw.putF _ _,hwf.putF _ _,(OH.refl S).putF _ _,by cases o.dst <;> rfl,⟨undef,rfl⟩,fun _=>⟨rfl,by cases o.dst <;> rfl⟩⟩
def zk7 (C:Vj) (ops:Array Oper):List Oper->Nat->St->World->(St->World->Prop)->Prop
 | [],_,S,w,K=>K S w
 | o::rest,k,S,w,K=>BN C ops (fun j=>Nat.blt j k) o S w fun _ S' w'=>zk7 C ops rest (k+1) S' w' K
def Mw:List Oper->List Nat
 | []=>[]
 | o::r=>match o.dst with
  | some d=>d::Mw r
  | none=>Mw r
def Lb (ds:List Nat) (a a':Act):Prop:=a'.defers=a.defers/\a'.tmps.size=a.tmps.size/\∀i,i∉ds->a'.tmps.getD i undef=a.tmps.getD i undef
theorem Lb.refl (ds:List Nat) (a:Act):Lb ds a a:=⟨rfl,rfl,fun _ _=>rfl⟩
theorem Lb.trans {ds:List Nat} {a b c:Act} (h:Lb ds a b) (k:Lb ds b c):Lb ds a c:=⟨k.1.trans h.1,k.2.1.trans h.2.1,fun i hi=>(k.2.2 i hi).trans (h.2.2 i hi)⟩
theorem Lb.mono {ds es:List Nat} {a b:Act} (h:Lb ds a b) (hs:∀x∈ds,x∈es):Lb es a b:=⟨h.1,h.2.1,fun i hi=>h.2.2 i (fun hx=>hi (hs i hx))⟩
theorem Lb.put (a:Act) (d:Option Tmp) (v:Value) (ds:List Nat) (h:∀x,d=some x->x∈ds):Lb ds a (a.put d v):=by
 cases d with
 | none=>exact Lb.refl _ _
 | some d=>
  refine ⟨rfl,by simp [Act.put],fun i hi => ?_⟩;have:d≠i:=fun e=>hi (e▸h d rfl)
  simp only [Act.put,Array.getD_eq_getD_getElem?];rw [Array.getElem?_setIfInBounds_ne this]
theorem E6 {C:Vj} (E:zkf C) {ops:Array Oper} (hu:Ho ops=true) {K:St->World->Prop} {Q:Exit->Act->World->Prop} {ds:List Nat} {S0:St} {w0:World} {a0:Act} (hds:∀x∈Mw ops.toList,x∈ds)
  (hQ:∀S' w' a' wr',K S' w'->OG C.n S' ops (fun j=>j<ops.size/\zkc ops j) a'->Z7 S' w' wr'->Mo S'->OH S0 S'->S'.r=S0.r->Lb ds a0 a'->(C.pm=true->w'=w0/\S'.old=S0.old)->Q .normal a' wr') :
  ∀(l:List Oper) (k:Nat) (S:St) (w wr:World) (a:Act),(∀j,l[j]? = ops[k+j]?)->k+l.length=ops.size->zk7 C ops l k S w K->OG C.n S ops (fun j=>j<k/\zkc ops j) a->Z7 S w wr->Mo S->OH S0 S->S.r=S0.r->Lb ds a0 a->(C.pm=true->w=w0/\S.old=S0.old)->
   wpListIn (Lz C.rd) 0 C.P ops Q l a wr
 | [],k,S,w,wr,a,_,hk,h,hf,hw,hwf,hfr,hr,hfa,hpm=>by
  have:k=ops.size:=by simpa using hk
  subst this;exact hQ S w a wr h hf hw hwf hfr hr hfa hpm
 | o::rest,k,S,w,wr,a,hl,hk,h,hf,hw,hwf,hfr,hr,hfa,hpm=>by
  have ho:ops[k]? = some o:=by simpa using (hl 0).symm
  have hod:∀x,o.dst=some x->x∈ds:=fun x hx=>by
   refine hds x ?_;have hm:o∈ops.toList:=by rw [Array.mem_toList_iff]; exact Array.mem_of_getElem? ho
   clear hk hl h;generalize ops.toList=q at hm
   induction q with
   | nil=>cases hm
   | cons y q ih=>
    simp only [Mw];rcases List.mem_cons.1 hm with rfl | hm
    ·rw [hx]; exact List.mem_cons_self ..
    ·split
     ·exact List.mem_cons_of_mem _ (ih hm)
     ·exact ih hm
  have hstep:=BO E (i:=k) (D':=fun j=>j<k+1/\zkc ops j) (N:=fun a' w'=>wpListIn (Lz C.rd) 0 C.P ops Q rest a' w') (Q:=Q) hu ho (fun hd=>Nat.lt_irrefl _ hd.1) (fun j hj=>hj.2) (fun j hj=>⟨Nat.lt_succ_of_lt hj.1,hj.2⟩)
   (fun j h1 h2=>⟨Nat.le_of_ble_eq_true h1,h2⟩) hf hw hwf (fun f S' w' a' wr' hK hL=>by
    obtain ⟨v,rfl⟩:=hL.put;exact E6 E hu hds hQ rest (k+1) S' w' wr' _ (fun j=>by have:=hl (j+1); simpa [Nat.add_assoc,Nat.add_comm 1 j] using this) (by simp at hk; omega) hK hL.fit hL.rel hL.wf (hfr.trans hL.fr) (hL.r.trans hr) (hfa.trans (Lb.put a o.dst v ds hod)) (fun hp=>⟨(hL.pm hp).1.trans (hpm hp).1,(hL.pm hp).2.trans (hpm hp).2⟩)) h
  unfold wpListIn
  by_cases hwt:Region.wanted o (yielded ops a.tmps)=true
  ·rw [if_pos hwt] at hstep ⊢;exact hstep
  ·rw [if_neg hwt] at hstep ⊢;exact ⟨fun _ _=>trivial,hstep⟩
theorem zn1 {C:Vj} {ops:Array Oper} {dn:Nat->Bool} {o:Oper} {S:St} {w:World} {K:Ox->St->World->Prop} (h:BN C ops dn o S w K):∀c,o.op≠.defer c:=fun c hc=>by
 unfold BN at h;have:Lm o=true:=by simp [Lm,hc]
 rw [this] at h;simp at h
def JF (ops:Array Oper) (o:Oper) (a:Act):Option (Sem Next):=if Region.wanted o (yielded ops a.tmps) then some (execOp a.eval o) else none
def YS (P:Program) (R:World->Prop) (s:Option (Sem Next)) (v:Value):Prop:=
 match s with
 | some s=>∀w,R w->Oper.quietUpon P R w v (s.run P w)
 | none=>v=undef
def F8 (P:Program) (o:Oper) (a:Act) (w:World) (N:Value->World->Prop):Prop:=
 match (execOp a.eval o).run P w with
 | .ok (.value v) w'=>N v w'
 | .ok .skip w'=>N undef w'
 | .ok (.enter f args) w'=>Calls P f args w' fun e w''=>∃v,e = .returned v/\N v w''
 | .ok (.row row args) w'=>Rows P row args w' fun v w''=>N v w''
 | .ok (.round l f tmps asg body) w'=>RoundIn Fence.wide 0 P l f tmps asg body w' fun e w''=>∃v,e = .returned v/\N v w''
 | _=>False
def UI:List Oper->List Nat->List Nat
 | [],acc=>acc
 | o::r,acc=>UI r (acc++[o.after.toList.foldl (fun s e=>if Region.binds .any e then s ||| 2 ^ e.on ||| acc.getD e.on 0 else s) 0])
def zak (M:List Nat) (i j:Nat):Bool := !(M.getD j 0).testBit i
def Kb (P:Program) (ops:Array Oper) (un:Nat->Nat->Bool) (Q:Act->(World->Prop)->Prop):Nat->Array Bool->List (Nat×Option (Sem Next)×Value)->Act->(World->Prop)->Prop
 | 0,listed,_,a,R=>Region.ready .any ops listed=[]/\Q a R
 | n+1,listed,Pd,a,R=>(Region.ready .any ops listed=[]->Q a R)/\∀i∈Region.ready .any ops listed,∀o,ops[i]? = some o->
   (∃v,YS P R (JF ops o a) v/\Kb P ops un Q n (listed.setIfInBounds i true) ((i,JF ops o a,v)::Pd) (a.put o.dst v) R) \/
   (Region.wanted o (yielded ops a.tmps)=true/\∀w,R w->F8 P o a w fun v w'=>∃R':World->Prop,R' w'/\(∀p∈Pd,un p.1 i=true->YS P R' p.2.1 p.2.2)/\
    Kb P ops un Q n (listed.setIfInBounds i true) Pd (a.put o.dst v) R')
section
variable {P:Program} {ops:Array Oper} {un:Nat->Nat->Bool} {Q:Act->(World->Prop)->Prop}
theorem HX {o:Oper} {a:Act} {w:World} {N N':Value->World->Prop} (h:∀v w,N v w->N' v w) (hh:F8 P o a w N):F8 P o a w N':=by
 unfold F8 at *;generalize (execOp a.eval o).run P w=r at *
 cases r with
 | ok n w'=>
  cases n <;> dsimp only at hh ⊢
  case value v=>exact h _ _ hh
  case skip=>exact h _ _ hh
  case enter f args=>exact hh.mono fun e w'' ⟨v,he,hn⟩=>⟨v,he,h _ _ hn⟩
  case row row args=>exact hh.mono fun v w'' hn=>h _ _ hn
  case round l f tmps asg body=>exact hh.mono fun e w'' ⟨v,he,hn⟩=>⟨v,he,h _ _ hn⟩
  all_goals exact hh
 | halt x w'=>exact hh
theorem znz {o:Oper} {a:Act} {w:World} {N:Value->World->Prop} {K:Act->World->Prop} {Q':Exit->Act->World->Prop} {r:Option Nat} (hh:F8 P o a w N) (h:∀v w',N v w'->K (a.put o.dst v) w'):o.wpIn (Lz r) 0 P a w K Q':=by
 refine zgu (fun c hc=>by unfold F8 at hh; rcases z7 (P:=P) (ρ:=a.eval) hc w with ⟨d,w',hr⟩ | ⟨x,w',hr⟩ <;> (rw [hr] at hh; exact hh)) ?_;unfold F8 at hh;generalize (execOp a.eval o).run P w=r at *
 cases r with
 | ok n w'=>
  cases n <;> dsimp only at hh <;> simp only [Oper.uponIn]
  case value v=>exact h _ _ hh
  case skip=>exact h _ _ hh
  case enter f args=>exact ⟨fun hx=>(by simp [Lz,Fence.wide] at hx),P6 (hh.mono fun e w'' ⟨v,he,hn⟩=>by subst he; exact h _ _ hn)⟩
  case row row args=>exact ⟨fun hx=>(by simp [Lz,Fence.wide] at hx),zk8 (hh.mono fun v w'' hn=>h _ _ hn)⟩
  case round l f tmps asg body=>exact ⟨fun hx=>(by simp [Lz,Fence.wide] at hx),CR (hh.mono fun e w'' ⟨v,he,hn⟩=>by subst he; exact h _ _ hn)⟩
 | halt x w'=>exact hh.elim
theorem zfg {o:Oper} {a:Act} {w:World} {K:Act->World->Prop} {r:Option Nat} (hd:∀c,o.op≠.defer c) (hh:o.wpIn (Lz r) 0 P a w K fun _ _ _=>False) (hp:∀a' w',K a' w'->∃v,a'=a.put o.dst v):F8 P o a w fun v w'=>K (a.put o.dst v) w':=by
 have hh:=zri hd hh;unfold F8;generalize (execOp a.eval o).run P w=r at *
 cases r with
 | ok n w'=>
  cases n <;> simp only [Oper.uponIn] at hh ⊢
  case value v=>exact hh
  case skip=>exact hh
  case defer d=>
   obtain ⟨v,hv⟩:=hp _ _ hh;have h1:(({ a with defers:=d::a.defers }:Act).put o.dst undef).defers=(a.put o.dst v).defers:=by rw [hv]
   have h2:∀(b:Act) (x:Option Tmp) (u:Value),(b.put x u).defers=b.defers:=fun b x u=>by cases x <;> rfl
   rw [h2,h2] at h1;have:=congrArg List.length h1;simp at this
  case enter f args=>
   exact (zn2 hh.2).mono fun e w'' he=>by
    cases e with
    | returned v=>exact ⟨v,rfl,he⟩
    | panicked c=>exact he.elim
    | outgrown=>obtain ⟨_,_,he⟩:=he; exact he.elim
  case row row args=>exact fun c cs=>(let ⟨v,w1,h1,h2⟩:=hh.2 c cs (zdi _ _); ⟨v,w1,h1,StepsIn.steps h2⟩)
  case round l f tmps asg body=>
   refine ⟨trivial,fun c cs _ => ?_⟩;obtain ⟨e,w'',he,hs⟩:=hh.2.2 c cs (zdi _ _);refine ⟨e,w'',?_,hs⟩
   cases e with
   | returned v=>exact ⟨v,rfl,he⟩
   | panicked c=>exact he.elim
   | outgrown=>obtain ⟨_,_,he⟩:=he; exact he.elim
 | halt x w'=>cases x <;> simp only [Oper.uponIn] at hh
theorem G3:∀{n:Nat} {listed:Array Bool} {Pd Pd':List (Nat×Option (Sem Next)×Value)} {a:Act} {R:World->Prop},(∀p∈Pd',p∈Pd)->Kb P ops un Q n listed Pd a R->Kb P ops un Q n listed Pd' a R
 | 0,_,_,_,_,_,_,h=>h
 | n+1,listed,Pd,Pd',a,R,hs,h=>⟨h.1,fun i hi o ho=>by
  rcases h.2 i hi o ho with ⟨v,h1,h2⟩ | ⟨h1,h2⟩
  ·refine .inl ⟨v,h1,G3 (fun p hp => ?_) h2⟩;rcases List.mem_cons.1 hp with rfl | hp
   ·exact List.mem_cons_self ..
   ·exact List.mem_cons_of_mem _ (hs p hp)
  ·exact .inr ⟨h1,fun w hw=>HX (fun v w' ⟨R',h3,h4,h5⟩=>⟨R',h3,fun p hp=>h4 p (hs p hp),G3 hs h5⟩) (h2 w hw)⟩⟩
theorem PU {r:Option Nat} {Q':Exit->Act->World->Prop} (hQ:∀a R w,Q a R->R w->Q' .normal a w):∀(n:Nat) (listed:Array Bool) (Pd:List (Nat×Option (Sem Next)×Value)) (a:Act) (R:World->Prop) (w:World),R w->Kb P ops un Q n listed Pd a R->wpAnyIn (Lz r) 0 P .any ops Q' n listed a w
 | 0,_,_,_,_,_,hw,h=>⟨h.1,hQ _ _ _ h.2 hw⟩
 | n+1,listed,Pd,a,R,w,hw,h=>⟨fun h0=>hQ _ _ _ (h.1 h0) hw,fun i hi=>by
  obtain ⟨_,o,ho,_⟩:=mem_ready.1 hi;unfold wpOpIn;simp only [ho];rcases h.2 i hi o ho with ⟨v,h1,h2⟩ | ⟨h1,h2⟩
  ·unfold JF at h1
   by_cases hwt:Region.wanted o (yielded ops a.tmps)=true
   ·rw [if_pos hwt] at h1 ⊢;exact Hq (C:=R) (K:=fun a'=>a'=a.put o.dst v) hw (fun a' w' hw' ha'=>by subst ha'; exact PU hQ n _ _ _ R w' hw' h2) ⟨v,fun w' hw'=>h1 w' hw',rfl⟩
   ·rw [if_neg hwt] at h1 ⊢;rw [show v=undef from h1] at h2;exact ⟨fun _ _=>trivial,PU hQ n _ _ _ R w hw h2⟩
  ·rw [if_pos h1];exact (znz (h2 w hw) fun v w' ⟨R',h3,_,h5⟩=>PU hQ n _ _ _ R' w' h3 h5)⟩
theorem zjv {oi oj:Oper} {a:Act} {v:Value} (hap:oi.apart ops oj=true) (hsj:∀cs b,oj.op≠.select cs b):JF ops oj (a.put oi.dst v)=JF ops oj a:=by
 obtain ⟨h1,_,_⟩:=Oper.apart_spec hap;unfold JF;rw [wanted_put oj a oi.dst v h1,execOp_put oj hsj a oi.dst v h1]
theorem zk3 {oi oj:Oper} {a:Act} {v:Value} {w:World} {N:Value->World->Prop} (hap:oi.apart ops oj=true) (hsj:∀cs b,oj.op≠.select cs b) (h:F8 P oj (a.put oi.dst v) w N):F8 P oj a w N:=by
 obtain ⟨h1,_,_⟩:=Oper.apart_spec hap;unfold F8 at *;rw [execOp_put oj hsj a oi.dst v h1] at h;exact h
theorem Bu {x y:Oper} (h:x.apart ops y=true):∀d,y.dst=some d->d∉x.looksAt ops:=(Oper.apart_spec h).2.2
def L8 (ops:Array Oper) (listed:Array Bool):Prop:=∀j o,ops[j]? = some o->listed.getD j true=true->∀e∈o.after,Region.binds .any e=true->listed.getD e.on false=true
theorem zgo (hsel:∀(j:Nat) (o:Oper) cs b,ops[j]? = some o->o.op≠.select cs b) (hun:∀listed i j,L8 ops listed->i∈Region.ready .any ops listed->j∈Region.ready .any ops listed->i≠j->un i j=true) {i:Nat} {oi:Oper} {v:Value} (hi:ops[i]? = some oi) :
  ∀(n:Nat) (listed:Array Bool) (Pd:List (Nat×Option (Sem Next)×Value)) (a:Act) (R:World->Prop),L8 ops listed->
   (∀j oj,ops[j]? = some oj->j≠i->listed.getD j true=false->(∀e∈oj.after,Region.binds .any e=true->e.on≠i)->oi.apart ops oj=true)->
   i∈Region.ready .any ops listed->YS P R (JF ops oi a) v->
   Kb P ops un Q n (listed.setIfInBounds i true) ((i,JF ops oi a,v)::Pd) (a.put oi.dst v) R->Kb P ops un Q (n+1) listed Pd a R:=by
 intro n
 induction n with
 | zero=>
  intro listed Pd a R hcl hfree hr hy H;refine ⟨fun h=>(by rw [h] at hr; cases hr),fun j hj oj hoj => ?_⟩
  by_cases hji:j=i
  ·subst hji; rw [hi] at hoj; cases hoj; exact .inl ⟨v,hy,H⟩
  ·have:=ready_mono hj hji;rw [H.1] at this;cases this
 | succ n ih=>
  intro listed Pd a R hcl hfree hr hy H;refine ⟨fun h=>(by rw [h] at hr; cases hr),fun j hj oj hoj => ?_⟩
  by_cases hji:j=i
  ·subst hji; rw [hi] at hoj; cases hoj; exact .inl ⟨v,hy,H⟩
  ·obtain ⟨hjun,oj',hoj',hall⟩:=mem_ready.1 hj;rw [hoj] at hoj'; cases hoj'
   have hnot:∀e∈oj.after,Region.binds .any e=true->e.on≠i:=fun e he hb heq=>by
    have h1:=hall e he hb;have h0:=(mem_ready.1 hr).1;rw [heq] at h1;rcases Nat.lt_or_ge i listed.size with h' | h'
    ·simp [h'] at h0 h1; rw [h0] at h1; cases h1
    ·simp [Array.getElem?_eq_none h'] at h1
   have hap:=hfree j oj hoj hji hjun hnot;have hsj:=fun cs b=>hsel j oj cs b hoj
   have hsi:=fun cs b=>hsel i oi cs b hi
   have hcl':L8 ops (listed.setIfInBounds j true):=fun k ok hk hkl e he hb=>by
    by_cases hjk:j=k
    ·subst hjk; rw [hoj] at hk; cases hk;exact getD_set_true (hall e he hb)
    ·rw [getD_set_ne true hjk] at hkl;exact getD_set_true (hcl k ok hk hkl e he hb)
   have hfree':∀k ok,ops[k]? = some ok->k≠i->(listed.setIfInBounds j true).getD k true=false->
     (∀e∈ok.after,Region.binds .any e=true->e.on≠i)->oi.apart ops ok=true:=fun k ok hk hki hun hno=>by
    refine hfree k ok hk hki ?_ hno
    by_cases hjk:j=k
    ·subst hjk; exact hjun
    ·rw [getD_set_ne true hjk] at hun; exact hun
   have hr':=ready_mono hr (Ne.symm hji)
   have hsi':∀u,JF ops oi (a.put oj.dst u)=JF ops oi a:=fun u=>by
    unfold JF;rw [wanted_put oi a oj.dst u (Bu hap),execOp_put oi hsi a oj.dst u (Bu hap)]
   have hcomm:∀u,(a.put oi.dst v).put oj.dst u=(a.put oj.dst u).put oi.dst v:=fun u=>Act.put_comm a v u (Oper.apart_spec hap).2.1
   rcases H.2 j (ready_mono hj hji) oj hoj with ⟨u,h1,h2⟩ | ⟨h1,h2⟩
   ·rw [zjv hap hsj] at h1 h2;refine .inl ⟨u,h1,ih _ _ _ R hcl' hfree' hr' (by rw [hsi' u]; exact hy) ?_⟩;rw [hsi' u,<-hcomm u,Array.setIfInBounds_comm _ _ hji]
    exact G3 (fun p hp=>by
     simp only [List.mem_cons] at hp ⊢;rcases hp with h | h | h
     ·exact .inr (.inl h)
     ·exact .inl h
     ·exact .inr (.inr h)) h2
   ·refine .inr ⟨?_,fun w hw=>zk3 hap hsj (HX (fun u w' ⟨R',h3,h4,h5⟩=>⟨R',h3,fun p hp=>h4 p (List.mem_cons_of_mem _ hp),?_⟩) (h2 w hw))⟩
    ·rw [wanted_put oj a oi.dst v (Oper.apart_spec hap).1] at h1; exact h1
    ·have hyi:YS P R' (JF ops oi a) v:=h4 _ (List.mem_cons_self ..) (hun listed i j hcl hr hj (Ne.symm hji));refine ih _ _ _ R' hcl' hfree' hr' (by rw [hsi' u]; exact hyi) ?_;rw [hsi' u,<-hcomm u,Array.setIfInBounds_comm _ _ hji];exact h5
end
theorem BV {acc:List Nat} {i:Nat}:∀(l:List Edge) (s:Nat),(l.foldl (fun s e=>if Region.binds .any e then s ||| 2 ^ e.on ||| acc.getD e.on 0 else s) s).testBit i=true->
  s.testBit i=true\/∃e∈l,Region.binds .any e=true/\(e.on=i\/(acc.getD e.on 0).testBit i=true)
 | [],s,h=>.inl h
 | e::l,s,h=>by
  rcases BV l _ h with h1 | ⟨e',he',hb,h2⟩
  ·by_cases hb:Region.binds .any e=true
   ·simp only [if_pos hb] at h1;simp only [Nat.testBit_or,Bool.or_eq_true] at h1;rcases h1 with (h1 | h1) | h1
    ·exact .inl h1
    ·refine .inr ⟨e,List.mem_cons_self ..,hb,.inl ?_⟩;rw [Nat.testBit_two_pow] at h1
     simpa using h1
    ·exact .inr ⟨e,List.mem_cons_self ..,hb,.inr h1⟩
   ·simp only [if_neg hb] at h1;exact .inl h1
  ·exact .inr ⟨e',List.mem_cons_of_mem _ he',hb,h2⟩
theorem Gu:∀(l:List Oper) (acc:List Nat) (pre:List Oper),acc.length=pre.length->
  (∀(j:Nat) (o:Oper),pre[j]? = some o->∀i,(acc.getD j 0).testBit i=true->∃e∈o.after.toList,Region.binds .any e=true/\(e.on=i\/(e.on<j/\(acc.getD e.on 0).testBit i=true)))->
  ∀(j:Nat) (o:Oper),(pre++l)[j]? = some o->∀i,((UI l acc).getD j 0).testBit i=true->∃e∈o.after.toList,Region.binds .any e=true/\(e.on=i\/(e.on<j/\((UI l acc).getD e.on 0).testBit i=true))
 | [],acc,pre,hl,h,j,o,ho,i,hb=>by
  simp only [List.append_nil] at ho;exact h j o ho i hb
 | o'::l,acc,pre,hl,h,j,o,ho,i,hb=>by
  have happ:pre++o'::l=(pre++[o'])++l:=by simp
  rw [happ] at ho;simp only [UI] at hb ⊢;refine Gu l _ (pre++[o']) (by simp [hl]) (fun j o ho i hb => ?_) j o ho i hb
  by_cases hj:j<pre.length
  ·rw [List.getElem?_append_left hj] at ho;rw [List.getD_eq_getElem?_getD,List.getElem?_append_left (by omega),<-List.getD_eq_getElem?_getD] at hb;obtain ⟨e,he,hbd,h2⟩:=h j o ho i hb;refine ⟨e,he,hbd,?_⟩;rcases h2 with h2 | ⟨h2,h3⟩
   ·exact .inl h2
   ·refine .inr ⟨h2,?_⟩;rw [List.getD_eq_getElem?_getD,List.getElem?_append_left (by omega),<-List.getD_eq_getElem?_getD];exact h3
  ·have hj':j=pre.length:=by
    have:j<(pre++[o']).length:=(List.getElem?_eq_some_iff.1 ho).1;simp at this; omega
   subst hj';simp only [List.getElem?_concat_length,Option.some.injEq] at ho;subst ho;rw [<-hl] at hb;rw [List.getD_eq_getElem?_getD,List.getElem?_concat_length] at hb;simp only [Option.getD_some] at hb;rcases BV _ _ hb with h1 | ⟨e,he,hbd,h2⟩
   ·simp at h1
   ·refine ⟨e,he,hbd,?_⟩;rcases h2 with h2 | h2
    ·exact .inl h2
    ·have hlt:e.on<acc.length:=by
      rcases Nat.lt_or_ge e.on acc.length with h' | h'
      ·exact h'
      ·rw [List.getD_eq_getElem?_getD,List.getElem?_eq_none h'] at h2; simp at h2
     refine .inr ⟨by omega,?_⟩;rw [List.getD_eq_getElem?_getD,List.getElem?_append_left hlt,<-List.getD_eq_getElem?_getD];exact h2
theorem zey {ops:Array Oper} (listed:Array Bool) (i j:Nat) (hcl:L8 ops listed) (hi:i∈Region.ready .any ops listed) (hj:j∈Region.ready .any ops listed) (_:i≠j):zak (UI ops.toList []) i j=true:=by
 unfold zak;rw [Bool.not_eq_true'];rw [Bool.eq_false_iff];intro hb;have hspec:=Gu ops.toList [] [] rfl (fun j o ho=>by simp at ho);simp only [List.nil_append] at hspec;have hin:=(mem_ready.1 hi).1
 have no:listed.getD i false≠true:=fun h=>by
  rcases Nat.lt_or_ge i listed.size with h' | h'
  ·simp [h'] at h hin; rw [h] at hin; cases hin
  ·simp [Array.getElem?_eq_none h'] at h
 have key:∀k:Nat,∀o,ops[k]? = some o->(∀e∈o.after,Region.binds .any e=true->listed.getD e.on false=true)->((UI ops.toList []).getD k 0).testBit i=true->False:=by
  intro k
  induction k using Nat.strongRecOn with
  | _ k ih=>
   intro o ho hall hb;obtain ⟨e,he,hbd,h2⟩:=hspec k o (by simpa using ho) i hb;have he':e∈o.after:=by rw [<-Array.mem_toList_iff]; exact he
   have hl:=hall e he' hbd;rcases h2 with h2 | ⟨h2,h3⟩
   ·rw [h2] at hl; exact no hl
   ·have hlt:e.on<ops.size:=Nat.lt_trans h2 (Array.getElem?_eq_some_iff.1 ho).1;have hoe:ops[e.on]? = some ops[e.on]:=Array.getElem?_eq_getElem hlt;refine ih e.on h2 _ hoe (hcl e.on _ hoe ?_) h3;rcases Nat.lt_or_ge e.on listed.size with h' | h'
    ·simp [h'] at hl ⊢; exact hl
    ·simp [Array.getElem?_eq_none h'] at hl
 obtain ⟨_,o,ho,hall⟩:=mem_ready.1 hj;exact key j o ho hall hb
def Ly (C:Vj) (ops:Array Oper):List Nat->Option Nat
 | []=>none
 | i::r=>match ops[i]? with
  | some o=>bif GN C o.op then Ly C ops r else some i
  | none=>Ly C ops r
theorem Mz {C:Vj} {ops:Array Oper}:∀{l:List Nat} {i:Nat},Ly C ops l=some i->i∈l/\∃o,ops[i]? = some o/\GN C o.op=false
 | [],_,h=>by cases h
 | j::r,i,h=>by
  simp only [Ly] at h
  split at h
  ·rename_i o ho
   cases he:GN C o.op with
   | true=>
    rw [he] at h;obtain ⟨h1,h2⟩:=Mz h;exact ⟨List.mem_cons_of_mem _ h1,h2⟩
   | false=>
    rw [he] at h;simp only [cond_false,Option.some.injEq] at h;subst h;exact ⟨List.mem_cons_self ..,o,ho,he⟩
  ·obtain ⟨h1,h2⟩:=Mz h;exact ⟨List.mem_cons_of_mem _ h1,h2⟩
def DI (M:List Nat) (i:Nat) (S:St) (w:World):List (Nat×Ad)->Prop->Prop
 | [],A=>A
 | (j,f)::r,A=>bif zak M j i then f S w/\DI M i S w r A else DI M i S w r A
theorem PN {M:List Nat} {i:Nat} {S:St} {w:World}:∀{l:List (Nat×Ad)} {A:Prop},DI M i S w l A->A/\∀p∈l,zak M p.1 i=true->p.2 S w
 | [],A,h=>⟨h,fun p hp=>by cases hp⟩
 | (j,f)::r,A,h=>by
  simp only [DI] at h
  cases hu:zak M j i with
  | true=>
   rw [hu] at h;obtain ⟨h1,h2⟩:=h;obtain ⟨h3,h4⟩:=PN h2;refine ⟨h3,fun p hp hpu => ?_⟩;rcases List.mem_cons.1 hp with rfl | hp
   ·exact h1
   ·exact h4 p hp hpu
  | false=>
   rw [hu] at h;obtain ⟨h3,h4⟩:=PN (A:=A) h;refine ⟨h3,fun p hp hpu => ?_⟩;rcases List.mem_cons.1 hp with rfl | hp
   ·rw [hu] at hpu; cases hpu
   ·exact h4 p hp hpu
def zff (l:List Nat) (A:Nat->Prop):Prop:=
 match l with
 | []=>True
 | [i]=>A i
 | i::r=>A i/\zff r A
theorem BK:∀{l:List Nat} {A:Nat->Prop},zff l A->∀i∈l,A i
 | [],_,_,_,hi=>by cases hi
 | [j],A,h,i,hi=>by simp only [List.mem_singleton] at hi; subst hi; exact h
 | j::k::r,A,h,i,hi=>by
  rcases List.mem_cons.1 hi with rfl | hi
  ·exact h.1
  ·exact BK h.2 i hi
def zhw (i:Nat) (f:Ox) (pend:List (Nat×Ad)):List (Nat×Ad):=
 match f with
 | some f=>(i,f)::pend
 | none=>pend
def Lx (C:Vj) (ops:Array Oper) (M:List Nat):Nat->Array Bool->List (Nat×Ad)->St->World->(St->World->Prop)->Prop
 | 0,listed,_,S,w,K=>match Region.ready .any ops listed with
  | []=>K S w
  | _=>False
 | n+1,listed,pend,S,w,K=>match Region.ready .any ops listed with
  | []=>K S w
  | rs=>match Ly C ops rs with
   | some i=>match ops[i]? with
    | some o=>bif Region.free .any ops listed i then BN C ops (fun j=>listed.getD j false) o S w fun f S' w'=>Lx C ops M n (listed.setIfInBounds i true) (zhw i f pend) S' w' K else False
    | none=>False
   | none=>zff rs fun i=>match ops[i]? with
    | some o=>BN C ops (fun j=>listed.getD j false) o S w fun _ S' w'=>DI M i S' w' pend (Lx C ops M n (listed.setIfInBounds i true) pend S' w' K)
    | none=>False
theorem zfi {C:Vj} (E:zkf C) {ops:Array Oper} {D D':Nat->Prop} {dn:Nat->Bool} {i:Nat} {o:Oper} {S:St} {w:World} {a:Act} {K:Ox->St->World->Prop}
  (hu:Ho ops=true) (ho:ops[i]? = some o) (hi:¬D i) (hD:∀j,D j->zkc ops j) (hDD:∀j,D j->D' j) (hdn:∀j,dn j=true->zkc ops j->D j)
  (hf:OG C.n S ops D a) (hwf:Mo S) (he:GN C o.op=false) (h:BN C ops dn o S w K) :
  ∃f v S',K f S' w/\OG C.n S' ops D' (a.put o.dst v)/\Mo S'/\OH S S'/\S'.r=S.r/\S'.old=S.old/\(∀w wr,Z7 S w wr↔Z7 S' w wr)/\YS C.P (Z7 S w) (JF ops o a) v/\
   (∀(S'':St) (w'':World),OH S S''->zfp f S'' w''->YS C.P (Z7 S'' w'') (JF ops o a) v):=by
 unfold BN at h
 cases hb:(zqm dn o && !Lm o) with
 | false=>rw [hb] at h; exact h.elim
 | true=>
  rw [hb] at h;simp only [cond_true] at h;simp only [Bool.and_eq_true,Bool.not_eq_true'] at hb
  have hg:∀j b,o.guard=some (j,b)->D j:=fun j b hgd=>by
   refine hdn j ?_ ⟨o,by rw [Array.mem_toList_iff]; exact Array.mem_of_getElem? ho,b,hgd⟩;have:=hb.1;unfold zqm at this;rw [hgd] at this;exact this
  split at h
  ·exact h.elim
  ·rename_i pc hpc;have hpcD:=zf2 hf hpc hg;have hwant:=MR hf.fit hpc
   have hrel:∀{sv:SV} (w wr:World),Z7 S w wr↔Z7 (S.putF o.dst sv) w wr:=fun {sv} w wr=>by
    cases o.dst
    ·exact Iff.rfl
    ·exact ⟨fun h=>⟨h.ext,h.loc,h.len,h.dist,h.fresh⟩,fun h=>⟨h.ext,h.loc,h.len,h.dist,h.fresh⟩⟩
   cases hdd:HQ S ops pc o with
   | true=>
    rw [hdd] at h;simp only [cond_true] at h;have hp:=Lp hf.fit hpc hdd;have hw1:¬Region.wanted o (yielded ops a.tmps)=true:=fun hw1=>hp (hwant.1 hw1)
    obtain ⟨h1,h2⟩:=Y6 h;have hs:JF ops o a=none:=by unfold JF; rw [if_neg hw1]
    refine ⟨none,undef,_,h1,hf.put hu ho hi hD hDD hpcD h2 ⟨fun hp'=>absurd hp' hp,fun _=>rfl⟩,hwf.putF _ _,(OH.refl S).putF _ _,by cases o.dst <;> rfl,by cases o.dst <;> rfl,hrel,?_,fun S'' w'' hfr hfc => ?_⟩ <;> (rw [hs]; rfl)
   | false=>
   rw [hdd] at h;rw [he] at h;simp only [cond_false] at h
   by_cases hp:LS ops a pc
   ·have hw1:=hwant.2 hp;obtain ⟨e,fact,v,hK,hden,hfact,hq⟩:=CP E.T E.pf hf.fit hp h;obtain ⟨h1,h2⟩:=Y6 hK;refine ⟨fact,v,_,h1,hf.put hu ho hi hD hDD hpcD h2 ⟨fun _=>hden,fun hn=>absurd hp hn⟩,hwf.putF _ _,(OH.refl S).putF _ _,by cases o.dst <;> rfl,by cases o.dst <;> rfl,hrel,?_,fun S'' w'' hfr hfc => ?_⟩
    ·unfold JF; rw [if_pos hw1]; exact fun wr hw=>hq S w a rfl (fun _ _ h=>h) hfact wr hw
    ·unfold JF; rw [if_pos hw1]; exact fun wr hw=>hq S'' w'' a rfl hfr.B hfc wr hw
   ·have hw1:¬Region.wanted o (yielded ops a.tmps)=true:=fun hw1=>hp (hwant.1 hw1)
    obtain ⟨e,fact,hK⟩:=zdd h;obtain ⟨h1,h2⟩:=Y6 hK;have hs:JF ops o a=none:=by unfold JF; rw [if_neg hw1]
    refine ⟨fact,undef,_,h1,hf.put hu ho hi hD hDD hpcD h2 ⟨fun hp'=>absurd hp' hp,fun _=>rfl⟩,hwf.putF _ _,(OH.refl S).putF _ _,by cases o.dst <;> rfl,by cases o.dst <;> rfl,hrel,?_,fun S'' w'' hfr hfc => ?_⟩ <;> (rw [hs]; rfl)
def zk6 (C:Vj) (ops:Array Oper) (draw:Bool) (S:St) (w:World) (K:St->World->Prop):Prop:=
 bif Ho ops then
  (bif draw then
   (bif Region.noSelect ops then Lx C ops (UI ops.toList []) ops.size (Array.replicate ops.size false) [] { S with r:=S.r+1 } w fun S' w'=>K { S' with r:=S'.r+1 } w' else False)
  else zk7 C ops ops.toList 0 { S with r:=S.r+1 } w fun S' w'=>K { S' with r:=S'.r+1 } w')
 else False
structure Td (n:Nat) (S:St) (a:Act):Prop where
 size:a.tmps.size=n
 fits:∀i x,S.F.get i=some (.un x)->EV.den S x (a.tmps.getD i undef)
 old:∀i r pc x,S.F.get i=some (.gd r pc x)->r<S.r
theorem Td.enter {n:Nat} {S:St} {a:Act} (h:Td n S a) (ops:Array Oper) (D:Nat->Prop):OG n { S with r:=S.r+1 } ops D a:=
 ⟨⟨h.size,fun i s hs=>by
  cases s with
  | un x=>exact EV.den_mono (S:=S) (fun _ _ h=>h) (h.fits i x hs)
  | gd r pc x=>intro hr; have:=h.old i r pc x hs; simp only at hr; omega⟩,fun i pc x hx=>by have:=h.old i _ pc x hx; simp only at this; omega,fun i r pc x hx=>by have:=h.old i r pc x hx; show r<=S.r+1; omega⟩
theorem OG.leave {n:Nat} {S:St} {ops:Array Oper} {D:Nat->Prop} {a:Act} (h:OG n S ops D a):Td n { S with r:=S.r+1 } a:=
 ⟨h.fit.size,fun i x hx=>EV.den_mono (S:=S) (fun _ _ h=>h) (h.fit.fits i (.un x) hx),fun i r pc x hx=>Nat.lt_succ_of_le (h.st i r pc x hx)⟩
theorem zi0 {C:Vj} {ops:Array Oper} {D D':Nat->Prop} {dn:Nat->Bool} {i:Nat} {o:Oper} {S:St} {w:World} {a:Act} {K:Ox->St->World->Prop}
  (hu:Ho ops=true) (ho:ops[i]? = some o) (hi:¬D i) (hD:∀j,D j->zkc ops j) (hDD:∀j,D j->D' j) (hdn:∀j,dn j=true->zkc ops j->D j)
  (hf:OG C.n S ops D a) (hwf:Mo S) (he:GN C o.op=true) (hw1:¬Region.wanted o (yielded ops a.tmps)=true) (h:BN C ops dn o S w K) :
  ∃S',K none S' w/\OG C.n S' ops D' (a.put o.dst undef)/\Mo S'/\OH S S'/\S'.r=S.r/\S'.old=S.old/\(∀w wr,Z7 S w wr↔Z7 S' w wr):=by
 unfold BN at h
 cases hb:(zqm dn o && !Lm o) with
 | false=>rw [hb] at h; exact h.elim
 | true=>
  rw [hb] at h;simp only [cond_true] at h;simp only [Bool.and_eq_true,Bool.not_eq_true'] at hb
  have hg:∀j b,o.guard=some (j,b)->D j:=fun j b hgd=>by
   refine hdn j ?_ ⟨o,by rw [Array.mem_toList_iff]; exact Array.mem_of_getElem? ho,b,hgd⟩;have:=hb.1;unfold zqm at this;rw [hgd] at this;exact this
  split at h
  ·exact h.elim
  ·rename_i pc hpc;have hpcD:=zf2 hf hpc hg;have hwant:=MR hf.fit hpc
   have hrel:∀{sv:SV} (w wr:World),Z7 S w wr↔Z7 (S.putF o.dst sv) w wr:=fun {sv} w wr=>by
    cases o.dst
    ·exact Iff.rfl
    ·exact ⟨fun h=>⟨h.ext,h.loc,h.len,h.dist,h.fresh⟩,fun h=>⟨h.ext,h.loc,h.len,h.dist,h.fresh⟩⟩
   cases hdd:HQ S ops pc o with
   | true=>
    rw [hdd] at h;simp only [cond_true] at h;have hp:=Lp hf.fit hpc hdd;obtain ⟨h1,h2⟩:=Y6 h;exact ⟨_,h1,hf.put hu ho hi hD hDD hpcD h2 ⟨fun hp'=>absurd hp' hp,fun _=>rfl⟩,hwf.putF _ _,(OH.refl S).putF _ _,by cases o.dst <;> rfl,by cases o.dst <;> rfl,hrel⟩
   | false=>
   rw [hdd] at h;simp only [cond_false] at h;rw [he] at h;simp only [cond_true] at h
   split at h
   ·exact absurd (hwant.2 (fun p hp=>by cases hp)) hw1
   ·cases hpo:zjp S ops pc with
    | false=>rw [hpo] at h; exact h.elim
    | true=>
     rw [hpo] at h;simp only [cond_true] at h;have hp:¬LS ops a pc:=fun hp=>hw1 (hwant.2 hp)
     obtain ⟨h1,h2⟩:=Y6 (h.2 (zbp hf.fit hpo hp));exact ⟨_,h1,hf.put hu ho hi hD hDD hpcD h2 ⟨fun hp'=>absurd hp' hp,fun _=>rfl⟩,hwf.putF _ _,(OH.refl S).putF _ _,by cases o.dst <;> rfl,by cases o.dst <;> rfl,hrel⟩
theorem My {C:Vj} {ops:Array Oper}:∀{l:List Nat},Ly C ops l=none->∀i∈l,∀o,ops[i]? = some o->GN C o.op=true
 | [],_,i,hi,_,_=>by cases hi
 | j::r,h,i,hi,o,ho=>by
  simp only [Ly] at h
  split at h
  ·rename_i o' ho'
   cases he:GN C o'.op with
   | false=>rw [he] at h; cases h
   | true=>
    rw [he] at h;rcases List.mem_cons.1 hi with rfl | hi
    ·rw [ho'] at ho; cases ho; exact he
    ·exact My h i hi o ho
  ·rename_i ho';rcases List.mem_cons.1 hi with rfl | hi
   ·rw [ho'] at ho; cases ho
   ·exact My h i hi o ho
theorem zbf {ops:Array Oper} {i:Nat} {o:Oper} (ho:ops[i]? = some o):∀x,o.dst=some x->x∈Mw ops.toList:=fun x hx=>by
 have hm:o∈ops.toList:=by rw [Array.mem_toList_iff]; exact Array.mem_of_getElem? ho
 generalize ops.toList=q at hm
 induction q with
 | nil=>cases hm
 | cons y q ih=>
  simp only [Mw];rcases List.mem_cons.1 hm with rfl | hm
  ·rw [hx]; exact List.mem_cons_self ..
  ·split
   ·exact List.mem_cons_of_mem _ (ih hm)
   ·exact ih hm
def DL (ops:Array Oper) (listed:Array Bool) (j:Nat):Prop:=listed.getD j false=true/\zkc ops j
def PQ (C:Vj) (ops:Array Oper) (K:St->World->Prop) (S0:St) (w0:World) (a0:Act) (ds:List Nat) (a:Act) (R:World->Prop):Prop:=
 ∃S' w',K S' w'/\Td C.n { S' with r:=S'.r+1 } a/\Mo S'/\OH S0 S'/\S'.r=S0.r/\Lb ds a0 a/\(C.pm=true->w'=w0/\S'.old=S0.old)/\R=Z7 S' w'
theorem TB {C:Vj} (E:zkf C) {ops:Array Oper} (hu:Ho ops=true) (hsel:Region.noSelect ops=true) {K:St->World->Prop} {S0:St} {w0:World} {a0:Act} {ds:List Nat} (hds:∀x∈Mw ops.toList,x∈ds) :
  ∀(n:Nat) (listed:Array Bool) (pend:List (Nat×Ad)) (Pd:List (Nat×Option (Sem Next)×Value)) (S:St) (w:World) (a:Act),Lx C ops (UI ops.toList []) n listed pend S w K->L8 ops listed->
   OG C.n S ops (DL ops listed) a->Mo S->OH S0 S->S.r=S0.r->Lb ds a0 a->(C.pm=true->w=w0/\S.old=S0.old)->
   (∀p∈Pd,(∃f:Ad,(p.1,f)∈pend/\∀(S'':St) (w'':World),OH S S''->f S'' w''->YS C.P (Z7 S'' w'') p.2.1 p.2.2)\/(∀(S'':St) (w'':World),OH S S''->YS C.P (Z7 S'' w'') p.2.1 p.2.2))->
   Kb C.P ops (zak (UI ops.toList [])) (PQ C ops K S0 w0 a0 ds) n listed Pd a (Z7 S w)
 | 0,listed,pend,Pd,S,w,a,h,hcl,hf,hwf,hfr,hr,hfa,hpm,hpd=>by
  simp only [Lx] at h
  split at h
  ·rename_i hrd;exact ⟨hrd,S,w,h,hf.leave,hwf,hfr,hr,hfa,hpm,rfl⟩
  ·exact h.elim
 | n+1,listed,pend,Pd,S,w,a,h,hcl,hf,hwf,hfr,hr,hfa,hpm,hpd=>by
  simp only [Lx] at h
  split at h
  ·rename_i hrd;exact ⟨fun _=>⟨S,w,h,hf.leave,hwf,hfr,hr,hfa,hpm,rfl⟩,fun i hi=>by rw [hrd] at hi; cases hi⟩
  ·rename_i hrd
   split at h
   ·rename_i i hi;obtain ⟨him,o',ho',he⟩:=Mz hi
    split at h
    ·rename_i o ho;rw [ho] at ho'; cases ho'
     cases hfree:Region.free .any ops listed i with
     | false=>rw [hfree] at h; exact h.elim
     | true=>
      rw [hfree] at h;simp only [cond_true] at h;obtain ⟨hun,_,_,hall⟩:=mem_ready.1 him
      have hni:¬DL ops listed i:=fun hd=>by
       have h1:=hd.1;rcases Nat.lt_or_ge i listed.size with h' | h'
       ·simp [h'] at h1 hun; rw [h1] at hun; cases hun
       ·simp [Array.getElem?_eq_none h'] at h1
      obtain ⟨f,v,S',hK,hf',hwf',hfr',hr',hold',hrel,hys,hyf⟩:=zfi E (i:=i) (D':=DL ops (listed.setIfInBounds i true)) hu ho hni (fun j hj=>hj.2) (fun j hj=>⟨getD_set_true hj.1,hj.2⟩) (fun j h1 h2=>⟨h1,h2⟩) hf hwf he h
      have hcl':L8 ops (listed.setIfInBounds i true):=fun k ok hk hkl e he hb=>by
       by_cases hik:i=k
       ·subst hik;rw [ho] at hk; cases hk;obtain ⟨_,o2,ho2,hall2⟩:=mem_ready.1 him;rw [ho] at ho2; cases ho2;exact getD_set_true (hall2 e he hb)
       ·rw [getD_set_ne true hik] at hkl;exact getD_set_true (hcl k ok hk hkl e he hb)
      have heq:Z7 S w=Z7 S' w:=funext fun wr=>propext (hrel w wr)
      refine zgo (fun j o cs b hj=>Region.noSelect_spec hsel j o cs b hj) (fun listed i j h1 h2 h3 h4=>zey listed i j h1 h2 h3 h4) ho n listed Pd a (Z7 S w) hcl (fun j oj hj hji hjun hno=>Region.free_spec ho hfree j oj hj hji hjun hno) him hys ?_;rw [heq];refine TB E hu hsel hds n _ (zhw i f pend) _ S' w _ hK hcl' hf' hwf' (hfr.trans hfr') (hr'.trans hr) (hfa.trans (Lb.put a _ v ds fun x hx=>hds x (zbf ho x hx))) (fun hp=>⟨(hpm hp).1,hold'.trans (hpm hp).2⟩) fun p hp => ?_
      rcases List.mem_cons.1 hp with rfl | hp
      ·cases f with
       | none=>exact .inr fun S'' w'' hs=>hyf S'' w'' (hfr'.trans hs) trivial
       | some f=>exact .inl ⟨f,List.mem_cons_self ..,fun S'' w'' hs hfc=>hyf S'' w'' (hfr'.trans hs) hfc⟩
      ·rcases hpd p hp with ⟨f',hm,hs'⟩ | hs'
       ·refine .inl ⟨f',?_,fun S'' w'' hs hfc=>hs' S'' w'' (hfr'.trans hs) hfc⟩
        cases f with
        | none=>exact hm
        | some f=>exact List.mem_cons_of_mem _ hm
       ·exact .inr fun S'' w'' hs=>hs' S'' w'' (hfr'.trans hs)
    ·exact h.elim
   ·rename_i hnone;refine ⟨fun h0=>absurd h0 (by assumption),fun i hi o ho => ?_⟩;have h1:=BK h i hi;rw [ho] at h1;simp only at h1;have he:=My hnone i hi o ho;obtain ⟨hun,o2,ho2,hall⟩:=mem_ready.1 hi;rw [ho] at ho2; cases ho2
    have hni:¬DL ops listed i:=fun hd=>by
     have h1:=hd.1;rcases Nat.lt_or_ge i listed.size with h' | h'
     ·simp [h'] at h1 hun; rw [h1] at hun; cases hun
     ·simp [Array.getElem?_eq_none h'] at h1
    have hcl':L8 ops (listed.setIfInBounds i true):=fun k ok hk hkl e he hb=>by
     by_cases hik:i=k
     ·subst hik;rw [ho] at hk; cases hk;exact getD_set_true (hall e he hb)
     ·rw [getD_set_ne true hik] at hkl;exact getD_set_true (hcl k ok hk hkl e he hb)
    by_cases hw1:Region.wanted o (yielded ops a.tmps)=true
    case neg=>
     obtain ⟨S',hK,hf',hwf',hfr',hr',hold',hrel⟩:=zi0 (i:=i) (D':=DL ops (listed.setIfInBounds i true)) hu ho hni (fun j hj=>hj.2) (fun j hj=>⟨getD_set_true hj.1,hj.2⟩) (fun j h1 h2=>⟨h1,h2⟩) hf hwf he hw1 h1;obtain ⟨hev,_⟩:=PN hK;have heq:Z7 S w=Z7 S' w:=funext fun wr=>propext (hrel w wr)
     have hs0:JF ops o a=none:=by unfold JF; rw [if_neg hw1]
     refine .inl ⟨undef,by rw [hs0]; rfl,?_⟩;rw [heq];refine TB E hu hsel hds n _ pend _ S' w _ hev hcl' hf' hwf' (hfr.trans hfr') (hr'.trans hr) (hfa.trans (Lb.put a _ _ ds fun x hx=>hds x (zbf ho x hx))) (fun hp=>⟨(hpm hp).1,hold'.trans (hpm hp).2⟩) fun p hp => ?_
     rcases List.mem_cons.1 hp with rfl | hp
     ·exact .inr fun S'' w'' hs=>by rw [hs0]; rfl
     ·rcases hpd p hp with ⟨f',hm,hs'⟩ | hs'
      ·exact .inl ⟨f',hm,fun S'' w'' hs hfc=>hs' S'' w'' (hfr'.trans hs) hfc⟩
      ·exact .inr fun S'' w'' hs=>hs' S'' w'' (hfr'.trans hs)
    refine .inr ⟨hw1,fun wr hwr => ?_⟩
    have hstep:=BO E (i:=i) (D':=DL ops (listed.setIfInBounds i true))
     (N:=fun a' w'=>(∃v,a'=a.put o.dst v)/\∃S' w'',DI (UI ops.toList []) i S' w'' pend (Lx C ops (UI ops.toList []) n (listed.setIfInBounds i true) pend S' w'' K)/\zpu C S w ops (DL ops (listed.setIfInBounds i true)) o a S' w'' a' w') (Q:=fun _ _ _=>False)
     hu ho hni (fun j hj=>hj.2) (fun j hj=>⟨getD_set_true hj.1,hj.2⟩) (fun j h1 h2=>⟨h1,h2⟩) hf hwr hwf (fun f S' w' a' wr' hK hL=>⟨hL.put,S',w',hK,hL⟩) h1
    rw [if_pos hw1] at hstep;refine HX (fun v w' hN => ?_) (zfg (zn1 h1) hstep fun a' w' hN=>hN.1);obtain ⟨_,S',w'',hpo,hL⟩:=hN;obtain ⟨hev,hfacts⟩:=PN hpo;refine ⟨Z7 S' w'',hL.rel,fun p hp hpu => ?_,TB E hu hsel hds n _ pend Pd S' w'' _ hev hcl' hL.fit hL.wf (hfr.trans hL.fr) (hL.r.trans hr) (hfa.trans (Lb.put a o.dst v ds fun x hx=>hds x (zbf ho x hx))) (fun hp=>⟨(hL.pm hp).1.trans (hpm hp).1,(hL.pm hp).2.trans (hpm hp).2⟩) fun p hp => ?_⟩
    ·rcases hpd p hp with ⟨f',hm,hs'⟩ | hs'
     ·exact hs' S' w'' hL.fr (hfacts _ hm hpu)
     ·exact hs' S' w'' hL.fr
    ·rcases hpd p hp with ⟨f',hm,hs'⟩ | hs'
     ·exact .inl ⟨f',hm,fun S'' w3 hs hfc=>hs' S'' w3 (hL.fr.trans hs) hfc⟩
     ·exact .inr fun S'' w3 hs=>hs' S'' w3 (hL.fr.trans hs)
structure YO where
 chg:List (Nat×CK)
 chgL:List (Nat×List CK)
 keep:List Nat
 newL:List (TypeId×List CK):=[]
 ptr:List (Nat×Nat):=[]
def J0:Code->List Nat
 | .region _ ops _=>Mw ops.toList
 | .seq a b=>J0 a++J0 b
 | .cond _ a b=>J0 a++J0 b
 | .block _ b=>J0 b
 | .loop b=>J0 b
 | .scope b=>J0 b
 | _=>[]
def GW:Code->Option Nat
 | .region id _ _=>some id
 | .seq a b=>match GW a with
  | some k=>some k
  | none=>GW b
 | .cond _ a b=>match GW a with
  | some k=>some k
  | none=>GW b
 | .block _ b=>GW b
 | .loop b=>GW b
 | .scope b=>GW b
 | _=>none
def zft:CK->Value->Bool
 | .int k,.int k' _=>decide (k=k')
 | .bool,.bool _=>true
 | .str,.string _=>true
 | .slice,.slice _ _ _=>true
 | .ptr,.pointer _=>true
 | .fn,.func _ _ _=>true
 | .iface,_=>true
 | .map,_=>true
 | .other,_=>true
 | _,_=>false
def zry:CK->(Value->Prop)->Prop
 | .int k,K=>∀n:Int,K (.int k n)
 | .bool,K=>∀b:Bool,K (.bool b)
 | .str,K=>∀s:ByteArray,K (.string s)
 | .slice,K=>∀(o:OA) (l c:Nat),K (.slice o l c)
 | .ptr,K=>∀o:OA,K (.pointer o)
 | .fn,K=>∀(f:Fn) (a c:Array Value),K (.func f a c)
 | _,K=>∀v:Value,K v
def Gt:List CK->(List Value->Prop)->Prop
 | [],K=>K []
 | k::r,K=>zry k fun v=>Gt r fun l=>K (v::l)
theorem zkm {k:CK} {K:Value->Prop} (h:zry k K) {v:Value} (hv:zft k v=true):K v:=by
 cases k <;> cases v <;> simp only [zft] at hv <;> first
  | exact h _
  | exact h _ _ _
  | (cases hv; done)
  | (simp only [decide_eq_true_eq] at hv; subst hv; exact h _)
def J8:List CK->List Value->Bool
 | [],[]=>true
 | k::r,v::l=>zft k v&&J8 r l
 | _,_=>false
theorem Vm:∀{ks:List CK} {K:List Value->Prop} {vs:List Value},Gt ks K->J8 ks vs=true->K vs
 | [],_,[],h,_=>h
 | k::r,K,v::l,h,hk=>by
  simp only [J8,Bool.and_eq_true] at hk;exact Vm (K:=fun l=>K (v::l)) (zkm (K:=fun v=>Gt r fun l=>K (v::l)) h hk.1) hk.2
 | [],_,_::_,_,hk=>by simp [J8] at hk
 | _::_,_,[],_,hk=>by simp [J8] at hk
def K8 (S:St):List (Nat×CK)->Option (List Value)
 | []=>some []
 | (i,_)::r=>match S.F.get i with
  | some (.un e)=>match zpw S e,K8 S r with
   | some x,some l=>some (x::l)
   | _,_=>none
  | _=>none
def Pr (S:St):List (Nat×List CK)->Option (List Value)
 | []=>some []
 | (id,ks)::r=>match S.L[id]?,Pr S r with
  | some (_,cs),some l=>bif Nat.beq cs.length ks.length then some (cs++l) else none
  | _,_=>none
def YO.ks (sp:YO):List CK:=sp.chg.map (·.2)++sp.chgL.flatMap (·.2)
def N1 (S:St) (sp:YO) (K:List Value->Prop):Prop:=
 match K8 S sp.chg,Pr S sp.chgL with
 | some xs,some ys=>bif J8 sp.ks (xs++ys) then K (xs++ys) else False
 | _,_=>False
def CV (F:PT SV):List Nat->PT SV
 | []=>.leaf
 | i::r=>match F.get i with
  | some (.un e)=>PT.set 12 (CV F r) i (.un e)
  | _=>CV F r
def zh5 (F:PT SV):List (Nat×CK)->List Value->PT SV
 | (i,_)::r,v::vs=>PT.set 12 (zh5 F r vs) i (.un (.v v))
 | _,_=>F
def JW (L:List (TypeId×List Value)):List (Nat×List CK)->List Value->List (TypeId×List Value)
 | [],_=>L
 | (id,ks)::r,vs=>match L[id]? with
  | some (t,_)=>JW (L.set id (t,vs.take ks.length)) r (vs.drop ks.length)
  | none=>JW L r (vs.drop ks.length)
def L3 (S:St) (sp:YO):List Nat:=(List.range S.L.length).filter fun id => !OU (sp.chgL.map (·.1)) id
def Y5 (S:St) (sp:YO) (vs:List Value):St:=
 { S with F:=zh5 (CV S.F sp.keep) sp.chg (vs.take sp.chg.length),L:=JW S.L sp.chgL (vs.drop sp.chg.length),lk:=L3 S sp }
def Nu:List Nat->Bool
 | []=>true
 | x::r => !OU r x&&Nu r
def zjz (S:St) (sp:YO) (ds:List Nat):Bool:=
 (sp.keep.all fun i => !OU ds i&&Nat.blt i 4000)&&(sp.chg.all fun p=>Nat.blt p.1 4000 && !OU sp.keep p.1)&&Nu (sp.chg.map (·.1))&&Nu (sp.chgL.map (·.1))&&(sp.chgL.all fun p=>match S.L[p.1]? with
  | some (_,cs)=>Nat.beq cs.length p.2.length && !OU S.lk p.1
  | none=>false)
def YO.nks (sp:YO):List CK:=sp.newL.flatMap (·.2)
def zgz:Nat->(List Nat->Prop)->Prop
 | 0,K=>K []
 | n+1,K=>∀b:Nat,zgz n fun l=>K (b::l)
theorem HM:∀{n:Nat} {K:List Nat->Prop} {bs:List Nat},zgz n K->bs.length=n->K bs
 | 0,_,[],h,_=>h
 | n+1,K,b::l,h,hl=>HM (K:=fun l=>K (b::l)) (h b) (by simpa using hl)
 | 0,_,_::_,_,hl=>by simp at hl
 | _+1,_,[],_,hl=>by simp at hl
def MP:List (TypeId×List CK)->List Value->List (TypeId×List Value)
 | [],_=>[]
 | (t,ks)::r,vs=>(t,vs.take ks.length)::MP r (vs.drop ks.length)
def q7 (S:St):Nat->List (TypeId×List CK)->Option (List Value)
 | _,[]=>some []
 | n,(t,ks)::r=>match S.L[n]?,q7 S (n+1) r with
  | some (t',cs),some l=>bif Nat.beq t' t&&Nat.beq cs.length ks.length then some (cs++l) else none
  | _,_=>none
def v9 (S:St) (n k:Nat) (l:List (Nat×Nat)):Bool:=l.all fun p=>Nat.blt p.1 4000&&Nat.blt p.2 k&&match S.F.get p.1 with
 | some (.un (.loc id 0))=>Nat.beq id (n+p.2)
 | _=>false
def zh4 (F:PT SV) (n:Nat):List (Nat×Nat)->PT SV
 | []=>F
 | (i,j)::r=>PT.set 12 (zh4 F n r) i (.un (.loc (n+j) 0))
def KW (S:St) (sp:YO) (vs zs:List Value) (bs:List Nat):St:=
 { F:=zh4 (Y5 S sp vs).F S.L.length sp.ptr,L:=(Y5 S sp vs).L++MP sp.newL zs,B:=S.B++bs,old:=S.old,lk:=S.lk,r:=S.r }
def zhj (S S':St) (sp:YO) (K:List Value->List Nat->Prop):Prop:=
 match q7 S' S.L.length sp.newL with
 | some zs=>bif J8 sp.nks zs&&v9 S' S.L.length sp.newL.length sp.ptr then N1 S' sp fun vs=>K (vs++zs) ((S'.B.drop S.B.length).take sp.newL.length) else False
 | none=>False
def zr6 (sps:List (Nat×YO)) (b:Code):Option YO:=match sps with
 | []=>none
 | _=>match GW b with
  | some k=>ze6 sps (k+1000000)
  | none=>none
def setB (S:St) (c:Operand) (x:Bool):St:=
 match c with
 | .tmp t=>bif Nat.blt t 4000 then { S with F:=PT.set 12 S.F t (.un (.kb x)) } else S
 | _=>S
def zbm (C:Vj) (sps:List (Nat×YO)):Code->St->World->(Exit->St->World->Prop)->Prop
 | .skip,S,w,K=>K .normal S w
 | .label _,S,w,K=>K .normal S w
 | .region _ ops d,S,w,K=>zk6 C ops d S w (K .normal)
 | .seq a b,S,w,K=>match zr6 sps b with
  | none=>zbm C sps a S w fun e S' w'=>match e with
   | .normal=>zbm C sps b S' w' K
   | e=>K e S' w'
  | some sp=>bif zjz S sp (J0 a) then
    bif C.pm then
     ∃Mid:List Value->List Nat->Prop,(zbm C sps a { S with lk:=L3 S sp } w fun e S' w'=>match e with
       | .normal=>zhj S S' sp Mid
       | e=>K e { S' with lk:=S.lk } w')/\
      Gt sp.ks fun vs=>Gt sp.nks fun zs=>zgz sp.newL.length fun bs=>Mid (vs++zs) bs->zbm C sps b (KW S sp vs zs bs) w K
    else
     ∃Mid:List Value->List Nat->World->Prop,(zbm C sps a { S with lk:=L3 S sp } w fun e S' w'=>match e with
       | .normal=>∀wr,Q0 S'.bs w' wr->(∀b∈S'.B,b<wr.heap.size)->zhj S S' sp fun vs bs=>Mid vs bs wr
       | e=>K e { S' with lk:=S.lk } w')/\
      Gt sp.ks fun vs=>Gt sp.nks fun zs=>zgz sp.newL.length fun bs=>∀w1,(∀b∈S.B++bs,b<w1.heap.size)->Mid (vs++zs) bs w1->zbm C sps b (KW S sp vs zs bs).aged w1 K
   else False
 | .cond c a b,S,w,K=>match Ac S [] c with
  | some (.kb true)=>zbm C sps a S w K
  | some (.kb false)=>zbm C sps b S w K
  | some (.v (.bool x))=>(x=true->zbm C sps a (setB S c true) w K)/\(x=false->zbm C sps b (setB S c false) w K)
  | _=>False
 | .block id b,S,w,K=>zbm C sps b S w fun e S' w'=>match e with
  | .exit id'=>bif Nat.beq id' id then K .normal S' w' else K e S' w'
  | e=>K e S' w'
 | .scope b,S,w,K=>zbm C sps b S w fun e S' w'=>match e with
  | .goto _=>False
  | e=>K e S' w'
 | .exit id,S,w,K=>K (.exit id) S w
 | .ret,S,w,K=>K .ret S w
 | .loop b,S,w,K=>match GW b with
  | none=>False
  | some key=>match ze6 sps key with
   | none=>False
   | some sp=>bif zjz S sp (J0 b) then
     bif C.pm then
      ∃(XC:List Value->Prop) (μ:List Value->Nat),N1 S sp XC/\Gt sp.ks fun vs=>XC vs->zbm C sps b (Y5 S sp vs) w fun e S' w'=>match e with
       | .normal=>N1 S' sp fun vs'=>XC vs'/\μ vs'<μ vs
       | e=>K e { S' with lk:=S.lk } w'
     else
      ∃(XC:List Value->World->Prop) (μ:List Value->World->Nat),(∀wr,Q0 S.bs w wr->(∀b∈S.B,b<wr.heap.size)->N1 S sp fun vs=>XC vs wr)/\
       Gt sp.ks fun vs=>∀w1,(∀b∈S.B,b<w1.heap.size)->XC vs w1->zbm C sps b (Y5 S.aged sp vs) w1 fun e S' w'=>match e with
       | .normal=>∀wr,Q0 S'.bs w' wr->(∀b∈S'.B,b<wr.heap.size)->N1 S' sp fun vs'=>XC vs' wr/\μ vs' wr<μ vs w1
       | e=>K e { S' with lk:=S.lk } w'
    else False
 | _,_,_,_=>False
structure Px (C:Vj) (S:St) (w:World) (ds:List Nat) (a:Act) (S':St) (w':World) (a':Act) (wr':World):Prop where
 fit:Td C.n S' a'
 rel:Z7 S' w' wr'
 wf:Mo S'
 fr:OH S S'
 fra:Lb ds a a'
 pm:C.pm=true->w'=w/\S'.old=S.old
theorem Px.refl {C:Vj} {S:St} {w wr:World} {a:Act} (ds:List Nat) (h1:Td C.n S a) (h2:Z7 S w wr) (h3:Mo S):Px C S w ds a S w a wr:=⟨h1,h2,h3,OH.refl S,Lb.refl _ _,fun _=>⟨rfl,rfl⟩⟩
theorem Px.trans {C:Vj} {S S1 S2:St} {w w1 w2 wr1 wr2:World} {ds es fs:List Nat} {a a1 a2:Act} (h:Px C S w ds a S1 w1 a1 wr1) (k:Px C S1 w1 es a1 S2 w2 a2 wr2) (hd:∀x∈ds,x∈fs) (he:∀x∈es,x∈fs):Px C S w fs a S2 w2 a2 wr2:=
 ⟨k.fit,k.rel,k.wf,h.fr.trans k.fr,(h.fra.mono hd).trans (k.fra.mono he),fun hp=>⟨(k.pm hp).1.trans (h.pm hp).1,(k.pm hp).2.trans (h.pm hp).2⟩⟩
theorem Px.mono {C:Vj} {S S1:St} {w w1 wr1:World} {ds fs:List Nat} {a a1:Act} (h:Px C S w ds a S1 w1 a1 wr1) (hd:∀x∈ds,x∈fs):Px C S w fs a S1 w1 a1 wr1:=
 ⟨h.fit,h.rel,h.wf,h.fr,h.fra.mono hd,h.pm⟩
theorem zdc {C:Vj} (E:zkf C) {id:Nat} {ops:Array Oper} {d:Bool} {S:St} {w wr:World} {a:Act} {K:St->World->Prop} {Q:Exit->Act->World->Prop} (h:zk6 C ops d S w K)
  (hf:Td C.n S a) (hw:Z7 S w wr) (hwf:Mo S) (hQ:∀S' w' a' wr',K S' w'->Px C S w (Mw ops.toList) a S' w' a' wr'->Q .normal a' wr'):(Code.region id ops d).wpIn (Lz C.rd) 0 C.P Q a wr:=by
 unfold zk6 at h
 cases hu:Ho ops with
 | false=>rw [hu] at h; exact h.elim
 | true=>
  rw [hu] at h;simp only [cond_true] at h;have hrel:∀{S1:St} {w1 wr1:World},Z7 S1 w1 wr1->Z7 { S1 with r:=S1.r+1 } w1 wr1:=fun h=>⟨h.ext,h.loc,h.len,h.dist,h.fresh⟩
  have hwf1:Mo { S with r:=S.r+1 }:=⟨hwf.old,hwf.lk⟩
  cases d with
  | false=>
   simp only [cond_false] at h;refine wpIn_region_list ?_
   refine E6 E hu (S0:={ S with r:=S.r+1 }) (w0:=w) (a0:=a) (ds:=Mw ops.toList) (fun x hx=>hx) (fun S' w' a' wr' hK hf' hw' hwf' hfr' hr' hfa' hpm' => ?_) ops.toList 0 _ w wr a (fun j=>by simp) (by simp) h
    (hf.enter ops _) (hrel hw) hwf1 (OH.refl _) rfl (Lb.refl _ _) (fun _=>⟨rfl,rfl⟩)
   exact hQ _ _ _ _ hK ⟨hf'.leave,hrel hw',⟨hwf'.old,hwf'.lk⟩,⟨hfr'.B,hfr'.ty,hfr'.lk⟩,hfa',hpm'⟩
  | true=>
   simp only [cond_true] at h
   cases hs:Region.noSelect ops with
   | false=>rw [hs] at h; exact h.elim
   | true=>
    rw [hs] at h;simp only [cond_true] at h
    have hp:=TB E hu hs (S0:={ S with r:=S.r+1 }) (w0:=w) (a0:=a) (ds:=Mw ops.toList) (fun x hx=>hx) ops.size (Array.replicate ops.size false) [] [] _ w a h
     (fun j o _ hl=>by
      rcases Nat.lt_or_ge j ops.size with h' | h'
      ·simp [h'] at hl
      ·rename_i ho; rw [Array.getElem?_eq_none h'] at ho; cases ho)
     (hf.enter ops _) hwf1 (OH.refl _) rfl (Lb.refl _ _) (fun _=>⟨rfl,rfl⟩) (fun p hp=>by cases hp)
    refine wpIn_region_any E.mixed (PU (fun a' R w' hPQ hR => ?_) ops.size _ [] a (Z7 { S with r:=S.r+1 } w) { wr with drawn:=wr.drawn+1 } ?_ hp)
    ·obtain ⟨S',w1,hK,hf',hwf',hfr',hr',hfa',hpm',rfl⟩:=hPQ;exact hQ _ _ _ _ hK ⟨hf',hrel hR,⟨hwf'.old,hwf'.lk⟩,⟨hfr'.B,hfr'.ty,hfr'.lk⟩,hfa',hpm'⟩
    ·exact ⟨hw.ext.drawn _,hw.loc,hw.len,hw.dist,hw.fresh⟩
theorem Df {F:PT SV}:∀{l:List Nat} {i:Nat} {sv:SV},(∀x∈l,x<4000)->(CV F l).get i=some sv->i∈l/\F.get i=some sv/\∃e,sv = .un e
 | [],i,sv,_,h=>by simp [CV,PT.get] at h
 | k::r,i,sv,hl,h=>by
  have hr:∀x∈r,x<4000:=fun x hx=>hl x (List.mem_cons_of_mem _ hx)
  simp only [CV] at h
  split at h
  ·rename_i e he;rw [PT.get_set _ 12 _ _ _ (by have h1:=hl k (List.mem_cons_self ..); show @LT.lt Nat _ (k+1) (2 ^ 12); omega)] at h
   by_cases hk:k=i
   ·subst hk;rw [if_pos rfl] at h;simp only [Option.some.injEq] at h;subst h;exact ⟨List.mem_cons_self ..,he,e,rfl⟩
   ·rw [if_neg hk] at h;obtain ⟨h1,h2,h3⟩:=Df hr h;exact ⟨List.mem_cons_of_mem _ h1,h2,h3⟩
  ·obtain ⟨h1,h2,h3⟩:=Df hr h;exact ⟨List.mem_cons_of_mem _ h1,h2,h3⟩
theorem zaa {F:PT SV}:∀{chg:List (Nat×CK)} {vs:List Value} {i:Nat} {sv:SV},(∀p∈chg,p.1<4000)->(zh5 F chg vs).get i=some sv->
  (∃(j:Nat) (k:CK) (v:Value),chg[j]? = some (i,k)/\vs[j]? = some v/\sv = .un (.v v))\/F.get i=some sv
 | [],vs,i,sv,_,h=>.inr h
 | (a,k)::r,[],i,sv,_,h=>.inr h
 | (a,k)::r,v::vs,i,sv,hl,h=>by
  have hr:∀p∈r,p.1<4000:=fun x hx=>hl x (List.mem_cons_of_mem _ hx)
  simp only [zh5] at h;rw [PT.get_set _ 12 _ _ _ (by have h1:=hl (a,k) (List.mem_cons_self ..); show @LT.lt Nat _ (a+1) (2 ^ 12); simp only at h1; omega)] at h
  by_cases hk:a=i
  ·subst hk;rw [if_pos rfl] at h;simp only [Option.some.injEq] at h;exact .inl ⟨0,k,v,rfl,rfl,h.symm⟩
  ·rw [if_neg hk] at h;rcases zaa hr h with ⟨j,k',v',h1,h2,h3⟩ | h1
   ·exact .inl ⟨j+1,k',v',by simpa using h1,by simpa using h2,h3⟩
   ·exact .inr h1
theorem JB {S:St}:∀{chg:List (Nat×CK)} {xs:List Value},K8 S chg=some xs->xs.length=chg.length/\∀(j i:Nat) (k:CK) (v:Value),chg[j]? = some (i,k)->xs[j]? = some v->∃e,S.F.get i=some (.un e)/\zpw S e=some v
 | [],xs,h=>by simp only [K8,Option.some.injEq] at h; subst h; exact ⟨rfl,fun j i k v hj=>by simp at hj⟩
 | (a,k)::r,xs,h=>by
  simp only [K8] at h
  split at h
  ·rename_i e he
   split at h
   ·rename_i x l hx hl;simp only [Option.some.injEq] at h; subst h;obtain ⟨h1,h2⟩:=JB hl;refine ⟨by simp [h1],fun j i k' v hj hv => ?_⟩
    cases j with
    | zero=>
     simp only [List.getElem?_cons_zero,Option.some.injEq,Prod.mk.injEq] at hj hv;obtain ⟨rfl,rfl⟩:=hj;subst hv;exact ⟨e,he,hx⟩
    | succ j=>exact h2 j i k' v (by simpa using hj) (by simpa using hv)
   ·cases h
  ·cases h
theorem E9:∀{l:List Nat},Nu l=true->l.Nodup
 | [],_=>List.nodup_nil
 | x::r,h=>by
  simp only [Nu,Bool.and_eq_true,Bool.not_eq_true'] at h;exact List.nodup_cons.2 ⟨Ph h.1,E9 h.2⟩
theorem Po {S':St}:∀{chgL:List (Nat×List CK)} {L:List (TypeId×List Value)} {ys:List Value},(chgL.map (·.1)).Nodup->Pr S' chgL=some ys->(∀(id:Nat) (t:TypeId) (cs:List Value),L[id]? = some (t,cs)->∃cs',S'.L[id]? = some (t,cs'))->
  (JW L chgL ys).length=L.length/\
  (∀(id:Nat),id∉chgL.map (·.1)->(JW L chgL ys)[id]? = L[id]?)/\
  (∀(id:Nat) (t:TypeId) (cs:List Value),id∈chgL.map (·.1)->(JW L chgL ys)[id]? = some (t,cs)->S'.L[id]? = some (t,cs))
 | [],L,ys,_,_,_=>⟨rfl,fun _ _=>rfl,fun id t cs h=>by cases h⟩
 | (a,ks)::r,L,ys,hnd,hv,hty=>by
  have hnd':=List.nodup_cons.1 (by simpa using hnd:(a::r.map (·.1)).Nodup);simp only [Pr] at hv
  split at hv
  ·rename_i t' cs' l ha hl
   cases hb:Nat.beq cs'.length ks.length with
   | false=>rw [hb] at hv; cases hv
   | true=>
    rw [hb] at hv;simp only [cond_true,Option.some.injEq] at hv;subst hv;have hlen:cs'.length=ks.length:=Nat.eq_of_beq_eq_true hb;have ht:(cs'++l).take ks.length=cs':=by rw [<-hlen]; exact List.take_left
    have hdr:(cs'++l).drop ks.length=l:=by rw [<-hlen]; exact List.drop_left
    simp only [JW]
    cases hLa:L[a]? with
    | none=>
     simp only [hdr];obtain ⟨h1,h2,h3⟩:=Po (L:=L) hnd'.2 hl hty;refine ⟨h1,fun id hid=>h2 id (fun h=>hid (List.mem_cons_of_mem _ h)),fun id t cs hid hc => ?_⟩;rcases List.mem_cons.1 hid with rfl | hid
     ·rw [h2 _ hnd'.1] at hc;rw [hLa] at hc; cases hc
     ·exact h3 id t cs hid hc
    | some q=>
     obtain ⟨t0,c0⟩:=q;simp only [ht,hdr];have hlt:a<L.length:=(List.getElem?_eq_some_iff.1 hLa).1;obtain ⟨cs1,hs1⟩:=hty a t0 c0 hLa;rw [ha] at hs1;simp only [Option.some.injEq,Prod.mk.injEq] at hs1;obtain ⟨rfl,rfl⟩:=hs1
     obtain ⟨h1,h2,h3⟩:=Po (L:=L.set a (t',cs')) hnd'.2 hl (fun id t cs hc=>by
      by_cases he:a=id
      ·subst he;rw [List.getElem?_set_self hlt] at hc;cases hc;exact ⟨_,ha⟩
      ·rw [List.getElem?_set_ne he] at hc;exact hty id t cs hc)
     refine ⟨by rw [h1]; simp,fun id hid => ?_,fun id t cs hid hc => ?_⟩
     ·rw [h2 id (fun h=>hid (List.mem_cons_of_mem _ h))];exact List.getElem?_set_ne (fun e=>hid (by subst e; exact List.mem_cons_self ..))
     ·rcases List.mem_cons.1 hid with rfl | hid
      ·rw [h2 _ hnd'.1] at hc;rw [List.getElem?_set_self hlt] at hc;cases hc;exact ha
      ·exact h3 id t cs hid hc
  ·cases hv
structure G8 (S:St) (sp:YO) (ds:List Nat):Prop where
 keep:∀i∈sp.keep,i∉ds/\i<4000
 chg:∀p∈sp.chg,p.1<4000
 nd:(sp.chgL.map (·.1)).Nodup
 chgL:∀id∈sp.chgL.map (·.1),id∉S.lk
theorem NZ {S:St} {sp:YO} {ds:List Nat} (h:zjz S sp ds=true):G8 S sp ds:=by
 simp only [zjz,Bool.and_eq_true,List.all_eq_true,Bool.not_eq_true'] at h;obtain ⟨⟨⟨⟨h1,h2⟩,_⟩,h4⟩,h5⟩:=h;refine ⟨fun i hi=>⟨Ph (h1 i hi).1,Nat.le_of_ble_eq_true (h1 i hi).2⟩,fun p hp=>Nat.le_of_ble_eq_true (h2 p hp).1,E9 h4,fun id hid => ?_⟩;obtain ⟨p,hp,rfl⟩:=List.mem_map.1 hid;have:=h5 p hp
 split at this
 ·simp only [Bool.and_eq_true,Bool.not_eq_true'] at this;exact Ph this.2
 ·cases this
theorem TJ {S:St} {sp:YO} {id:Nat}:id∈L3 S sp↔id<S.L.length/\id∉sp.chgL.map (·.1):=by
 unfold L3;simp only [List.mem_filter,List.mem_range,Bool.not_eq_true'];refine and_congr_right fun _ => ?_
 constructor
 ·exact Ph
 ·intro h;rw [Bool.eq_false_iff];intro hb;simp only [OU,List.any_eq_true] at hb;obtain ⟨y,hy,he⟩:=hb;exact h (Nat.eq_of_beq_eq_true he▸hy)
theorem BY {n:Nat} {S S':St} {sp:YO} {ds:List Nat} (hs:G8 S sp ds) {a a':Act} (hf:Td n S a) (hf':Td n S' a') (hfa:Lb ds a a') {xs ys:List Value} (hx:K8 S' sp.chg=some xs):Td n (Y5 S sp (xs++ys)) a':=by
 obtain ⟨hxl,hxg⟩:=JB hx;have htk:(xs++ys).take sp.chg.length=xs:=by rw [<-hxl]; exact List.take_left
 have hget:∀i sv,(Y5 S sp (xs++ys)).F.get i=some sv->(∃(j:Nat) (k:CK) (v:Value),sp.chg[j]? = some (i,k)/\xs[j]? = some v/\sv = .un (.v v))\/(i∈sp.keep/\S.F.get i=some sv/\∃e,sv = .un e):=fun i sv h=>by
  simp only [Y5,htk] at h;rcases zaa (fun p hp=>hs.chg p hp) h with h1 | h1
  ·exact .inl h1
  ·exact .inr (Df (fun x hx=>(hs.keep x hx).2) h1)
 refine ⟨hf'.size,fun i x h => ?_,fun i r pc x h => ?_⟩
 ·rcases hget i _ h with ⟨j,k,v,h1,h2,h3⟩ | ⟨h1,h2,_⟩
  ·obtain ⟨e,he,hv⟩:=hxg j i k v h1 h2;have:=za1 hv (hf'.fits i e he);cases h3;exact this
  ·have h3:=hf.fits i x h2;rw [<-hfa.2.2 i (hs.keep i h1).1] at h3;exact EV.den_mono (S:=S) (fun _ _ h=>h) h3
 ·rcases hget i _ h with ⟨j,k,v,h1,h2,h3⟩ | ⟨h1,h2,e,h3⟩ <;> cases h3
theorem zah {l m:List Nat} {k:Nat} (hk:k<=l.length) (h:∀(i b:Nat),l[i]? = some b->m[i]? = some b):m.take k=l.take k:=by
 apply List.ext_getElem?
 intro i;rw [List.getElem?_take,List.getElem?_take]
 by_cases hi:i<k
 ·rw [if_pos hi,if_pos hi];have hl:i<l.length:=Nat.lt_of_lt_of_le hi hk;rw [h i l[i] (List.getElem?_eq_getElem hl),List.getElem?_eq_getElem hl]
 ·rw [if_neg hi,if_neg hi]
theorem BZ {S S':St} {sp:YO} {w w' wr wr':World} {ds:List Nat} (hs:G8 S sp ds) (hw:Z7 S w wr) (hw':Z7 S' w' wr') (hB:∀(id b:Nat),S.B[id]? = some b->S'.B[id]? = some b) (hty:∀(id:Nat) (t:TypeId) (cs:List Value),S.L[id]? = some (t,cs)->∃cs',S'.L[id]? = some (t,cs'))
  (hlk:∀id,id<S.L.length->id∉sp.chgL.map (·.1)->S'.L[id]? = S.L[id]?) {xs ys:List Value} (hxl:xs.length=sp.chg.length) (hy:Pr S' sp.chgL=some ys) :
  (Y5 S sp (xs++ys)).L.length=S.L.length/\∀(id:Nat) (t:TypeId) (cs:List Value),(Y5 S sp (xs++ys)).L[id]? = some (t,cs)->∃b,S.B[id]? = some b/\wr'.heap[b]? = some (Obj.cells cs.toArray t (0,0)):=by
 have hdr:(xs++ys).drop sp.chg.length=ys:=by rw [<-hxl]; exact List.drop_left
 obtain ⟨h1,h2,h3⟩:=Po (L:=S.L) hs.nd hy hty;have hL:(Y5 S sp (xs++ys)).L=JW S.L sp.chgL ys:=by simp only [Y5,hdr]
 rw [hL];refine ⟨h1,fun id t cs hc => ?_⟩;have hid:id<S.L.length:=by rw [<-h1]; exact (List.getElem?_eq_some_iff.1 hc).1
 have hb:S.B[id]? = some (S.B[id]'(by rw [<-hw.len]; exact hid)):=List.getElem?_eq_getElem _
 have hS':S'.L[id]? = some (t,cs):=by
  by_cases hm:id∈sp.chgL.map (·.1)
  ·exact h3 id t cs hm hc
  ·rw [h2 id hm] at hc;rw [hlk id hid hm]; exact hc
 obtain ⟨b',hb',hh⟩:=hw'.loc id t cs hS';rw [hB _ _ hb] at hb'
 cases hb'
 exact ⟨_,hb,hh⟩
theorem P8 {S:St} {sp:YO} {K:List Value->Prop} (h:N1 S sp K):∃xs ys,K8 S sp.chg=some xs/\Pr S sp.chgL=some ys/\J8 sp.ks (xs++ys)=true/\K (xs++ys):=by
 unfold N1 at h
 split at h
 ·rename_i xs ys hx hy
  cases hk:J8 sp.ks (xs++ys) with
  | false=>rw [hk] at h; exact h.elim
  | true=>rw [hk] at h; exact ⟨xs,ys,hx,hy,hk,h⟩
 ·exact h.elim
theorem zdn {S S':St} {sp:YO} {ds:List Nat} (hs:G8 S sp ds) (hwf:Mo S) {vs:List Value} (hL:(Y5 S sp vs).L.length=S.L.length) (hLt:∀(id:Nat) (t:TypeId) (cs:List Value),S.L[id]? = some (t,cs)->∃cs',(Y5 S sp vs).L[id]? = some (t,cs'))
  (hLk:∀id,id∉sp.chgL.map (·.1)->(Y5 S sp vs).L[id]? = S.L[id]?) (hfr:OH (Y5 S sp vs) S'):OH S { S' with lk:=S.lk }/\(∀id,id<S.L.length->id∉sp.chgL.map (·.1)->S'.L[id]? = S.L[id]?):=by
 have h2:∀id,id<S.L.length->id∉sp.chgL.map (·.1)->S'.L[id]? = S.L[id]? := fun id hid hm=>by
  have:=hfr.lk id (TJ.2 ⟨hid,hm⟩);rw [this.2,hLk id hm]
 refine ⟨⟨fun id b hb=>hfr.B id b hb,fun id t cs hc => ?_,fun id hid=>⟨hid,h2 id (hwf.lk id hid) (fun hm=>hs.chgL id hm hid)⟩⟩,h2⟩;obtain ⟨cs1,h1⟩:=hLt id t cs hc;exact hfr.ty id t cs1 h1
theorem q8 {S:St}:∀{l:List (TypeId×List CK)} {n:Nat} {zs:List Value},q7 S n l=some zs->(MP l zs).length=l.length/\(∀j,j<l.length->n+j<S.L.length)/\∀j,(MP l zs)[j]? = if j<l.length then S.L[n+j]? else none
 | [],n,zs,h=>⟨rfl,fun j hj=>absurd hj (Nat.not_lt_zero j),fun j=>by simp [MP]⟩
 | (t,ks)::r,n,zs,h=>by
  simp only [q7] at h
  split at h
  ·rename_i t' cs l hL hl
   cases hb:Nat.beq t' t&&Nat.beq cs.length ks.length with
   | false=>rw [hb] at h; cases h
   | true=>
    rw [hb] at h;simp only [cond_true,Option.some.injEq] at h;subst h;simp only [Bool.and_eq_true] at hb;have h1:=Nat.eq_of_beq_eq_true hb.1;have h2:=Nat.eq_of_beq_eq_true hb.2;subst h1;obtain ⟨g1,g2,g3⟩:=q8 hl;have ht:(cs++l).take ks.length=cs:=by rw [<-h2]; exact List.take_left
    have hdr:(cs++l).drop ks.length=l:=by rw [<-h2]; exact List.drop_left
    simp only [MP,ht,hdr];refine ⟨by simp [g1],fun j hj => ?_,fun j => ?_⟩
    ·cases j with
     | zero=>exact (List.getElem?_eq_some_iff.1 hL).1
     | succ j=>have:=g2 j (by simpa using hj); omega
    ·cases j with
     | zero=>simp [hL]
     | succ j=>
      have:=g3 j;simp only [List.getElem?_cons_succ,List.length_cons];rw [this];have e:n+1+j=n+(j+1):=by omega
      rw [e]
      by_cases hj:j<r.length
      ·rw [if_pos hj,if_pos (by omega)]
      ·rw [if_neg hj,if_neg (by omega)]
  ·cases h
theorem zf7 {S:St} {n k:Nat} {l:List (Nat×Nat)} (h:v9 S n k l=true):∀p∈l,p.1<4000/\p.2<k/\S.F.get p.1=some (.un (.loc (n+p.2) 0)):=fun p hp=>by
 simp only [v9,List.all_eq_true,Bool.and_eq_true] at h;obtain ⟨⟨h1,h2⟩,h3⟩:=h p hp;refine ⟨Nat.le_of_ble_eq_true h1,Nat.le_of_ble_eq_true h2,?_⟩
 split at h3
 ·rename_i id hid;rw [hid,Nat.eq_of_beq_eq_true h3]
 ·cases h3
theorem DM {F:PT SV} {n:Nat}:∀{l:List (Nat×Nat)} {i:Nat} {sv:SV},(∀p∈l,p.1<4000)->(zh4 F n l).get i=some sv->(∃j,(i,j)∈l/\sv = .un (.loc (n+j) 0))\/F.get i=some sv
 | [],i,sv,_,h=>.inr h
 | (a,j)::r,i,sv,hl,h=>by
  have hr:∀p∈r,p.1<4000:=fun x hx=>hl x (List.mem_cons_of_mem _ hx)
  simp only [zh4] at h;rw [PT.get_set _ 12 _ _ _ (by have h1:=hl (a,j) (List.mem_cons_self ..); show @LT.lt Nat _ (a+1) (2 ^ 12); simp only at h1; omega)] at h
  by_cases hk:a=i
  ·subst hk;rw [if_pos rfl] at h;simp only [Option.some.injEq] at h;exact .inl ⟨j,List.mem_cons_self ..,h.symm⟩
  ·rw [if_neg hk] at h;rcases DM hr h with ⟨q,h1,h2⟩ | h1
   ·exact .inl ⟨q,List.mem_cons_of_mem _ h1,h2⟩
   ·exact .inr h1
theorem CU {S S':St} {sp:YO} {K:List Value->List Nat->Prop} (h:zhj S S' sp K):∃xs ys zs,K8 S' sp.chg=some xs/\Pr S' sp.chgL=some ys/\q7 S' S.L.length sp.newL=some zs/\J8 sp.ks (xs++ys)=true/\J8 sp.nks zs=true/\v9 S' S.L.length sp.newL.length sp.ptr=true/\
  K (xs++ys++zs) ((S'.B.drop S.B.length).take sp.newL.length):=by
 unfold zhj at h
 split at h
 ·rename_i zs hz
  cases hb:J8 sp.nks zs&&v9 S' S.L.length sp.newL.length sp.ptr with
  | false=>rw [hb] at h; exact h.elim
  | true=>
   rw [hb] at h;simp only [cond_true] at h;simp only [Bool.and_eq_true] at hb;obtain ⟨xs,ys,h1,h2,h3,h4⟩:=P8 h;exact ⟨xs,ys,zs,h1,h2,hz,h3,hb.1,hb.2,h4⟩
 ·exact h.elim
theorem zjs {l m:List Nat} (h:∀(i b:Nat),l[i]? = some b->m[i]? = some b):m.take l.length=l:=by
 have:=zah (Nat.le_refl l.length) h;rw [this,List.take_length]
end Go.Proofs.YtclpmgfpjeaibaaGreat
