/- Part 2 of what the law FnIdle needs. -/
import Derived.Test.YtnclplgaicdapaaGreatDoorFnIdlePa
import Derived.RangeFuncRecord
import Derived.OrdersIn
import Derived.TacticsIn
import Derived.Scope
set_option linter.unusedVariables false
set_option linter.unusedSimpArgs false
set_option maxRecDepth 100000
set_option maxHeartbeats 8000000
namespace Go.Proofs.YtnclplgaicdapaaGreatDoor
open Go.RowKit
def Tk(r:Option Nat):Fence:={ Fence.wide with round:=r }
theorem zdj(r:Option Nat)(n:Nat):(Tk r).room n:=λd h=>by simp[Tk,Fence.wide] at h
theorem M9{r:Option Nat}{n:Nat}{P:Program}{f:FuncId}{args:Array Va}{w:Wo}{R:Ending->Wo->Prop}(h:Calls P f args w R):CallsIn (Tk r) n P f args w R:=(callsIn_wide (n:=n)).2 h
theorem zsb{r:Option Nat}{n:Nat}{P:Program}{f:FuncId}{args:Array Va}{w:Wo}{R:Ending->Wo->Prop}(h:CallsIn (Tk r) n P f args w R):Calls P f args w R:=(callsIn_wide (n:=n)).1 h
theorem zjn{r:Option Nat}{n m:Nat}{P:Program}{l:Nat}{f:FuncId}{tmps:Array Va}{asg body:Code}{w:Wo}{R:Ending->Wo->Prop}(h:RoundIn Fence.wide n P l f tmps asg body w R):RoundIn (Tk r) m P l f tmps asg body w R:=
 ⟨trivial,λc cs _=>h.2 c cs (room_wide _)⟩
theorem zw9{r:Option Nat}{n:Nat}{P:Program}{row:String}{args:Array Va}{w:Wo}{R:Va->Wo->Prop}(h:Rows P row args w R):RowsIn (Tk r) n P row args w R:=λc cs _=>by
 obtain⟨v,w',hr,hs⟩:=h c cs;exact⟨v,w',hr,(stepsIn_wide (P:=P)).2 hs⟩
theorem zro{r:Option Nat}{P:Program}{o:Oper}{a:Act}{w:Wo}{next:Act->Wo->Prop}{Q:Exit->Act->Wo->Prop}(hd:∀c,o.op≠.defer c)(h:o.uponIn (Tk r) 0 P a next Q ((execOp a.eval o).run P w)):o.wpIn (Tk r) 0 P a w next Q:=
 ⟨λ_ _=>trivial,by rw[Oper.semAt_eq _ _ _ hd]; exact h⟩
theorem z34{r:Option Nat}{P:Program}{o:Oper}{a:Act}{w:Wo}{next:Act->Wo->Prop}{Q:Exit->Act->Wo->Prop}(hd:∀c,o.op≠.defer c)(h:o.wpIn (Tk r) 0 P a w next Q):o.uponIn (Tk r) 0 P a next Q ((execOp a.eval o).run P w):=by
 have:=h.2;rw[Oper.semAt_eq _ _ _ hd] at this;exact this
theorem zj9{P:Program}{o:Oper}{ρ:Operand->Va}{c:Call}(hc:o.op=.defer c)(w:Wo):(∃d w',(execOp ρ o).run P w=.ok (.defer d) w')\/∃x w',(execOp ρ o).run P w=.halt x w':=by
 simp only[execOp,hc,Sem.run_bind]
 cases hr:(resolve ρ c o.type).run P w with
 | ok d w'=>exact .inl ⟨d,w',by simp[Result.andThen]⟩
 | halt x w'=>exact .inr ⟨x,w',by simp[Result.andThen]⟩
theorem zol{P:Program}{C:Wo->Prop}{o:Oper}{ρ:Operand->Va}{w:Wo}{v:Va}(h:Oper.quietUpon P C w v ((execOp ρ o).run P w)):∀c,o.op≠.defer c:=λc hc=>by
 rcases zj9 (P:=P) (ρ:=ρ) hc w with ⟨d,w',hr⟩ | ⟨x,w',hr⟩ <;> (rw[hr] at h; exact h)
theorem BT{r:Option Nat}{P:Program}{C:Wo->Prop}{o:Oper}{a:Act}{K:Act->Prop}{K':Act->Wo->Prop}{Q':Exit->Act->Wo->Prop}{w:Wo}(hw:C w)(h:∀a w',C w'->K a->K' a w')(hh:o.quiet P a C K):o.wpIn (Tk r) 0 P a w K' Q':=by
 obtain⟨v,h1,h2⟩:=hh;have h3:=h1 w hw;refine zro (zol h3) ?_;unfold Oper.quietAt at h3;generalize (execOp a.eval o).run P w=res at *
 cases res with
 | ok n w'=>
  cases n <;> simp only[Oper.quietUpon] at h3 <;> simp only[Oper.uponIn]
  case value u=>
   obtain⟨e1,e2⟩:=h3;rw[e1,e2];exact h _ _ hw h2
  case skip=>
   obtain⟨e1,e2⟩:=h3;rw[e1,<-e2];exact h _ _ hw h2
  case enter f args=>
   obtain⟨e1,e2⟩:=h3;rw[e1];exact⟨λhx=>(by simp[Tk,Fence.wide] at hx),M9 (e2.mono λe jY ⟨he,hc⟩=>by subst he; exact h _ _ hc h2)⟩
 | halt x w'=>exact h3.elim
section
variable {P:Program}{b:Frame}{a:Act}{k:List Item}{cs:List Frame}{w:Wo}
theorem Te{c:Code}:step P (lone (b.atR a (.code (.scope c)::k)) cs w)=.next (lone (b.atR a (.code c :: .inScope c::k)) cs w):=
 step_lone_go (by simp[stepG,stepG.exec,Frame.atR])
theorem zi2{c:Code}:step P (lone (b.atR a (.inScope c::k)) cs w)=.next (lone (b.atR a k) cs w):=
 step_lone_go (by simp[stepG,stepG.exec,Frame.atR])
end
section
variable {F:Fence}{n:Nat}{P:Program}{Q:Exit->Act->Wo->Prop}{a:Act}{w:Wo}
theorem DI{c:Code}(h:c.wpIn F n P (Exit.noGoto Q) a w):(Code.scope c).wpIn F n P Q a w:=by
 intro b k cs hro hb hr;have h0:(lone (b.atR a (.code (.scope c)::k)) cs w).fenced P F:=fenced_calm hb hr rfl;obtain⟨e,a₁,w₁,hq,vJ⟩:=h b (.inScope c::k) cs hro hb hr
 cases e with
 | normal=>exact⟨.normal,a₁,w₁,hq,.head h0 Te (StepsIn.trans vJ (.one (fenced_calm hb hr rfl) zi2))⟩
 | exit id=>exact⟨.exit id,a₁,w₁,hq,λk' hk=>.head h0 Te (vJ.1 k' (by simp[exitTo,hk])),λhr' hk=>(let ⟨k₁,h1,h2⟩:=vJ.2 hr' (by simp[exitTo,hk]); ⟨k₁,h1,.head h0 Te h2⟩)⟩
 | goto l=>exact hq.elim
 | ret=>exact⟨_,a₁,w₁,hq,.of_steps (.one h0 Te) vJ⟩
 | panic ch=>exact⟨_,a₁,w₁,hq,.of_steps (.one h0 Te) vJ⟩
 | outgrown=>exact⟨_,a₁,w₁,hq,.of_steps (.one h0 Te) vJ⟩
theorem BS{c:Code}(I:Nat->Act->Wo->Prop){m:Nat}(h₀:I m a w)(round:∀m a w,I m a w->c.wpIn F n P (Exit.then (λa' w'=>∃j,j<m/\I j a' w') Q) a w):(Code.loop c).wpIn F n P Q a w:=by
 intro b k cs hro hb hr
 have key:∀m a w,I m a w->∃e a' w',Q e a' w'/\ArrivesIn (Machine.fenced P F) P (lone (b.atR a (.code c :: .inLoop c::k)) cs w) b k cs e a' w':=by
  intro m
  induction m using Nat.strongRecOn with
  | _ m ih=>
   intro a w hI;obtain⟨e,a₁,w₁,hq,vJ⟩:=round m a w hI b (.inLoop c::k) cs hro hb hr
   cases e with
   | normal=>
    obtain⟨j,IN,hI₁⟩:=hq;obtain⟨e₂,a₂,w₂,hq₂,harr₂⟩:=ih j IN a₁ w₁ hI₁;exact⟨e₂,a₂,w₂,hq₂,.of_steps (StepsIn.trans vJ (.one (fenced_calm hb hr rfl) stepR_inLoop)) harr₂⟩
   | exit id=>exact⟨_,a₁,w₁,hq,.pass (x:=.inLoop c) rfl (λ_ _=>.inl Qs) vJ⟩
   | goto l=>exact⟨_,a₁,w₁,hq,.pass (x:=.inLoop c) rfl (λ_ _=>.inl Qs) vJ⟩
   | ret=>exact⟨_,a₁,w₁,hq,.pass (x:=.inLoop c) rfl (λ_ _=>.inl Qs) vJ⟩
   | panic ch=>exact⟨_,a₁,w₁,hq,.pass (x:=.inLoop c) rfl (λ_ _=>.inl Qs) vJ⟩
   | outgrown=>exact⟨_,a₁,w₁,hq,.pass (x:=.inLoop c) rfl (λ_ _=>.inl Qs) vJ⟩
 obtain⟨e,a',w',hq,vJ⟩:=key m a w h₀;exact⟨e,a',w',hq,.of_steps (.one (fenced_calm hb hr rfl) stepR_loop) vJ⟩
end
def zct(v:Va)(vs:List Va):Sem Next:=do let d <-Deferred.ofValue v vs.toArray; invoke d.target d.args
def z2b(m:String)(v:Va)(vs:List Va):Sem Next:=invoke (.fn (.method m) #[]) (#[v]++vs.toArray)
def Tb(P:Program)(v:Va)(vs:List Va)(w:Wo)(R:Ending->Wo->Prop):Prop:=
 (∃(f:FuncId) (as0:Array Va),(zct v vs).run P w=.ok (.enter f as0) w/\Calls P f as0 w R) \/
 ∃(l:Nat) (f:FuncId) (tmps:Array Va) (asg body:Code),(zct v vs).run P w=.ok (.round l f tmps asg body) w/\RoundIn Fence.wide 0 P l f tmps asg body w R
theorem Tb.mono{P:Program}{v:Va}{vs:List Va}{w:Wo}{R R':Ending->Wo->Prop}(h:Tb P v vs w R)(hr:∀e w',R e w'->R' e w'):Tb P v vs w R':=by
 rcases h with ⟨f,as0,h1,h2⟩ | ⟨l,f,tmps,asg,body,h1,h2⟩
 ·exact .inl ⟨f,as0,h1,h2.mono hr⟩
 ·exact .inr ⟨l,f,tmps,asg,body,h1,h2.mono hr⟩
def zxr(C:UQ)(t:TypeId):Bool:=match C.T t with
 | some { agg:=_,ks:=_,d:=.int _ }=>true
 | _=>false
def B3(C:UQ):Op->Bool
 | .alloc _ | .box _ _ | .store _ _ _ | .buildSlice _ _ _=>true
 | .call { callee:=.value (.func f),args:=_,argTypes:=_ } => !(zpv C.pf f).isSome
 | .call { callee:=.builtin b,args:=_,argTypes:=_ }=>match b with
  | .append | .copy=>true
  | _=>false
 | .call { callee:=.value (.tmp _),args:=_,argTypes:=_ } | .call { callee:=.invoke _ _,args:=_,argTypes:=_ }=>true
 | .makeSlice _ _ _ | .makeMap _ _ | .lookup _ _ _ _ | .mapUpdate _ _ _ _ | .insert _ _ _ _ | .range _ _ | .next _ _=>true
 | .convert s d _ => !(zxr C s&&zxr C d)
 | _=>false
def St.bS(S:St):St:={ S with old:=S.B.length }
def Q9(B:List Nat)(w w':Wo):Prop:=∀b∈B,w'.heap[b]? = w.heap[b]?
def z54:Builtin->List RK
 | .append=>[.cell .slice]
 | _=>[.cell (.int .i64)]
def zwt(args:Array Operand):Array Bool:=args.map λ| .const _=>true | _=>false
def Mf(z:Nat):List (Nat×Operand)->Nat->List Va->Option (List Va)
 | [],_,[]=>some []
 | (i,_)::r,k,v::vs=>bif Nat.beq i k&&Nat.beq v.cells.toList.length z then
   match Mf z r (k+1) vs with
   | some l=>some (v.cells.toList++l)
   | none=>none
  else none
 | _,_,_=>none
def zes(C:UQ)(S:St)(w:Wo)(d:Option Tmp)(t:TypeId)(cells:List Va)(e:Nat->EV)(K:St->Wo->Prop):Prop:=
 ∀b,w.heap.size<=b->EZ C { S with L:=S.L++[(t,cells)],B:=S.B++[b] } d (.un (e S.L.length)) λS'=>K S' w
def A9(C:UQ)(S:St)(w:Wo)(d:Option Tmp)(t:TypeId)(cells:List Va)(e:Nat->EV)(K:St->Wo->Prop):Prop:=
 bif C.pm then False else ∀b w',Q0 S.bs w w'->w.heap.size<=b->w'.heap[b]? = some (Obj.cells cells.toArray t (0,0))->b∉S.B->EZ C S.bS d (.un (e b)) λS'=>K S' w'
def KD(l:List Nat)(x:Nat):Bool:=l.any λy=>Nat.beq y x
def zmn(C:UQ)(o:Oper):Option (List Operand×List RK×Bool×(List Va->Sem Va)):=
 match o.op with
 | .makeSlice t l c=>some ([l,c],[.cell .slice],false,λ| [x,y]=>Instr.makeSlice t x y | _=>pure undef)
 | .makeMap t none=>some ([],[.cell .map],false,λ_=>Instr.makeMap t none)
 | .makeMap t (some r)=>some ([r],[.cell .map],false,λ| [x]=>Instr.makeMap t (some x) | _=>pure undef)
 | .lookup t x i ok=>match z46 C o.type with
  | some rk=>some ([x,i],rk,false,λ| [a,b]=>Instr.lookup t a b ok | _=>pure undef)
  | none=>none
 | .mapUpdate t m k x=>some ([m,k,x],[],true,λ| [a,b,c]=>do Instr.mapUpdate t a b c; pure undef | _=>pure undef)
 | .insert t m k x=>some ([m,k,x],[],true,λ| [a,b,c]=>do Instr.mapUpdate t a b c; pure undef | _=>pure undef)
 | .range t x=>some ([x],[.cell .ptr],false,λ| [a]=>Instr.range t a | _=>pure undef)
 | .convert s d x=>match z46 C o.type with
  | some rk=>some ([x],rk,false,λ| [a]=>convert s d a | _=>pure undef)
  | none=>none
 | _=>none
theorem zfj{C:UQ}{o:Oper}{xs:List Operand}{rk:List RK}{u:Bool}{f:List Va->Sem Va}(h:zmn C o=some (xs,rk,u,f))(ρ:Operand->Va){P:Program}{w w':Wo}{v:Va}(hr:(f (xs.map ρ)).run P w=.ok v w') :
  (execOp ρ o).run P w=.ok (if u then .skip else .value v) w':=by
 unfold zmn at h
 split at h
 case h_5 t m k x ho=>
  simp only[I0,Prod.mk.injEq] at h;obtain⟨rfl,rfl,rfl,rfl⟩:=h;simp only[List.map_cons,List.map_nil,Sem.run_bind,Sem.run_pure] at hr;simp only[execOp,ho,Sem.run_bind,Sem.run_pure,if_true];generalize (Instr.mapUpdate t (ρ m) (ρ k) (ρ x)).run P w=q at hr ⊢
  cases q <;> simp_all [Result.andThen]
 case h_6 t m k x ho=>
  simp only[I0,Prod.mk.injEq] at h;obtain⟨rfl,rfl,rfl,rfl⟩:=h;simp only[List.map_cons,List.map_nil,Sem.run_bind,Sem.run_pure] at hr;simp only[execOp,ho,Sem.run_bind,Sem.run_pure,if_true];generalize (Instr.mapUpdate t (ρ m) (ρ k) (ρ x)).run P w=q at hr ⊢
  cases q <;> simp_all [Result.andThen]
 all_goals
  (try split at h)
  all_goals first
   | cases h; done
   | (rename_i ho _ _ _
      simp only[I0,Prod.mk.injEq] at h;obtain⟨rfl,rfl,rfl,rfl⟩:=h;simp only[List.map_cons,List.map_nil] at hr;simp[execOp,ho,hr]
      done)
   | (rename_i ho
      simp only[I0,Prod.mk.injEq] at h;obtain⟨rfl,rfl,rfl,rfl⟩:=h;simp only[List.map_cons,List.map_nil] at hr;simp[execOp,ho,hr])
def ME(w:Wo)(b:Nat)(s:ByteArray)(p:Nat):Wo:={ w with heap:=w.heap.setIfInBounds b (.stringIter s p) }
def z39(C:UQ)(S:St)(w:Wo)(o:Oper)(pc:List (Nat×Bool))(K:St->Wo->Prop):Prop:=
 match o.op with
 | .alloc t=>match C.T t with
  | some ty=>bif ty.ks.contains .other then False
   else match o.dst with
    | some d=>bif KD C.vis d then A9 C S w o.dst t (ty.ks.map zv) (λb=>.el (some ⟨b,0,none⟩) 0) K else zes C S w o.dst t (ty.ks.map zv) (λi=>.loc i 0) K
    | none=>False
  | none=>False
 | .box t x=>match Hd S pc x with
  | some v=>match o.dst with
    | some d=>bif KD C.vis d then A9 C S w o.dst t v.cells.toList (λb=>.el (some ⟨b,0,none⟩) 0) K else zes C S w o.dst t v.cells.toList (λi=>.loc i 0) K
    | none=>False
  | none=>False
 | .buildSlice t n parts=>match C.T t,L8 S pc (parts.toList.map (·.2)) with
  | some { agg:=_,ks:=_,d:=.slice e z },some vs=>match C.T e,Mf z parts.toList 0 vs with
   | some _,some cells=>bif Nat.beq n vs.length&&Nat.blt 0 z&&Nat.blt 0 n&&Nat.blt (n*z) 16777216 then
     (match o.dst with
      | some d=>bif KD C.vis d then A9 C S w o.dst e cells (λb=>.v (.slice (some ⟨b,0,none⟩) n n)) K else zes C S w o.dst e cells (λi=>.ls i n) K
      | none=>False)
    else False
   | _,_=>False
  | _,_=>False
 | .store t x y=>match C.T t,zf8 S pc x,Hd S pc y with
  | some ty,some (.loc id off),some v=>match S.L[id]? with
   | some (t',cs)=>bif Nat.beq v.cells.toList.length ty.ks.length&&Nat.ble (off+v.cells.toList.length) cs.length&&Zl v.cells.toList && !KD S.lk id then
     K { S with L:=S.L.set id (t',cs.take off++v.cells.toList++cs.drop (off+v.cells.toList.length)) } w
    else False
   | none=>False
  | some ty,some (.le id i m),some v=>match S.L[id]? with
   | some (t',cs)=>bif Nat.beq v.cells.toList.length ty.ks.length&&Nat.beq v.cells.toList.length 1&&Zl [v] && !KD S.lk id then
     (i.toNat+m<cs.length)/\zns (cs.map z5t) λvs=>cs.set (i.toNat+m) v=vs/\K { S with L:=S.L.set id (t',vs) } w
    else False
   | none=>False
  | some ty,some (.el ob n),some v=>bif Nat.beq v.cells.toList.length ty.ks.length&&Zl v.cells.toList && !C.pm&&Nat.blt 0 ty.ks.length then
    Xm S.bs w ob n v.cells.toList.length/\K S (R9 w ob n v.cells.toList)
   else False
  | some ty,some (.v (.pointer ob)),some v=>bif Nat.beq v.cells.toList.length ty.ks.length&&Zl v.cells.toList && !C.pm&&Nat.blt 0 ty.ks.length then
    Xm S.bs w ob 0 v.cells.toList.length/\K S (R9 w ob 0 v.cells.toList)
   else False
  | _,_,_=>False
 | .call { callee:=.value (.func f),args:=args,argTypes:=_ }=>match zpv C.ef f,L8 S pc args.toList with
  | some rks,some vs=>bif C.pm then False else ∀wr,Q0 S.bs w wr->(∀b∈S.B,b<wr.heap.size)->JE S wr (zom S pc args.toList)
    (Calls C.P f vs.toArray wr λe w'=>DN rks λr=>e=.returned r/\Q9 S.B wr w'/\EZ C S.bS o.dst (.un (.v r)) λS'=>K S' w')
  | _,_=>False
 | .call { callee:=.builtin bi,args:=args,argTypes:=ts }=>match L8 S pc args.toList with
  | some vs=>bif C.pm then False else ∀wr,Q0 S.bs w wr->(∀b∈S.B,b<wr.heap.size)->JE S wr (zom S pc args.toList)
    (DN (z54 bi) λr=>∃w',(builtin bi ts o.type (zwt args) vs.toArray).run C.P wr=.ok (.value r) w'/\Q9 S.B wr w'/\EZ C S.bS o.dst (.un (.v r)) λS'=>K S' w')
  | none=>False
 | .call { callee:=.value (.tmp t),args:=args,argTypes:=_ }=>match Hd S pc (.tmp t),L8 S pc args.toList,z46 C o.type with
  | some v,some vs,some rks=>bif C.pm then False else ∀wr,Q0 S.bs w wr->(∀b∈S.B,b<wr.heap.size)->JE S wr (zom S pc args.toList)
    (Tb C.P v vs wr λe w'=>DN rks λr=>e=.returned r/\Q9 S.B wr w'/\EZ C S.bS o.dst (.un (.v r)) λS'=>K S' w')
  | _,_,_=>False
 | .call { callee:=.invoke rc m,args:=args,argTypes:=_ }=>match Hd S pc rc,L8 S pc args.toList,z46 C o.type with
  | some v,some vs,some rks=>bif C.pm then False else ∀wr,Q0 S.bs w wr->(∀b∈S.B,b<wr.heap.size)->JE S wr (zom S pc args.toList)
    (∃(f:FuncId) (as0:Array Va),(z2b m v vs).run C.P wr=.ok (.enter f as0) wr/\Calls C.P f as0 wr λe w'=>DN rks λr=>e=.returned r/\Q9 S.B wr w'/\EZ C S.bS o.dst (.un (.v r)) λS'=>K S' w')
  | _,_,_=>False
 | .next it true=>match Hd S pc it with
  | some (.pointer ob)=>bif C.pm then False else ∀wr,Q0 S.bs w wr->(∀b∈S.B,b<wr.heap.size)->
    ∃(b:Nat) (s:ByteArray) (pos:Nat),ob=some ⟨b,0,none⟩/\b∉S.B/\wr.heap[b]? = some (.stringIter s pos)/\
     (s.size<=pos->EZ C S.bS o.dst (.un (.v (.tuple #[.bool false]))) λS'=>K S' wr)/\
     (pos<s.size->EZ C S.bS o.dst (.un (.v (.tuple #[.bool true,.int .i64 pos,.int .i32 (Utf8.decode s pos).1]))) λS'=>K S' (ME wr b s (pos+(Utf8.decode s pos).2)))
  | _=>False
 | _=>match zmn C o with
  | some (xs,rk,u,f)=>match L8 S pc xs with
   | some vs=>bif C.pm then False else ∀wr,Q0 S.bs w wr->(∀b∈S.B,b<wr.heap.size)->
     (bif u then (match o.dst with
      | none=>∃w',(f vs).run C.P wr=.ok undef w'/\Q9 S.B wr w'/\K S.bS w'
      | some _=>False)
     else DN rk λr=>∃w',(f vs).run C.P wr=.ok r w'/\Q9 S.B wr w'/\EZ C S.bS o.dst (.un (.v r)) λS'=>K S' w')
   | none=>False
  | none=>False
structure Km (S S':St):Prop where
 B:∀(id b:Nat),S.B[id]? = some b->S'.B[id]? = some b
 ty:∀(id:Nat) (t:TypeId) (cs:List Va),S.L[id]? = some (t,cs)->∃mO:List Va,S'.L[id]? = some (t,mO)
 lk:∀id∈S.lk,id∈S'.lk/\S'.L[id]? = S.L[id]?
theorem Km.refl(S:St):Km S S:=⟨λ_ _ h=>h,λ_ _ cs h=>⟨cs,h⟩,λ_ h=>⟨h,rfl⟩⟩
theorem Km.trans{S S' tX:St}(h:Km S S')(k:Km S' tX):Km S tX:=
 ⟨λid b hb=>k.B id b (h.B id b hb),λid t cs hc=>(let ⟨cs1,h1⟩:=h.ty id t cs hc; k.ty id t cs1 h1),λid hi=>⟨(k.lk id (h.lk id hi).1).1,((k.lk id (h.lk id hi).1).2).trans (h.lk id hi).2⟩⟩
theorem Km.bQ{S S':St}(h:Km S S')(d:Option Tmp)(sv:SV):Km S (S'.bQ d sv):=by
 cases d <;> exact⟨h.B,h.ty,h.lk⟩
theorem Zn.bQ{S:St}{w wr:Wo}(h:Zn S w wr)(d:Option Tmp)(sv:SV):Zn (S.bQ d sv) w wr:=by
 cases d <;> exact⟨h.ext,h.loc,h.len,h.nP,h.fresh⟩
theorem L4{l:List Nat}{x:Nat}(h:KD l x=false):x∉l:=by
 intro hx;have:KD l x=true:=by simp only[KD,List.any_eq_true]; exact⟨x,hx,Nat.beq_refl x⟩
 rw[h] at this; cases this
structure Gb (S:St):Prop where
 old:S.old<=S.B.length
 lk:∀id∈S.lk,id<S.L.length
theorem Gb.bQ{S:St}(h:Gb S)(d:Option Tmp)(sv:SV):Gb (S.bQ d sv):=by
 cases d <;> exact⟨h.old,h.lk⟩
theorem Gb.bS{S:St}(h:Gb S):Gb S.bS:=⟨I7 _,h.lk⟩
theorem Zn.push{S:St}{w wr:Wo}(h:Zn S w wr)(ho:S.old<=S.B.length)(t:TypeId)(cells:List Va) :
  Zn { S with L:=S.L++[(t,cells)],B:=S.B++[wr.heap.size] } w (wr.alloc (.cells cells.toArray t)):=by
 have IN:∀b∈S.B,b<wr.heap.size:=λb hb=>by
  obtain⟨id,aS⟩:=List.getElem?_of_mem hb;have hl:id<S.L.length:=by rw[h.len]; exact(I8.1 aS).1
  obtain⟨b',fM,hh⟩:=h.loc id (S.L[id]).1 (S.L[id]).2 (by rw[Il hl]);rw[aS] at fM; cases fM;exact zbg hh
 have hbs:(S.B++[wr.heap.size]).take S.old=S.B.take S.old:=List.take_append_of_le_length ho;refine⟨?_,λid t' cs hl=>?_,by simp[h.len],?_,λid b aS hb=>?_⟩
 ·show Q0 ((S.B++[wr.heap.size]).take S.old) w _;rw[hbs]; exact h.ext.alloc _
 ·by_cases hi:id<S.L.length
  ·have hl':S.L[id]? = some (t',cs):=by rw[<-hl]; exact(Ip hi).symm
   obtain⟨b,hb,hh⟩:=h.loc id t' cs hl';refine⟨b,?_,(Below.heap_alloc wr _ b (zbg hh)).trans hh⟩;show (S.B++[wr.heap.size])[id]? = some b;rw[Ip (by rw[<-h.len]; exact hi)]; exact hb
  ·have hi':id=S.L.length:=by
    have:id<(S.L++[(t,cells)]).length:=(I8.1 hl).1;simp at this; omega
   subst hi';simp only[List.getElem?_concat_length,I0,Prod.mk.injEq] at hl;obtain⟨rfl,rfl⟩:=hl;refine⟨wr.heap.size,?_,heap_alloc_new wr _⟩;show (S.B++[wr.heap.size])[S.L.length]? = _;rw[h.len]; simp
 ·refine List.nodup_append.2 ⟨h.nP,Qs,λx hx y hy=>?_⟩;simp only[IA] at hy;subst hy;have:=IN x hx;omega
 ·have fM:(S.B++[wr.heap.size])[id]? = some b:=hb
  by_cases hi:id<S.B.length
  ·rw[Ip hi] at fM;exact h.fresh id b aS fM
  ·have:id=S.B.length:=by
    have:id<(S.B++[wr.heap.size]).length:=(I8.1 fM).1;simp at this; omega
   subst this;simp at fM;subst fM;exact h.ext.size
theorem Zn.age{S:St}{w wr Wh:Wo}(h:Zn S w wr)(hk:Q9 S.B wr Wh):Zn S.bS Wh Wh:=
 ⟨Q0.refl _ _,λid t cs hl=>by
  obtain⟨b,hb,hh⟩:=h.loc id t cs hl;exact⟨b,hb,(hk b (List.mem_of_getElem? hb)).trans hh⟩,h.len,h.nP,λid b aS hb=>by
  have:id<S.B.length:=(I8.1 hb).1;simp only[St.bS] at aS;omega⟩
theorem Zn.lt{S:St}{w wr:Wo}(h:Zn S w wr):∀b∈S.B,b<wr.heap.size:=λb hb=>by
 obtain⟨id,aS⟩:=List.getElem?_of_mem hb;have hl:id<S.L.length:=by rw[h.len]; exact(I8.1 aS).1
 obtain⟨b',fM,hh⟩:=h.loc id (S.L[id]).1 (S.L[id]).2 (by rw[Il hl]);rw[aS] at fM; cases fM;exact zbg hh
theorem Zn.Cy3{S:St}{w wr:Wo}(h:Zn S w wr){i j b:Nat}(hi:S.B[i]? = some b)(hj:S.B[j]? = some b):i=j:=by
 obtain⟨h1l,h1e⟩:=I8.1 hi;obtain⟨h2l,h2e⟩:=I8.1 hj;have hp:=List.pairwise_iff_getElem.1 h.nP;rcases Nat.lt_trichotomy i j with IN | heq | hgt
 ·exact Ir (h1e.trans h2e.symm) (hp i j h1l h2l IN)
 ·exact heq
 ·exact Ir (h2e.trans h1e.symm) (hp j i h2l h1l hgt)
theorem zm8{P:Program}{T:TypeId->Option Ty}(hT:zvt P T){t:TypeId}{ty:Ty}(ht:T t=some ty)(iX:ty.ks.contains .other=false) :
  ∃i z,P.info? t=some i/\i.zero=some z/\z.cells=(ty.ks.map zv).toArray:=by
 obtain⟨i,z,hi,hz,_,hks⟩:=(hT.facts ht).info;refine⟨i,z,hi,hz,?_⟩
 have h0:∀(l:List Va),(l.map MX).contains .other=false->(l.map MX).map zv=l:=by
  intro l
  induction l with
  | nil=>intro _; rfl
  | cons x r ih=>
   intro hc;simp only[List.map_cons,List.contains_cons,H'] at hc;have hx:MX x≠.other:=by intro e; rw[e] at hc; simp at hc
   simp only[List.map_cons,ih hc.2,<-zla hx]
 have h1:=h0 z.cells.toList (by rw[hks]; exact iX);rw[hks] at h1;rw[h1,Array.toArray_toList]
theorem EV.fL{S S':St}(h:za6 S S'):∀{e:EV} {u:Va},EV.den S e u->EV.den S' e u
 | .v _,_,h'=>h'
 | .el _ _,_,h'=>h'
 | .loc _ _,_,⟨b,hb,h'⟩=>⟨b,h _ _ hb,h'⟩
 | .ls _ _,_,⟨b,hb,h'⟩=>⟨b,h _ _ hb,h'⟩
 | .le _ _ _,_,⟨b,hb,h'⟩=>⟨b,h _ _ hb,h'⟩
 | .no,_,h'=>h'
 | .kb _,_,h'=>h'
theorem Kl.mono{n:Nat}{S S':St}{ops:Array Oper}{D:Nat->Prop}{a:Act}(h:Kl n S ops D a)(hl:za6 S S')(hF:S'.F=S.F)(hr:S'.r=S.r):Kl n S' ops D a:=
 ⟨⟨h.fit.size,λi s hs=>by
  rw[hF] at hs;have:=h.fit.fits i s hs
  cases s with
  | un x=>exact EV.fL hl this
  | gd r pc x=>
   intro hrr;rw[hr] at hrr;have h1:=this hrr;exact⟨λhp=>EV.fL hl (h1.1 hp),h1.2⟩⟩,λi pc x hx=>by rw[hF,hr] at hx; exact h.dn i pc x hx,λi r pc x hx=>by rw[hF] at hx; rw[hr]; exact h.st i r pc x hx⟩
def zmt(cs:List Va):Nat->List Va->List Va
 | _,[]=>cs
 | k,v::r=>zmt (cs.set k v) (k+1) r
theorem HQ:∀(vs cs:List Va) (k:Nat),k+vs.length<=cs.length->zmt cs k vs=cs.take k++vs++cs.drop (k+vs.length)
 | [],cs,k,_=>by simp[zmt]
 | v::r,cs,k,h=>by
  simp only[zmt,List.length_cons] at *;rw[HQ r (cs.set k v) (k+1) (by simp; omega)];have hk:k<cs.length:=Qo;rw[List.take_succ_eq_append_getElem (by simpa using hk),List.getElem_set_self,List.take_set_of_le (I7 _),List.drop_set_of_lt Qo];simp[Nat.add_assoc,Nat.add_comm 1]
theorem F6:∀(vs:List Va) (w:Wo) (b k n:Nat) (cs:List Va) (t:TypeId) (fz:Nat×Nat),w.heap[b]? = some (.cells cs.toArray t fz)->
  (dL w ⟨b,k,none⟩ n vs).heap[b]? = some (.cells (zmt cs (k+n) vs).toArray t fz)
 | [],_,_,_,_,_,_,_,h=>h
 | v::r,w,b,k,n,cs,t,fz,h=>by
  simp only[dL,zmt];refine F6 r _ b k (n+1) (cs.set (k+n) v) t fz ?_;rw[Addr.add_lit];simp only[World.setCell,Array.getElem?_modify,if_true,h,Option.map_some,Option.isSome_none,Bool.false_eq_true,if_false];simp
structure zvz (C:UQ) (S:St) (w:Wo) (o:Oper) (a:Act) (K:St->Wo->Prop) (N:Act->Wo->Prop):Prop where
 go:∀(S1:St) (w' Wh:Wo) (e:EV) (v:Va),Km S S1->S1.F=S.F->S1.r=S.r->Gb S1->Zn S1 w' Wh->(C.pm=true->w'=w/\S1.old=S.old)->EV.den S1 e v->(∀x,o.dst=some x->x<C.n/\x<4000)->K (S1.bQ o.dst (.un e)) w'->N (a.put o.dst v) Wh
theorem zme{C:UQ}{S:St}{w:Wo}{o:Oper}{a:Act}{K:St->Wo->Prop}{N:Act->Wo->Prop}(hN:zvz C S w o a K N){wr:Wo}(hw:Zn S w wr)(WC:Gb S){t:TypeId}{cells:List Va}{e:Nat->EV}(h:zes C S w o.dst t cells e K){v:Va}(hv:EV.den { S with L:=S.L++[(t,cells)],B:=S.B++[wr.heap.size] } (e S.L.length) v):N (a.put o.dst v) (wr.alloc (.cells cells.toArray t)):=by
 obtain⟨h1,h2⟩:=YW (h wr.heap.size hw.ext.size);refine hN.go { S with L:=S.L++[(t,cells)],B:=S.B++[wr.heap.size] } w _ (e S.L.length) v ⟨λid b hb=>?_,λid t' cs hc=>⟨cs,?_⟩,λid hi=>⟨hi,?_⟩⟩ rfl rfl ⟨by simp; have:=WC.old; omega,λid hi=>by have:=WC.lk id hi; simp; omega⟩ (hw.push WC.old t cells) (λ_=>⟨rfl,rfl⟩) hv h2 h1
 ·show (S.B++[wr.heap.size])[id]? = some b;rw[Ip (I8.1 hb).1]; exact hb
 ·show (S.L++[(t,cells)])[id]? = some (t',cs);rw[Ip (I8.1 hc).1]; exact hc
 ·exact Ip (WC.lk id hi)
theorem zmf{C:UQ}{S:St}{w:Wo}{o:Oper}{a:Act}{K:St->Wo->Prop}{N:Act->Wo->Prop}(hN:zvz C S w o a K N){wr:Wo}(hw:Zn S w wr)(WC:Gb S){t:TypeId}{cells:List Va}{e:Nat->EV}(h:A9 C S w o.dst t cells e K){v:Va}(hv:EV.den S.bS (e wr.heap.size) v):N (a.put o.dst v) (wr.alloc (.cells cells.toArray t)):=by
 have IN:=hw.lt;unfold A9 at h
 have jS:C.pm=false:=by
  cases hp:C.pm with
  | false=>rfl
  | true=>rw[hp] at h; exact h.elim
 rw[jS] at h;simp only[cond_false] at h;obtain⟨h1,h2⟩:=YW (h wr.heap.size (wr.alloc (.cells cells.toArray t)) (hw.ext.alloc _) hw.ext.size (heap_alloc_new wr _) (λhb=>by have:=IN _ hb; omega));exact hN.go S.bS _ _ _ v ⟨λ_ _ h=>h,λ_ _ cs h=>⟨cs,h⟩,λid hi=>⟨hi,rfl⟩⟩ rfl rfl WC.bS (hw.age λb hb=>Below.heap_alloc wr _ b (IN b hb)) (λhp=>by rw[jS] at hp; cases hp) hv h2 h1
theorem DK{z:Nat}(hz:0<z):∀{ps:List (Nat×Operand)} {k:Nat} {vs cells:List Va},Mf z ps k vs=some cells->ps.length=vs.length/\cells.length=vs.length*z/\
  ∀(pre:List Va),pre.length=k*z->∀(init:List Va),init.length=vs.length*z->
   Instr.fill (λi=>some (i*z,z)) (pre++init).toArray ((ps.map (·.1)).zip vs)=some (pre++cells).toArray
 | [],k,[],cells,h=>by
  simp only[Mf,I0] at h; subst h;refine⟨rfl,Qs,λpre _ init hi=>?_⟩;have:init=[]:=List.eq_nil_of_length_eq_zero (by simpa using hi);subst this;simp[Instr.fill]
 | (i,x)::ps,k,v::vs,cells,h=>by
  simp only[Mf] at h
  cases hb:(Nat.beq i k&&Nat.beq v.cells.toList.length z) with
  | false=>rw[hb] at h; cases h
  | true=>
   rw[hb] at h;simp only[cond_true] at h;simp only[A'] at hb;have e1:i=k:=Ib hb.1;have e2:v.cells.toList.length=z:=Ib hb.2;subst e1
   split at h
   ·rename_i l hl;simp only[I0] at h; subst h;obtain⟨h1,h2,h3⟩:=DK hz hl;refine⟨by simp[h1],by simp[h2,e2,Nat.add_mul]; omega,λpre hp init hi=>?_⟩;have rH:v.cells.size=z:=by simpa using e2
    have hvl:(v::vs).length*z=z+vs.length*z:=by simp[Nat.add_mul,Nat.add_comm]
    rw[hvl] at hi
    have hc:(decide (v.cells.size≠z)||decide (i*z+v.cells.size>(pre++init).toArray.size))=false:=by
     simp only[rH,List.size_toArray,Io,hp,hi];simp
    simp only[List.map_cons,List.zip_cons_cons,Instr.fill];rw[hc];simp only[Bool.false_eq_true,if_false]
    have CO5:∀(l:List Va) (j:Nat) (arr:List Va),(l.zipIdx j).foldl (λcs (c,j)=>cs.setIfInBounds (i*z+j) c) arr.toArray=(zmt arr (i*z+j) l).toArray:=by
     intro l
     induction l with
     | nil=>intro j arr; rfl
     | cons c l ih=>
      intro j arr;simp only[List.zipIdx_cons,List.foldl_cons,zmt];rw[show (arr.toArray.setIfInBounds (i*z+j) c)=(arr.set (i*z+j) c).toArray by simp];exact ih (j+1) _
    have hz2:(v.cells.zipIdx.foldl (λcs (c,j)=>cs.setIfInBounds (i*z+j) c) (pre++init).toArray)=(pre++v.cells.toList++init.drop z).toArray:=by
     rw[<-Array.foldl_toList,Array.toList_zipIdx];rw[CO5 v.cells.toList 0 (pre++init),HQ _ _ _ (by simp[hp,hi,rH])];have t1:(pre++init).take (i*z)=pre:=by rw[<-hp]; exact List.take_left
     have t2:(pre++init).drop (i*z+z)=init.drop z:=by rw[<-hp,List.drop_append]; simp
     simp only[Nat.add_zero,e2,t1,t2]
    rw[hz2];have:=h3 (pre++v.cells.toList) (by simp[hp,rH,Nat.add_mul]) (init.drop z) (by simp[hi])
    simpa using this
   ·cases h
 | [],_,_::_,_,h=>by simp[Mf] at h
 | (_,_)::_,_,[],_,h=>by simp[Mf] at h
theorem zfn{P:Program}(t:TypeId)(v:Va)(w:Wo):(newVar t v).run P w=.ok ⟨w.heap.size,0,none⟩ (w.alloc (.cells v.cells t)):=by
 simp[newVar,newRow]
theorem Zn.A49{S:St}{w wr:Wo}(h:Zn S w wr){id b off:Nat}{t:TypeId}{cs vs:List Va}(hl:S.L[id]? = some (t,cs))(hb:S.B[id]? = some b)(hlen:off+vs.length<=cs.length)(hold:S.old<=S.B.length) :
  Zn { S with L:=S.L.set id (t,cs.take off++vs++cs.drop (off+vs.length)) } w (dL wr ⟨b,off,none⟩ 0 vs):=by
 obtain⟨b',fM,hh⟩:=h.loc id t cs hl;rw[hb] at fM; cases fM;have aS:id<S.L.length:=(I8.1 hl).1
 have AY8:b∈S.bs\/w.heap.size<=b:=by
  by_cases ho:S.old<=id
  ·exact .inr (h.fresh id b ho hb)
  ·refine .inl ?_;have:(S.B.take S.old)[id]? = some b:=by rw[List.getElem?_take,C' Qo]; exact hb
   exact List.mem_of_getElem? this
 obtain⟨r1,r2,r3⟩:=HT vs wr ⟨b,off,none⟩ 0;refine⟨⟨r1.trans h.ext.os,r2.trans h.ext.tape,r3.trans h.ext.output,by rw[OO]; exact h.ext.size,λk hk hnb=>?_⟩,λid' t' mO hl'=>?_,by simp[h.len],h.nP,h.fresh⟩
 ·refine(ON vs wr ⟨b,off,none⟩ 0 k ?_).trans (h.ext.block k hk hnb);rintro rfl;rcases AY8 with hm | hm
  ·exact hnb hm
  ·exact Nat.lt_irrefl _ (Nat.lt_of_lt_of_le hk hm)
 ·by_cases he:id=id'
  ·subst he;simp only[List.getElem?_set_self aS,I0,Prod.mk.injEq] at hl';obtain⟨rfl,rfl⟩:=hl';refine⟨b,hb,?_⟩;rw[F6 vs wr b off 0 cs _ _ hh,Nat.add_zero,HQ _ _ _ hlen]
  ·have hl2:S.L[id']? = some (t',mO):=by rw[<-hl']; exact(List.getElem?_set_ne he).symm
   obtain⟨b2,bR,hh2⟩:=h.loc id' t' mO hl2;refine⟨b2,bR,?_⟩
   rw[ON vs wr ⟨b,off,none⟩ 0 b2 (by
    show b2≠b;rintro rfl;exact he (h.Cy3 hb bR))]
   exact hh2
theorem Zn.A50{S:St}{w wr:Wo}(h:Zn S w wr){a:Addr}{n:Nat}{vs:List Va}(hb:a.block∉S.bs)(IN:a.block<w.heap.size):Zn S (dL w a n vs) (dL wr a n vs):=by
 obtain⟨r1,r2,r3⟩:=HT vs wr a n;obtain⟨q1,q2,q3⟩:=HT vs w a n;refine⟨⟨by rw[r1,q1]; exact h.ext.os,by rw[r2,q2]; exact h.ext.tape,by rw[r3,q3]; exact h.ext.output,by rw[OO,OO]; exact h.ext.size,λk hk hnb=>?_⟩,λid t cs hl=>?_,h.len,h.nP,λid b ho aS=>by rw[OO]; exact h.fresh id b ho aS⟩
 ·rw[OO] at hk;have he:=h.ext.block k hk hnb
  by_cases hka:k=a.block
  ·subst hka; exact zki vs wr w a n he
  ·rw[ON vs wr a n k hka,ON vs w a n k hka]; exact he
 ·obtain⟨b,aS,hh⟩:=h.loc id t cs hl;refine⟨b,aS,?_⟩;rw[ON vs wr a n b]
  ·exact hh
  ·rintro rfl
   by_cases ho:S.old<=id
   ·have:=h.fresh id _ ho aS; omega
   ·refine hb (List.mem_of_getElem? (i:=id) ?_);show (S.B.take S.old)[id]? = _;rw[List.getElem?_take,C' Qo]; exact aS
theorem Xm.run{P:Program}{S:St}{w wr:Wo}(h:Zn S w wr){ob:OA}{n:Nat}{vs:List Va}(hx:Xm S.bs w ob n vs.length)(Bj2:0<vs.length)(h1:Zl vs=true){a:Addr}(ho:ob=some a) :
  (storeCells (a.add n) vs 0).run P wr=.ok () (dL wr (a.add n) 0 vs)/\a.block∉S.bs/\a.block<w.heap.size:=by
 obtain⟨a',ha,hb,hc⟩:=hx;rw[ho] at ha; cases ha;obtain⟨⟨u,hu⟩,_⟩:=hc n (I7 _) Qo;have IN:a.block<w.heap.size:=by have:=World.block_lt_of_cell? w _ hu; rwa[ZC] at this
 refine⟨VO vs wr (a.add n) 0 (U5 h1) λj _ hj=>?_,hb,IN⟩;obtain⟨⟨u',hu'⟩,hf'⟩:=hc (n+j) Qo Qo;have he:=h.ext.block a.block IN hb;rw[Uv];refine⟨⟨u',?_⟩,?_⟩
 ·rw[<-hu']; exact World.cell?_of_block (w:=w) (by rw[ZC]; exact he)
 ·rw[<-hf']; exact frozen?_of_block (by rw[ZC]; exact he)
theorem zfw:∀(vs:List Va) (w:Wo) (a:Addr) (n k:Nat),dL w (a.add n) k vs=dL w a (n+k) vs
 | [],_,_,_,_=>rfl
 | v::r,w,a,n,k=>by
  simp only[dL,Uv];exact zfw r _ a n (k+1)
theorem zmw{P:Program}{T:TypeId->Option Ty}(hT:zvt P T){t:TypeId}{ty:Ty}(ht:T t=some ty){a:Addr}{v:Va}(hl:v.cells.toList.length=ty.ks.length){w w':Wo}(h:(storeCells a v.cells.toList).run P w=.ok () w'):(storeVar t a v).run P w=.ok () w':=by
 obtain⟨i,z,hi,_,rH,_⟩:=(hT.facts ht).info;have hn:¬v.cells.size≠ty.ks.length:=by simpa using hl
 simp only[storeVar,Sem.run_bind,Yu hi,Result.andThen_ok,rH,Sem.run_ite,B' hn,Sem.run_pure,h]
theorem zu3(parts:Array (Nat×Operand))(f:Operand->Va):(parts.map λ(i,x)=>(i,f x)).toList=(parts.toList.map (·.1)).zip ((parts.toList.map (·.2)).map f):=by
 have:(parts.map λ(i,x)=>(i,f x)).toList=parts.toList.map λ(i,x)=>(i,f x):=Qs
 rw[this];generalize parts.toList=q
 induction q with
 | nil=>rfl
 | cons y q ih=>simp[ih]
theorem zen{C:UQ}{S:St}{w:Wo}{o:Oper}{a:Act}{K:St->Wo->Prop}{N:Act->Wo->Prop}(hN:zvz C S w o a K N){wr:Wo}(hw:Zn S w wr)(WC:Gb S){t:TypeId}{cells:List Va}{e1 e2:Nat->EV}{v:Va}(h:match o.dst with
   | some d=>bif KD C.vis d then A9 C S w o.dst t cells e1 K else zes C S w o.dst t cells e2 K
   | none=>False)(h1:EV.den S.bS (e1 wr.heap.size) v)(h2:EV.den { S with L:=S.L++[(t,cells)],B:=S.B++[wr.heap.size] } (e2 S.L.length) v):N (a.put o.dst v) (wr.alloc (.cells cells.toArray t)):=by
 split at h
 ·rename_i d hd
  cases hm:KD C.vis d with
  | true=>
   rw[hm] at h;simp only[cond_true] at h;exact zmf hN hw WC h h1
  | false=>
   rw[hm] at h;simp only[cond_false] at h;exact zme hN hw WC h h2
 ·exact h.elim
theorem z3p{S:St}{w wr:Wo}(hw:Zn S w wr)(b:Nat):(S.B++[b])[S.L.length]? = some b:=by rw[hw.len]; simp
theorem Kh{Q:Exit->Act->Wo->Prop}{C:UQ}{S:St}{w wr:Wo}{a:Act}{K:St->Wo->Prop}{N:Act->Wo->Prop}{o:Oper}(hdn:o.dst=none)(hN:zvz C S w o a K N)(hw:Zn S w wr)(WC:Gb S)(hT:zvt C.P C.T){t:TypeId}{x y:Operand}(ho:o.op=.store t x y){ty:Ty}(ht:C.T t=some ty){e:EV}(hx:EV.den S e (a.eval x)){v:Va}(hy:a.eval y=v)(h:match e with
   | .loc id off=>match S.L[id]? with
    | some (t',cs)=>bif Nat.beq v.cells.toList.length ty.ks.length&&Nat.ble (off+v.cells.toList.length) cs.length&&Zl v.cells.toList && !KD S.lk id then
      K { S with L:=S.L.set id (t',cs.take off++v.cells.toList++cs.drop (off+v.cells.toList.length)) } w
     else False
    | none=>False
   | .le id i m=>match S.L[id]? with
    | some (t',cs)=>bif Nat.beq v.cells.toList.length ty.ks.length&&Nat.beq v.cells.toList.length 1&&Zl [v] && !KD S.lk id then
      (i.toNat+m<cs.length)/\zns (cs.map z5t) λvs=>cs.set (i.toNat+m) v=vs/\K { S with L:=S.L.set id (t',vs) } w
     else False
    | none=>False
   | .el ob n=>bif Nat.beq v.cells.toList.length ty.ks.length&&Zl v.cells.toList && !C.pm&&Nat.blt 0 ty.ks.length then
     Xm S.bs w ob n v.cells.toList.length/\K S (R9 w ob n v.cells.toList)
    else False
   | .v (.pointer ob)=>bif Nat.beq v.cells.toList.length ty.ks.length&&Zl v.cells.toList && !C.pm&&Nat.blt 0 ty.ks.length then
     Xm S.bs w ob 0 v.cells.toList.length/\K S (R9 w ob 0 v.cells.toList)
    else False
   | _=>False):o.uponIn (Tk C.rd) 0 C.P a N Q ((execOp a.eval o).run C.P wr):=by
 have hgo:∀(S1:St) (w' Wh:Wo),Km S S1->S1.F=S.F->S1.r=S.r->Gb S1->Zn S1 w' Wh->(C.pm=true->w'=w/\S1.old=S.old)->K S1 w'->N (a.put o.dst undef) Wh:=λS1 w' Wh h1 h2 h3 h4 h5 h7 h6=>
  hN.go S1 w' Wh (.v undef) undef h1 h2 h3 h4 h5 h7 rfl (λx hx=>by rw[hdn] at hx; cases hx) (by rw[hdn]; exact h6)
 have W8:∀{ad:Addr} {w':Wo},a.eval x=.pointer (some ad)->v.cells.toList.length=ty.ks.length->(storeCells ad v.cells.toList).run C.P wr=.ok () w'->(execOp a.eval o).run C.P wr=.ok .skip w':=λ{ad w'} h1 h2 h3=>by
  have:=zmw hT ht h2 h3;simp[execOp,ho,h1,hy,Instr.storeAt,Instr.sureAddr,this]
 have SN:∀{id:Nat} {t':TypeId} {cs r:List Va},S.L[id]? = some (t',cs)->KD S.lk id=false->Km S { S with L:=S.L.set id (t',r) }:=λ{id t' cs r} hl hm=>
  ⟨λ_ _ h=>h,λid' t2 cs2 h2=>by
   show ∃mO,(S.L.set id (t',r))[id']? = some (t2,mO)
   by_cases he:id=id'
   ·subst he;rw[hl] at h2;cases h2;exact⟨r,List.getElem?_set_self (I8.1 hl).1⟩
   ·exact⟨cs2,by rw[List.getElem?_set_ne he]; exact h2⟩,λid' hi=>⟨hi,by
   show (S.L.set id (t',r))[id']? = _;exact List.getElem?_set_ne (by rintro rfl; exact L4 hm hi)⟩⟩
 cases e with
 | loc id off=>
  obtain⟨b,hb,hxp⟩:=hx
  dsimp only at h
  split at h
  ·rename_i t' cs hl
   cases hc:(Nat.beq v.cells.toList.length ty.ks.length&&Nat.ble (off+v.cells.toList.length) cs.length&&Zl v.cells.toList && !KD S.lk id) with
   | false=>rw[hc] at h; exact h.elim
   | true=>
    rw[hc] at h;simp only[cond_true] at h;simp only[A',IC] at hc;obtain⟨⟨⟨c1,c2⟩,c3⟩,c4⟩:=hc;have c1:=Ib c1;have c2:=Ik c2
    have hrc:=VO (P:=C.P) v.cells.toList wr ⟨b,off,none⟩ 0 (U5 c3) (λj _ hj=>by
     rw[Addr.add_lit,H3 hw hl hb];obtain⟨b',fM,hh⟩:=hw.loc id t' cs hl;rw[hb] at fM; cases fM;have IN:off+j<cs.length:=Qo;refine⟨⟨cs[off+j],Il IN⟩,?_⟩;simp[World.frozen?,hh])
    rw[W8 hxp c1 hrc];exact hgo _ _ _ (SN hl c4) rfl rfl ⟨WC.old,λid hi=>by simpa using WC.lk id hi⟩ (hw.A49 hl hb c2 WC.old) (λ_=>⟨rfl,rfl⟩) h
  ·exact h.elim
 | le id i m=>
  obtain⟨b,hb,h0,hxp⟩:=hx
  dsimp only at h
  split at h
  ·rename_i t' cs hl
   cases hc:(Nat.beq v.cells.toList.length ty.ks.length&&Nat.beq v.cells.toList.length 1&&Zl [v] && !KD S.lk id) with
   | false=>rw[hc] at h; exact h.elim
   | true=>
    rw[hc] at h;simp only[cond_true] at h;simp only[A',IC] at hc;obtain⟨⟨⟨c1,c2⟩,c3⟩,c4⟩:=hc;have c1:=Ib c1;have c2:=Ib c2;obtain⟨IN,h⟩:=h;obtain⟨_,_,rfl,h⟩:=P8 h
    have hvc:v.cells.toList=[v]:=by
     cases v with
     | agg cs=>cases c3
     | _=>rfl
    rw[<-hvc] at c3
    have hrc:=VO (P:=C.P) v.cells.toList wr ⟨b,i.toNat+m,none⟩ 0 (U5 c3) (λj _ hj=>by
     rw[Addr.add_lit,H3 hw hl hb];obtain⟨b',fM,hh⟩:=hw.loc id t' cs hl;rw[hb] at fM; cases fM;have IN:i.toNat+m+j<cs.length:=Qo;refine⟨⟨cs[i.toNat+m+j],Il IN⟩,?_⟩;simp[World.frozen?,hh])
    rw[W8 hxp c1 hrc];have oH:=hw.A49 (vs:=v.cells.toList) hl hb (off:=i.toNat+m) Qo WC.old
    have he:cs.take (i.toNat+m)++v.cells.toList++cs.drop (i.toNat+m+v.cells.toList.length)=cs.set (i.toNat+m) v:=by
     rw[<-HQ _ _ _ Qo,hvc]; rfl
    rw[he] at oH;exact hgo _ _ _ (SN hl c4) rfl rfl ⟨WC.old,λid hi=>by simpa using WC.lk id hi⟩ oH (λ_=>⟨rfl,rfl⟩) h
  ·exact h.elim
 | el ob n=>
  obtain⟨ad,hob,hxp⟩:=hx
  dsimp only at h
  cases hc:(Nat.beq v.cells.toList.length ty.ks.length&&Zl v.cells.toList && !C.pm&&Nat.blt 0 ty.ks.length) with
  | false=>rw[hc] at h; exact h.elim
  | true=>
   rw[hc] at h;simp only[cond_true] at h;simp only[A',IC] at hc;obtain⟨⟨⟨c1,c2⟩,c3⟩,c4⟩:=hc;have c1:=Ib c1;have c4:0<ty.ks.length:=Ik c4;obtain⟨h1,h2⟩:=h;obtain⟨hr,hbs,IN⟩:=h1.run (P:=C.P) hw Qo c2 hob;rw[W8 hxp c1 hr,zfw,Nat.add_zero];subst hob;exact hgo S _ _ (Km.refl S) rfl rfl WC (hw.A50 hbs IN) (λhp=>by rw[hp] at c3; cases c3) h2
 | v x0=>
  cases x0 with
  | pointer ob=>
    simp only[EV.den] at hx
    dsimp only at h
    cases hc:(Nat.beq v.cells.toList.length ty.ks.length&&Zl v.cells.toList && !C.pm&&Nat.blt 0 ty.ks.length) with
    | false=>rw[hc] at h; exact h.elim
    | true=>
     rw[hc] at h;simp only[cond_true] at h;simp only[A',IC] at hc;obtain⟨⟨⟨c1,c2⟩,c3⟩,c4⟩:=hc;have c1:=Ib c1;have c4:0<ty.ks.length:=Ik c4;obtain⟨h1,h2⟩:=h;obtain⟨ad,hob,_⟩:=id h1;obtain⟨hr,hbs,IN⟩:=h1.run (P:=C.P) hw Qo c2 hob;rw[Addr.add_zero'] at hr;rw[W8 (by rw[hx,hob]) c1 hr];subst hob;exact hgo S _ _ (Km.refl S) rfl rfl WC (hw.A50 hbs IN) (λhp=>by rw[hp] at c3; cases c3) h2
  | _=>exact h.elim
 | ls id len=>exact h.elim
 | no=>exact h.elim
 | kb x=>exact h.elim
theorem zub{C:UQ}(hT:zvt C.P C.T)(Rq:∀f ks,zpv C.ef f=some ks->P1 C.P f){S:St}{w wr:Wo}{ops:Array Oper}{D:Nat->Prop}{o:Oper}{a:Act}{pc:List (Nat×Bool)}{K:St->Wo->Prop}{N:Act->Wo->Prop}{Q:Exit->Act->Wo->Prop}(hf:Kl C.n S ops D a)(hw:Zn S w wr)(WC:Gb S)(hp:EX ops a pc)(hN:zvz C S w o a K N)(h:z39 C S w o pc K)(hnd:∀t x y,o.op=.store t x y->o.dst=none):o.wpIn (Tk C.rd) 0 C.P a wr N Q:=by
 refine zro (λc hc=>by unfold z39 at h; simp[hc,zmn] at h) ?_;unfold z39 at h
 split at h
 case h_1 t ho=>
  split at h
  ·rename_i ty ht
   cases hc:ty.ks.contains .other with
   | true=>rw[hc] at h; exact h.elim
   | false=>
    rw[hc] at h;simp only[cond_false] at h;obtain⟨i,z,hi,hz,hzc⟩:=zm8 hT ht hc
    have W8:(execOp a.eval o).run C.P wr=.ok (.value (.pointer (some ⟨wr.heap.size,0,none⟩))) (wr.alloc (.cells (ty.ks.map zv).toArray t)):=by
     simp[execOp,ho,Instr.alloc,zeroValue,U7 hi,hz,zfn,hzc]
    rw[W8];simp only[Oper.uponIn];exact zen hN hw WC h ⟨_,rfl,by rw[Addr.add_zero']⟩ ⟨wr.heap.size,z3p hw _,rfl⟩
  ·exact h.elim
 case h_2 t x ho=>
  split at h
  ·rename_i v hv;have hv':=QS hf.fit hp hv
   have W8:(execOp a.eval o).run C.P wr=.ok (.value (.pointer (some ⟨wr.heap.size,0,none⟩))) (wr.alloc (.cells v.cells.toList.toArray t)):=by
    simp[execOp,ho,Instr.box,zfn,hv']
   rw[W8];simp only[Oper.uponIn];exact zen hN hw WC h ⟨_,rfl,by rw[Addr.add_zero']⟩ ⟨wr.heap.size,z3p hw _,rfl⟩
  ·exact h.elim
 case h_3 t n parts ho=>
  split at h
  ·rename_i ag ks e z vs ht hvs;have hv':=XY hf.fit hp hvs
   split at h
   ·rename_i ety cells hte Cq8
    cases hb:(Nat.beq n vs.length&&Nat.blt 0 z&&Nat.blt 0 n&&Nat.blt (n*z) 16777216) with
    | false=>rw[hb] at h; exact h.elim
    | true=>
     rw[hb] at h;simp only[cond_true] at h;simp only[A'] at hb;obtain⟨⟨⟨b1,b2⟩,b3⟩,b4⟩:=hb;have b1:=Ib b1;have b2:0<z:=Ik b2;have b3:0<n:=Ik b3;have b4:n*z<16777216:=Ik b4;obtain⟨d,hu,_,oN⟩:=(hT.facts ht).desc;obtain⟨inf,rfl,oM,Cs4⟩:=MS oN.symm;obtain⟨i2,z2,hi2,hz2,DM6,_⟩:=(hT.facts hte).info;rw[oM] at hi2; cases hi2;obtain⟨_,rV,AP9⟩:=DK b2 Cq8;have hf0:=AP9 [] Qs (((Array.range (n*z)).map (z2.cells[· % z2.cells.size]!)).toList) (by simp[b1]);simp only[List.nil_append,Array.toArray_toList] at hf0;have AF6:=zu3 parts a.eval;rw[hv'] at AF6
     have hn0:¬n*z=0:=by
      have:=Nat.mul_pos b3 b2;omega
     have Cq2:¬n*z>2 ^ 24:=by
      have:(2:Nat) ^ 24=16777216:=rfl;omega
     have W8:(execOp a.eval o).run C.P wr=.ok (.value (.slice (some ⟨wr.heap.size,0,none⟩) n n)) (wr.alloc (.cells cells.toArray e)):=by
      simp only[execOp,ho,Instr.buildSlice,Sem.run_bind,run_underlying hu,Result.andThen_ok,Yu oM,Cs4,Sem.run_ite,B' Cq2,B' hn0,zeroValue,U7 oM,hz2,Sem.run_pure,AF6,hf0,newRow,run_newObj];rfl
     rw[W8];simp only[Oper.uponIn];exact zen hN hw WC h rfl ⟨wr.heap.size,z3p hw _,rfl⟩
   ·exact h.elim
  ·exact h.elim
 case h_4 t x y ho=>
  have hdn:=hnd t x y ho
  split at h
  ·rename_i ty id off v ht hx hy;exact Kh hdn hN hw WC hT ho ht (Ye hf.fit hp hx) (QS hf.fit hp hy) h
  ·rename_i ty id i m v ht hx hy;exact Kh hdn hN hw WC hT ho ht (Ye hf.fit hp hx) (QS hf.fit hp hy) h
  ·rename_i ty ob n v ht hx hy;exact Kh hdn hN hw WC hT ho ht (Ye hf.fit hp hx) (QS hf.fit hp hy) h
  ·rename_i ty ob v ht hx hy;exact Kh hdn hN hw WC hT ho ht (Ye hf.fit hp hx) (QS hf.fit hp hy) h
  ·exact h.elim
 case h_5 f args ts ho=>
  split at h
  ·rename_i rks vs hef hvs;have hv:=XY hf.fit hp hvs;have ea:args.map a.eval=vs.toArray:=by rw[<-hv,<-Array.toList_map,Array.toArray_toList]
   have jS:C.pm=false:=by
    cases hp:C.pm with
    | false=>rfl
    | true=>rw[hp] at h; exact h.elim
   rw[jS] at h;simp only[cond_false] at h;rw[zoz (Rq f rks hef) args ts a ho,ea];simp only[Oper.uponIn];refine⟨λhx=>(by simp[Tk,Fence.wide] at hx),M9 ((JE.out hw (h wr hw.ext hw.lt)).mono λe w' he=>?_)⟩;obtain⟨r,rfl,hk,hp⟩:=UT he;obtain⟨h1,h2⟩:=YW hp;exact hN.go S.bS _ _ (.v r) r ⟨λ_ _ h=>h,λ_ _ cs h=>⟨cs,h⟩,λid hi=>⟨hi,rfl⟩⟩ rfl rfl WC.bS (hw.age hk) (λhp=>by rw[jS] at hp; cases hp) rfl h2 h1
  ·exact h.elim
 case h_6 bi args ts ho=>
  split at h
  ·rename_i vs hvs;have hv:=XY hf.fit hp hvs;have ea:args.map a.eval=vs.toArray:=by rw[<-hv,<-Array.toList_map,Array.toArray_toList]
   have jS:C.pm=false:=by
    cases hp:C.pm with
    | false=>rfl
    | true=>rw[hp] at h; exact h.elim
   rw[jS] at h;simp only[cond_false] at h;obtain⟨r,w',W8,hk,hp⟩:=UT (JE.out hw (h wr hw.ext hw.lt))
   have tZ:(execOp a.eval o).run C.P wr=.ok (.value r) w':=by
    rw[<-W8];simp only[execOp,ho,resolve,Sem.run_bind,Sem.run_pure,Result.andThen_ok,invoke,ea];rfl
   rw[tZ];obtain⟨h1,h2⟩:=YW hp;exact hN.go S.bS _ _ (.v r) r ⟨λ_ _ h=>h,λ_ _ cs h=>⟨cs,h⟩,λid hi=>⟨hi,rfl⟩⟩ rfl rfl WC.bS (hw.age hk) (λhp=>by rw[jS] at hp; cases hp) rfl h2 h1
  ·exact h.elim
 case h_7 t args ts ho=>
  split at h
  ·rename_i v vs rks hv0 hvs hrk;have hv1:=QS hf.fit hp hv0;have hv:=XY hf.fit hp hvs;have ea:args.map a.eval=vs.toArray:=by rw[<-hv,<-Array.toList_map,Array.toArray_toList]
   have jS:C.pm=false:=by
    cases hp:C.pm with
    | false=>rfl
    | true=>rw[hp] at h; exact h.elim
   rw[jS] at h;simp only[cond_false] at h
   have hgo:∀(e:Ending) (w':Wo),(DN rks λr=>e=.returned r/\Q9 S.B wr w'/\EZ C S.bS o.dst (.un (.v r)) λS'=>K S' w')->(match e with
     | .returned v=>N (a.put o.dst v) w'
     | .panicked chain=>Q (.panic chain) a w'
     | .outgrown=>LetsOut Q):=λe w' he=>by
    obtain⟨r,rfl,hk,hp⟩:=UT he;obtain⟨h1,h2⟩:=YW hp;exact hN.go S.bS _ _ (.v r) r ⟨λ_ _ h=>h,λ_ _ cs h=>⟨cs,h⟩,λid hi=>⟨hi,rfl⟩⟩ rfl rfl WC.bS (hw.age hk) (λhp=>by rw[jS] at hp; cases hp) rfl h2 h1
   rcases JE.out hw (h wr hw.ext hw.lt) with ⟨f,as0,W8,hc⟩ | ⟨l,f,tmps,asg,body,W8,hc⟩
   ·have tZ:(execOp a.eval o).run C.P wr=.ok (.enter f as0) wr:=by
     rw[<-W8];simp only[execOp,ho,resolve,zct,ea,hv1]
    rw[tZ];simp only[Oper.uponIn];exact⟨λhx=>(by simp[Tk,Fence.wide] at hx),M9 (hc.mono λe w' he=>by have:=hgo e w' he; cases e <;> exact this)⟩
   ·have tZ:(execOp a.eval o).run C.P wr=.ok (.round l f tmps asg body) wr:=by
     rw[<-W8];simp only[execOp,ho,resolve,zct,ea,hv1]
    rw[tZ];simp only[Oper.uponIn];exact⟨λhx=>(by simp[Tk,Fence.wide] at hx),zjn (hc.mono λe w' he=>by have:=hgo e w' he; cases e <;> exact this)⟩
  ·exact h.elim
 case h_8 rc m args ts ho=>
  split at h
  ·rename_i v vs rks hv0 hvs hrk;have hv1:=QS hf.fit hp hv0;have hv:=XY hf.fit hp hvs;have ea:args.map a.eval=vs.toArray:=by rw[<-hv,<-Array.toList_map,Array.toArray_toList]
   have jS:C.pm=false:=by
    cases hp:C.pm with
    | false=>rfl
    | true=>rw[hp] at h; exact h.elim
   rw[jS] at h;simp only[cond_false] at h;obtain⟨f,as0,W8,hc⟩:=JE.out hw (h wr hw.ext hw.lt)
   have tZ:(execOp a.eval o).run C.P wr=.ok (.enter f as0) wr:=by
    rw[<-W8];simp only[execOp,ho,resolve,Sem.run_bind,Sem.run_pure,Result.andThen_ok,z2b,ea,hv1]
   rw[tZ];simp only[Oper.uponIn];refine⟨λhx=>(by simp[Tk,Fence.wide] at hx),M9 (hc.mono λe w' he=>?_)⟩;obtain⟨r,rfl,hk,hp⟩:=UT he;obtain⟨h1,h2⟩:=YW hp;exact hN.go S.bS _ _ (.v r) r ⟨λ_ _ h=>h,λ_ _ cs h=>⟨cs,h⟩,λid hi=>⟨hi,rfl⟩⟩ rfl rfl WC.bS (hw.age hk) (λhp=>by rw[jS] at hp; cases hp) rfl h2 h1
  ·exact h.elim
 case h_9 it ho=>
  split at h
  ·rename_i ob hx;have dZ:=QS hf.fit hp hx
   have jS:C.pm=false:=by
    cases hp:C.pm with
    | false=>rfl
    | true=>rw[hp] at h; exact h.elim
   rw[jS] at h;simp only[cond_false] at h;obtain⟨b,s,pos,rfl,hb,hh,h1,h2⟩:=h wr hw.ext hw.lt;have hg:(getObj b).run C.P wr=.ok (.stringIter s pos) wr:=by simp[getObj,Sem.run,hh]
   by_cases IN:pos<s.size
   ·have SN:(setObj b (.stringIter s (pos+(Utf8.decode s pos).2))).run C.P wr=.ok () (ME wr b s (pos+(Utf8.decode s pos).2)):=by
     simp[setObj,Sem.run,hh,ME]
    have W8:(execOp a.eval o).run C.P wr=.ok (.value (.tuple #[.bool true,.int .i64 pos,.int .i32 (Utf8.decode s pos).1])) (ME wr b s (pos+(Utf8.decode s pos).2)):=by
     simp[execOp,ho,dZ,Instr.next,hg,IN,SN,goInt]
    rw[W8];simp only[Oper.uponIn];obtain⟨g1,g2⟩:=YW (h2 IN)
    have hk:Q9 S.B wr (ME wr b s (pos+(Utf8.decode s pos).2)):=λx hx=>by
     have bT:b≠x:=λe=>hb (e▸hx)
     simp only[ME];rw[Array.getElem?_setIfInBounds_ne bT]
    exact hN.go S.bS _ _ (.v _) _ ⟨λ_ _ h=>h,λ_ _ cs h=>⟨cs,h⟩,λid hi=>⟨hi,rfl⟩⟩ rfl rfl WC.bS (hw.age hk) (λhp=>by rw[jS] at hp; cases hp) rfl g2 g1
   ·have W8:(execOp a.eval o).run C.P wr=.ok (.value (.tuple #[.bool false])) wr:=by
     simp[execOp,ho,dZ,Instr.next,hg,IN]
    rw[W8];simp only[Oper.uponIn];obtain⟨g1,g2⟩:=YW (h1 (Nat.le_of_not_lt IN));exact hN.go S.bS _ _ (.v _) _ ⟨λ_ _ h=>h,λ_ _ cs h=>⟨cs,h⟩,λid hi=>⟨hi,rfl⟩⟩ rfl rfl WC.bS (hw.age λ_ _=>rfl) (λhp=>by rw[jS] at hp; cases hp) rfl g2 g1
  ·exact h.elim
 case h_10=>
  split at h
  ·rename_i xs rk u f hpr
   split at h
   ·rename_i vs hvs;have hv:=XY hf.fit hp hvs
    have jS:C.pm=false:=by
     cases hp:C.pm with
     | false=>rfl
     | true=>rw[hp] at h; exact h.elim
    rw[jS] at h;simp only[cond_false] at h;have h:=h wr hw.ext hw.lt
    cases u with
    | true=>
     simp only[cond_true] at h
     split at h
     ·rename_i hd;obtain⟨w',hr,hk,hK⟩:=h;rw[<-hv] at hr;rw[zfj hpr a.eval hr];simp only[if_true,Oper.uponIn];exact hN.go S.bS _ _ (.v undef) undef ⟨λ_ _ h=>h,λ_ _ cs h=>⟨cs,h⟩,λid hi=>⟨hi,rfl⟩⟩ rfl rfl WC.bS (hw.age hk) (λhp=>by rw[jS] at hp; cases hp) rfl (λx hx=>by rw[hd] at hx; cases hx) (by rw[hd]; exact hK)
     ·exact h.elim
    | false=>
     simp only[cond_false] at h;obtain⟨r,w',hr,hk,hp⟩:=UT h;rw[<-hv] at hr;rw[zfj hpr a.eval hr];simp only[Bool.false_eq_true,if_false,Oper.uponIn];obtain⟨h1,h2⟩:=YW hp;exact hN.go S.bS _ _ (.v r) r ⟨λ_ _ h=>h,λ_ _ cs h=>⟨cs,h⟩,λid hi=>⟨hi,rfl⟩⟩ rfl rfl WC.bS (hw.age hk) (λhp=>by rw[jS] at hp; cases hp) rfl h2 h1
   ·exact h.elim
  ·exact h.elim
theorem zp7{G:Prop->Prop}{d:TD}{op:BinOp}{a b:Va}{K:Va->Prop}(h:znp G d op a b K):∃v,K v:=by
 have kk:∀{p:Prop} [Decidable p] {A:Prop},(bif decide p then A else False)->A:=λ{p _ A} h=>by
  by_cases hk:p
  ·simpa[hk] using h
  ·simp[hk] at h
 unfold znp at h
 split at h <;> first
  | exact h.elim
  | exact⟨_,h⟩
  | exact⟨_,h.2⟩
  | exact⟨_,(kk h).2⟩
  | exact⟨_,kk h⟩
theorem zmm{a b:Operand}{cb:Bool}{x y:Va}{K:Va->Prop}(h:BB a b cb x y K):∃v,K v:=by
 unfold BB at h
 split at h <;> first | exact h.elim | exact⟨_,h⟩
theorem znr{C:UQ}{S:St}{w:Wo}{ops:Array Oper}{o:Oper}{pc:List (Nat×Bool)}{K:EV->K8->Prop}(h:z4t C S w ops o pc K):∃e fact,K e fact:=by
 unfold z4t at h
 split at h
 case h_3=>
  split at h
  ·split at h
   ·split at h
    ·exact⟨_,_,h⟩
    ·exact h.elim
   ·split at h
    ·exact⟨_,_,h⟩
    ·exact h.elim
   ·split at h
    ·obtain⟨v,h⟩:=zmm h; exact⟨_,_,h⟩
    ·exact h.elim
  ·exact h.elim
 case h_5=>
  split at h
  ·rename_i ty u v ht hu hv
   cases hb:z5p ty.d _ C.wr with
   | true=>
    rw[hb] at h;simp only[cond_true] at h;obtain⟨v,h⟩:=Kc h;exact⟨_,_,h.2⟩
   | false=>
    rw[hb] at h;simp only[cond_false] at h;obtain⟨v,h⟩:=zp7 h;exact⟨_,_,h⟩
  ·exact h.elim
 case h_14=>
  (repeat' split at h) <;> first
   | exact h.elim
   | (obtain⟨l,_,h⟩:=A6 h; obtain⟨u,_,h⟩:=EB h; exact⟨_,_,h.2⟩)
 case h_19=>
  split at h
  ·obtain⟨l,_,h⟩:=P8 h
   split at h
   ·exact⟨_,_,h.2⟩
   ·exact h.elim
  ·rename_i ty ob ht hx
   cases hk:ty.ks.isEmpty with
   | true=>rw[hk] at h; exact h.elim
   | false=>
    rw[hk] at h;obtain⟨l,_,h⟩:=P8 h
    split at h
    ·exact⟨_,_,h.2⟩
    ·exact h.elim
  ·(repeat' split at h) <;> first
    | exact h.elim
    | exact⟨_,_,h⟩
  ·(repeat' split at h) <;> first
    | exact h.elim
    | (obtain⟨v,h⟩:=Kc h; exact⟨_,_,h.2⟩)
  ·exact h.elim
 case h_21=>
  (repeat' split at h) <;> first
   | exact h.elim
   | (obtain⟨v,h⟩:=UT h; exact⟨_,_,h.2⟩)
 case h_16=>
  split at h
  ·rename_i ty v ht hx
   cases ho':ty.d.AO2 with
   | true=>rw[ho'] at h; exact h.elim
   | false=>rw[ho'] at h; exact⟨_,_,h⟩
  ·exact h.elim
 case h_17=>
  (repeat' split at h) <;> first
   | exact h.elim
   | (obtain⟨v,h⟩:=UT h; exact⟨_,_,h.2⟩)
 all_goals
  (repeat' split at h) <;> first
   | exact h.elim
   | exact⟨_,_,h⟩
   | exact⟨_,_,h.2⟩
   | (obtain⟨v,h⟩:=Kc h; exact⟨_,_,h.2⟩)
def Ek(o:Oper):Bool:=
 match o.op,o.dst with
 | .store _ _ _,some _=>true
 | .defer _,_=>true
 | _,_=>false
def z3b(dn:Nat->Bool)(o:Oper):Bool:=
 match o.guard with
 | some (j,_)=>dn j
 | none=>true
def zsg(S:St)(ops:Array Oper)(o:Oper):Bool:=match o.guard with
 | none=>false
 | some (j,_)=>match (ops[j]?).bind (·.dst) with
  | some d=>match S.F.get d with
   | some (.gd _ _ .no)=>true
   | _=>false
  | none=>false
def Nr(S:St)(ops:Array Oper)(pc:List (Nat×Bool))(o:Oper):Bool:=zsg S ops o||o.op.operands.toList.any λx=>match zf8 S pc x with
 | some .no=>true
 | _=>false
theorem Em{n:Nat}{S:St}{ops:Array Oper}{a:Act}(hf:C0 n S ops a){pc:List (Nat×Bool)}{o:Oper}(mQ:zqu S ops o=some pc)(h:Nr S ops pc o=true):¬EX ops a pc:=λhp=>by
 unfold Nr at h;rcases Bool.or_eq_true_iff.1 h with h | h
 ·unfold zsg at h
  split at h
  ·cases h
  ·rename_i j want hg
   split at h
   ·rename_i d hd
    split at h
    ·rename_i r uM hv;unfold zqu at mQ;rw[hg] at mQ;simp only[hd,hv] at mQ
     cases hr:Nat.beq r S.r with
     | false=>rw[hr] at mQ; cases mQ
     | true=>
      rw[hr] at mQ;simp only[cond_true,I0] at mQ;subst mQ;exact((hf.fits d _ hv (Ib hr)).1 λp hm=>hp p (I1 _ hm)).elim
    ·cases h
   ·cases h
 ·obtain⟨x,_,hx⟩:=List.any_eq_true.1 h
  split at hx
  ·rename_i hv;exact(Ye hf hp hv).elim
  ·cases hx
def zdc(C:UQ)(ops:Array Oper)(dn:Nat->Bool)(o:Oper)(S:St)(w:Wo)(K:K8->St->Wo->Prop):Prop:=
 bif z3b dn o && !Ek o then
  match zqu S ops o with
  | none=>False
  | some pc=>bif Nr S ops pc o then EZ C S o.dst (zi3 S pc .no) λS'=>K none S' w else bif B3 C o.op then (match pc with
   | []=>z39 C S w o [] (K none)
   | pc=>bif zu5 S ops pc then Ds S ops pc (z39 C S w o pc (K none))/\(Ds S ops pc False->EZ C S o.dst (zi3 S pc .no) λS'=>K none S' w) else False)
   else z4t C S w ops o pc λe f=>EZ C S o.dst (zi3 S pc e) λS'=>K f S' w
 else False
structure z19 (C:UQ) (S:St) (w:Wo) (ops:Array Oper) (D:Nat->Prop) (o:Oper) (a:Act) (S':St) (w':Wo) (a':Act) (Wh:Wo):Prop where
 fit:Kl C.n S' ops D a'
 rel:Zn S' w' Wh
 wf:Gb S'
 fr:Km S S'
 r:S'.r=S.r
 put:∃v,a'=a.put o.dst v
 pm:C.pm=true->w'=w/\S'.old=S.old
theorem zqv{S:St}{ops:Array Oper}{D:Nat->Prop}{n:Nat}{a:Act}(hf:Kl n S ops D a){o:Oper}{pc:List (Nat×Bool)}(h:zqu S ops o=some pc)(hg:∀j b,o.guard=some (j,b)->D j):∀p∈pc,D p.1:=by
 unfold zqu at h
 split at h
 ·simp only[I0] at h; subst h; intro p hp; cases hp
 ·rename_i j want hgd
  split at h
  ·rename_i d hd
   split at h
   ·simp only[I0] at h; subst h;intro p hp;simp only[IA] at hp;subst hp;exact hg j want hgd
   ·rename_i r uM b hv
    cases hr:Nat.beq r S.r with
    | false=>rw[hr] at h; cases h
    | true=>
     rw[hr] at h;simp only[cond_true,I0] at h; subst h;intro p hp;rcases Ii.1 hp with rfl | hp
     ·exact hg j want hgd
     ·have:=Ib hr;subst this;exact hf.dn d uM _ hv p hp
   ·rename_i r uM hv
    cases hr:Nat.beq r S.r with
    | false=>rw[hr] at h; cases h
    | true=>
     rw[hr] at h;simp only[cond_true,I0] at h; subst h;intro p hp;rcases Ii.1 hp with rfl | hp
     ·exact hg j want hgd
     ·have:=Ib hr;subst this;exact hf.dn d uM _ hv p hp
   ·cases h
  ·cases h
structure zrs (C:UQ):Prop where
 T:zvt C.P C.T
 pf:∀f ks,zpv C.pf f=some ks->P1 C.P f
 ef:∀f ks,zpv C.ef f=some ks->P1 C.P f
 mixed:C.P.follows .mixedOrders=true
theorem zdd{C:UQ}(E:zrs C){ops:Array Oper}{D D':Nat->Prop}{dn:Nat->Bool}{i:Nat}{o:Oper}{S:St}{w wr:Wo}{a:Act}{K:K8->St->Wo->Prop}{N:Act->Wo->Prop}{Q:Exit->Act->Wo->Prop}(hu:BR ops=true)(ho:ops[i]? = some o)(hi:¬D i)(hD:∀j,D j->zvv ops j)(hDD:∀j,D j->D' j)(hdn:∀j,dn j=true->zvv ops j->D j)(hf:Kl C.n S ops D a)(hw:Zn S w wr)(WC:Gb S)(hN:∀f S' w' a' Wh,K f S' w'->z19 C S w ops D' o a S' w' a' Wh->N a' Wh)(h:zdc C ops dn o S w K) :
  if Region.wanted o (yielded ops a.tmps) then o.wpIn (Tk C.rd) 0 C.P a wr N Q else N (a.put o.dst undef) wr:=by
 unfold zdc at h
 cases hb:(z3b dn o && !Ek o) with
 | false=>rw[hb] at h; exact h.elim
 | true=>
  rw[hb] at h;simp only[cond_true] at h;simp only[A',IC] at hb
  have hg:∀j b,o.guard=some (j,b)->D j:=λj b hgd=>by
   refine hdn j ?_ ⟨o,by rw[Array.mem_toList_iff]; exact Array.mem_of_getElem? ho,b,hgd⟩;have:=hb.1;unfold z3b at this;rw[hgd] at this;exact this
  split at h
  ·exact h.elim
  ·rename_i pc mQ;have AQ3:=zqv hf mQ hg;have oP:=Hc hf.fit mQ
   cases hdd:Nr S ops pc o with
   | true=>
    rw[hdd] at h;simp only[cond_true] at h;have hp:=Em hf.fit mQ hdd;rw[B' (λvL=>hp (oP.1 vL))];obtain⟨h1,h2⟩:=YW h;exact hN _ _ _ _ _ h1 ⟨hf.put hu ho hi hD hDD AQ3 h2 ⟨λhp'=>Ir hp' hp,λ_=>rfl⟩,hw.bQ _ _,WC.bQ _ _,(Km.refl S).bQ _ _,by cases o.dst <;> rfl,⟨undef,rfl⟩,λ_=>⟨rfl,by cases o.dst <;> rfl⟩⟩
   | false=>
   rw[hdd] at h;simp only[cond_false] at h
   cases he:B3 C o.op with
   | true=>
    rw[he] at h;simp only[cond_true] at h
    have run:EX ops a pc->z39 C S w o pc (K none)->o.wpIn (Tk C.rd) 0 C.P a wr N Q:=λCu6 h=>by
     refine zub E.T E.ef hf hw WC Cu6 ⟨λS1 w' Wh e v h1 h2 h3 h4 h5 h9 h6 h7 h8=>?_⟩ h (λt x y hs=>?_)
     ·refine hN none _ _ _ _ h8 ⟨?_,h5.bQ _ _,h4.bQ _ _,h1.bQ _ _,by cases o.dst <;> exact h3,⟨v,rfl⟩,λhp=>by cases o.dst <;> exact h9 hp⟩;have hf1:Kl C.n S1 ops D a:=hf.mono h1.B h2 h3;exact hf1.put (pc:=[]) hu ho hi hD hDD (λp hp=>by cases hp) h7 ⟨λ_=>h6,λhn=>Ir (λp hp=>by cases hp) hn⟩
     ·have:=hb.2;unfold Ek at this;rw[hs] at this
      cases hd:o.dst with
      | none=>rfl
      | some d=>rw[hd] at this; cases this
    split at h
    ·have vL:Region.wanted o (yielded ops a.tmps)=true:=oP.2 (λp hp=>by cases hp);rw[C' vL];exact run (λp hp=>by cases hp) h
    ·cases hpo:zu5 S ops pc with
     | false=>rw[hpo] at h; exact h.elim
     | true=>
      rw[hpo] at h;simp only[cond_true] at h
      by_cases hp:EX ops a pc
      ·rw[C' (oP.2 hp)];exact run hp (zbf hf.fit hp h.1)
      ·rw[B' (λvL=>hp (oP.1 vL))];obtain⟨h1,h2⟩:=YW (h.2 (zlq hf.fit hpo hp));exact hN _ _ _ _ _ h1 ⟨hf.put hu ho hi hD hDD AQ3 h2 ⟨λhp'=>Ir hp' hp,λ_=>rfl⟩,hw.bQ _ _,WC.bQ _ _,(Km.refl S).bQ _ _,by cases o.dst <;> rfl,⟨undef,rfl⟩,λ_=>⟨rfl,by cases o.dst <;> rfl⟩⟩
   | false=>
    rw[he] at h;simp only[cond_false] at h
    by_cases hp:EX ops a pc
    ·rw[C' (oP.2 hp)];obtain⟨e,fact,v,hK,B82,jV,hq⟩:=zjl E.T E.pf hf.fit hp h;obtain⟨h1,h2⟩:=YW hK;refine BT (C:=Zn S w) (K:=λa'=>a'=a.put o.dst v) hw (λa' w' hw' ha'=>?_) ⟨v,λWh hw'=>hq S w a rfl (λ_ _ h=>h) jV Wh hw',rfl⟩;subst ha';exact hN _ _ _ _ _ h1 ⟨hf.put hu ho hi hD hDD AQ3 h2 ⟨λ_=>B82,λhn=>Ir hp hn⟩,hw'.bQ _ _,WC.bQ _ _,(Km.refl S).bQ _ _,by cases o.dst <;> rfl,⟨v,rfl⟩,λ_=>⟨rfl,by cases o.dst <;> rfl⟩⟩
    ·rw[B' (λvL=>hp (oP.1 vL))];obtain⟨e,fact,hK⟩:=znr h;obtain⟨h1,h2⟩:=YW hK;exact hN _ _ _ _ _ h1 ⟨hf.put hu ho hi hD hDD AQ3 h2 ⟨λhp'=>Ir hp' hp,λ_=>rfl⟩,hw.bQ _ _,WC.bQ _ _,(Km.refl S).bQ _ _,by cases o.dst <;> rfl,⟨undef,rfl⟩,λ_=>⟨rfl,by cases o.dst <;> rfl⟩⟩
def zw3(C:UQ)(ops:Array Oper):List Oper->Nat->St->Wo->(St->Wo->Prop)->Prop
 | [],_,S,w,K=>K S w
 | o::rest,k,S,w,K=>zdc C ops (λj=>Nat.blt j k) o S w λ_ S' w'=>zw3 C ops rest (k+1) S' w' K
def GF:List Oper->List Nat
 | []=>[]
 | o::r=>match o.dst with
  | some d=>d::GF r
  | none=>GF r
def E5(ds:List Nat)(a a':Act):Prop:=a'.defers=a.defers/\a'.tmps.size=a.tmps.size/\∀i,i∉ds->a'.tmps.getD i undef=a.tmps.getD i undef
theorem E5.refl(ds:List Nat)(a:Act):E5 ds a a:=⟨rfl,rfl,λ_ _=>rfl⟩
theorem E5.trans{ds:List Nat}{a b c:Act}(h:E5 ds a b)(k:E5 ds b c):E5 ds a c:=⟨k.1.trans h.1,k.2.1.trans h.2.1,λi hi=>(k.2.2 i hi).trans (h.2.2 i hi)⟩
theorem E5.mono{ds es:List Nat}{a b:Act}(h:E5 ds a b)(hs:∀x∈ds,x∈es):E5 es a b:=⟨h.1,h.2.1,λi hi=>h.2.2 i (λhx=>hi (hs i hx))⟩
theorem E5.put(a:Act)(d:Option Tmp)(v:Va)(ds:List Nat)(h:∀x,d=some x->x∈ds):E5 ds a (a.put d v):=by
 cases d with
 | none=>exact E5.refl _ _
 | some d=>
  refine⟨rfl,by simp[Act.put],λi hi=>?_⟩;have:d≠i:=λe=>hi (e▸h d rfl)
  simp only[Act.put,Array.getD_eq_getD_getElem?];rw[Array.getElem?_setIfInBounds_ne this]
theorem AL{C:UQ}(E:zrs C){ops:Array Oper}(hu:BR ops=true){K:St->Wo->Prop}{Q:Exit->Act->Wo->Prop}{ds:List Nat}{S0:St}{w0:Wo}{a0:Act}(hds:∀x∈GF ops.toList,x∈ds)(hQ:∀S' w' a' Wh,K S' w'->Kl C.n S' ops (λj=>j<ops.size/\zvv ops j) a'->Zn S' w' Wh->Gb S'->Km S0 S'->S'.r=S0.r->E5 ds a0 a'->(C.pm=true->w'=w0/\S'.old=S0.old)->Q .normal a' Wh) :
  ∀(l:List Oper) (k:Nat) (S:St) (w wr:Wo) (a:Act),(∀j,l[j]? = ops[k+j]?)->k+l.length=ops.size->zw3 C ops l k S w K->Kl C.n S ops (λj=>j<k/\zvv ops j) a->Zn S w wr->Gb S->Km S0 S->S.r=S0.r->E5 ds a0 a->(C.pm=true->w=w0/\S.old=S0.old)->
   wpListIn (Tk C.rd) 0 C.P ops Q l a wr
 | [],k,S,w,wr,a,_,hk,h,hf,hw,WC,sX,hr,hfa,jS=>by
  have:k=ops.size:=by simpa using hk
  subst this;exact hQ S w a wr h hf hw WC sX hr hfa jS
 | o::rest,k,S,w,wr,a,hl,hk,h,hf,hw,WC,sX,hr,hfa,jS=>by
  have ho:ops[k]? = some o:=by simpa using (hl 0).symm
  have hod:∀x,o.dst=some x->x∈ds:=λx hx=>by
   refine hds x ?_;have hm:o∈ops.toList:=by rw[Array.mem_toList_iff]; exact Array.mem_of_getElem? ho
   clear hk hl h;generalize ops.toList=q at hm
   induction q with
   | nil=>cases hm
   | cons y q ih=>
    simp only[GF];rcases Ii.1 hm with rfl | hm
    ·rw[hx]; exact I9 ..
    ·split
     ·exact I1 _ (ih hm)
     ·exact ih hm
  have cA:=zdd E (i:=k) (D':=λj=>j<k+1/\zvv ops j) (N:=λa' w'=>wpListIn (Tk C.rd) 0 C.P ops Q rest a' w') (Q:=Q) hu ho (λhd=>Nat.lt_irrefl _ hd.1) (λj hj=>hj.2) (λj hj=>⟨Nat.lt_succ_of_lt hj.1,hj.2⟩)
   (λj h1 h2=>⟨Ik h1,h2⟩) hf hw WC (λf S' w' a' Wh hK hL=>by
    obtain⟨v,rfl⟩:=hL.put;exact AL E hu hds hQ rest (k+1) S' w' Wh _ (λj=>by have:=hl (j+1); simpa[Nat.add_assoc,Nat.add_comm 1 j] using this) (by simp at hk; omega) hK hL.fit hL.rel hL.wf (sX.trans hL.fr) (hL.r.trans hr) (hfa.trans (E5.put a o.dst v ds hod)) (λhp=>⟨(hL.pm hp).1.trans (jS hp).1,(hL.pm hp).2.trans (jS hp).2⟩)) h
  unfold wpListIn
  by_cases hwt:Region.wanted o (yielded ops a.tmps)=true
  ·rw[C' hwt] at cA ⊢;exact cA
  ·rw[B' hwt] at cA ⊢;exact⟨λ_ _=>trivial,cA⟩
theorem z0k{C:UQ}{ops:Array Oper}{dn:Nat->Bool}{o:Oper}{S:St}{w:Wo}{K:K8->St->Wo->Prop}(h:zdc C ops dn o S w K):∀c,o.op≠.defer c:=λc hc=>by
 unfold zdc at h;have:Ek o=true:=by simp[Ek,hc]
 rw[this] at h;simp at h
def Vd(ops:Array Oper)(o:Oper)(a:Act):Option (Sem Next):=if Region.wanted o (yielded ops a.tmps) then some (execOp a.eval o) else none
def YS(P:Program)(R:Wo->Prop)(s:Option (Sem Next))(v:Va):Prop:=
 match s with
 | some s=>∀w,R w->Oper.quietUpon P R w v (s.run P w)
 | none=>v=undef
def y8(P:Program)(o:Oper)(a:Act)(w:Wo)(N:Va->Wo->Prop):Prop:=
 match (execOp a.eval o).run P w with
 | .ok (.value v) w'=>N v w'
 | .ok .skip w'=>N undef w'
 | .ok (.enter f args) w'=>Calls P f args w' λe jY=>∃v,e=.returned v/\N v jY
 | .ok (.row row args) w'=>Rows P row args w' λv jY=>N v jY
 | .ok (.round l f tmps asg body) w'=>RoundIn Fence.wide 0 P l f tmps asg body w' λe jY=>∃v,e=.returned v/\N v jY
 | _=>False
def Tp:List Oper->List Nat->List Nat
 | [],acc=>acc
 | o::r,acc=>Tp r (acc++[o.after.toList.foldl (λs e=>if Region.binds .any e then s ||| 2 ^ e.on ||| acc.getD e.on 0 else s) 0])
def zkp(M:List Nat)(i j:Nat):Bool := !(M.getD j 0).testBit i
def Hy(P:Program)(ops:Array Oper)(un:Nat->Nat->Bool)(Q:Act->(Wo->Prop)->Prop):Nat->Array Bool->List (Nat×Option (Sem Next)×Va)->Act->(Wo->Prop)->Prop
 | 0,Rp,_,a,R=>Region.ready .any ops Rp=[]/\Q a R
 | n+1,Rp,Pd,a,R=>(Region.ready .any ops Rp=[]->Q a R)/\∀i∈Region.ready .any ops Rp,∀o,ops[i]? = some o->
   (∃v,YS P R (Vd ops o a) v/\Hy P ops un Q n (Rp.setIfInBounds i true) ((i,Vd ops o a,v)::Pd) (a.put o.dst v) R) \/
   (Region.wanted o (yielded ops a.tmps)=true/\∀w,R w->y8 P o a w λv w'=>∃R':Wo->Prop,R' w'/\(∀p∈Pd,un p.1 i=true->YS P R' p.2.1 p.2.2)/\
    Hy P ops un Q n (Rp.setIfInBounds i true) Pd (a.put o.dst v) R')
section
variable {P:Program}{ops:Array Oper}{un:Nat->Nat->Bool}{Q:Act->(Wo->Prop)->Prop}
theorem NG{o:Oper}{a:Act}{w:Wo}{N N':Va->Wo->Prop}(h:∀v w,N v w->N' v w)(hh:y8 P o a w N):y8 P o a w N':=by
 unfold y8 at *;generalize (execOp a.eval o).run P w=r at *
 cases r with
 | ok n w'=>
  cases n <;> dsimp only at hh ⊢
  case value v=>exact h _ _ hh
  case skip=>exact h _ _ hh
  case enter f args=>exact hh.mono λe jY ⟨v,he,hn⟩=>⟨v,he,h _ _ hn⟩
  case row row args=>exact hh.mono λv jY hn=>h _ _ hn
  case round l f tmps asg body=>exact hh.mono λe jY ⟨v,he,hn⟩=>⟨v,he,h _ _ hn⟩
  all_goals exact hh
 | halt x w'=>exact hh
theorem z0i{o:Oper}{a:Act}{w:Wo}{N:Va->Wo->Prop}{K:Act->Wo->Prop}{Q':Exit->Act->Wo->Prop}{r:Option Nat}(hh:y8 P o a w N)(h:∀v w',N v w'->K (a.put o.dst v) w'):o.wpIn (Tk r) 0 P a w K Q':=by
 refine zro (λc hc=>by unfold y8 at hh; rcases zj9 (P:=P) (ρ:=a.eval) hc w with ⟨d,w',hr⟩ | ⟨x,w',hr⟩ <;> (rw[hr] at hh; exact hh)) ?_;unfold y8 at hh;generalize (execOp a.eval o).run P w=r at *
 cases r with
 | ok n w'=>
  cases n <;> dsimp only at hh <;> simp only[Oper.uponIn]
  case value v=>exact h _ _ hh
  case skip=>exact h _ _ hh
  case enter f args=>exact⟨λhx=>(by simp[Tk,Fence.wide] at hx),M9 (hh.mono λe jY ⟨v,he,hn⟩=>by subst he; exact h _ _ hn)⟩
  case row row args=>exact⟨λhx=>(by simp[Tk,Fence.wide] at hx),zw9 (hh.mono λv jY hn=>h _ _ hn)⟩
  case round l f tmps asg body=>exact⟨λhx=>(by simp[Tk,Fence.wide] at hx),zjn (hh.mono λe jY ⟨v,he,hn⟩=>by subst he; exact h _ _ hn)⟩
 | halt x w'=>exact hh.elim
theorem zp6{o:Oper}{a:Act}{w:Wo}{K:Act->Wo->Prop}{r:Option Nat}(hd:∀c,o.op≠.defer c)(hh:o.wpIn (Tk r) 0 P a w K λ_ _ _=>False)(hp:∀a' w',K a' w'->∃v,a'=a.put o.dst v):y8 P o a w λv w'=>K (a.put o.dst v) w':=by
 have hh:=z34 hd hh;unfold y8;generalize (execOp a.eval o).run P w=r at *
 cases r with
 | ok n w'=>
  cases n <;> simp only[Oper.uponIn] at hh ⊢
  case value v=>exact hh
  case skip=>exact hh
  case defer d=>
   obtain⟨v,hv⟩:=hp _ _ hh;have h1:(({ a with defers:=d::a.defers }:Act).put o.dst undef).defers=(a.put o.dst v).defers:=by rw[hv]
   have h2:∀(b:Act) (x:Option Tmp) (u:Va),(b.put x u).defers=b.defers:=λb x u=>by cases x <;> rfl
   rw[h2,h2] at h1;have:=congrArg List.length h1;simp at this
  case enter f args=>
   exact(zsb hh.2).mono λe jY he=>by
    cases e with
    | returned v=>exact⟨v,rfl,he⟩
    | panicked c=>exact he.elim
    | outgrown=>obtain⟨_,_,he⟩:=he; exact he.elim
  case row row args=>exact λc cs=>(let ⟨v,w1,h1,h2⟩:=hh.2 c cs (zdj _ _); ⟨v,w1,h1,StepsIn.steps h2⟩)
  case round l f tmps asg body=>
   refine⟨trivial,λc cs _=>?_⟩;obtain⟨e,jY,he,hs⟩:=hh.2.2 c cs (zdj _ _);refine⟨e,jY,?_,hs⟩
   cases e with
   | returned v=>exact⟨v,rfl,he⟩
   | panicked c=>exact he.elim
   | outgrown=>obtain⟨_,_,he⟩:=he; exact he.elim
 | halt x w'=>cases x <;> simp only[Oper.uponIn] at hh
theorem Fa:∀{n:Nat} {Rp:Array Bool} {Pd Pd':List (Nat×Option (Sem Next)×Va)} {a:Act} {R:Wo->Prop},(∀p∈Pd',p∈Pd)->Hy P ops un Q n Rp Pd a R->Hy P ops un Q n Rp Pd' a R
 | 0,_,_,_,_,_,_,h=>h
 | n+1,Rp,Pd,Pd',a,R,hs,h=>⟨h.1,λi hi o ho=>by
  rcases h.2 i hi o ho with ⟨v,h1,h2⟩ | ⟨h1,h2⟩
  ·refine .inl ⟨v,h1,Fa (λp hp=>?_) h2⟩;rcases Ii.1 hp with rfl | hp
   ·exact I9 ..
   ·exact I1 _ (hs p hp)
  ·exact .inr ⟨h1,λw hw=>NG (λv w' ⟨R',h3,h4,h5⟩=>⟨R',h3,λp hp=>h4 p (hs p hp),Fa hs h5⟩) (h2 w hw)⟩⟩
theorem LL{r:Option Nat}{Q':Exit->Act->Wo->Prop}(hQ:∀a R w,Q a R->R w->Q' .normal a w):∀(n:Nat) (Rp:Array Bool) (Pd:List (Nat×Option (Sem Next)×Va)) (a:Act) (R:Wo->Prop) (w:Wo),R w->Hy P ops un Q n Rp Pd a R->wpAnyIn (Tk r) 0 P .any ops Q' n Rp a w
 | 0,_,_,_,_,_,hw,h=>⟨h.1,hQ _ _ _ h.2 hw⟩
 | n+1,Rp,Pd,a,R,w,hw,h=>⟨λh0=>hQ _ _ _ (h.1 h0) hw,λi hi=>by
  obtain⟨_,o,ho,_⟩:=mem_ready.1 hi;unfold wpOpIn;simp only[ho];rcases h.2 i hi o ho with ⟨v,h1,h2⟩ | ⟨h1,h2⟩
  ·unfold Vd at h1
   by_cases hwt:Region.wanted o (yielded ops a.tmps)=true
   ·rw[C' hwt] at h1 ⊢;exact BT (C:=R) (K:=λa'=>a'=a.put o.dst v) hw (λa' w' hw' ha'=>by subst ha'; exact LL hQ n _ _ _ R w' hw' h2) ⟨v,λw' hw'=>h1 w' hw',rfl⟩
   ·rw[B' hwt] at h1 ⊢;rw[show v=undef from h1] at h2;exact⟨λ_ _=>trivial,LL hQ n _ _ _ R w hw h2⟩
  ·rw[C' h1];exact(z0i (h2 w hw) λv w' ⟨R',h3,_,h5⟩=>LL hQ n _ _ _ R' w' h3 h5)⟩
theorem zvc{oi oj:Oper}{a:Act}{v:Va}(hap:oi.apart ops oj=true)(hsj:∀cs b,oj.op≠.select cs b):Vd ops oj (a.put oi.dst v)=Vd ops oj a:=by
 obtain⟨h1,_,_⟩:=Oper.apart_spec hap;unfold Vd;rw[wanted_put oj a oi.dst v h1,execOp_put oj hsj a oi.dst v h1]
theorem zw0{oi oj:Oper}{a:Act}{v:Va}{w:Wo}{N:Va->Wo->Prop}(hap:oi.apart ops oj=true)(hsj:∀cs b,oj.op≠.select cs b)(h:y8 P oj (a.put oi.dst v) w N):y8 P oj a w N:=by
 obtain⟨h1,_,_⟩:=Oper.apart_spec hap;unfold y8 at *;rw[execOp_put oj hsj a oi.dst v h1] at h;exact h
theorem zcp{x y:Oper}(h:x.apart ops y=true):∀d,y.dst=some d->d∉x.looksAt ops:=(Oper.apart_spec h).2.2
def E3(ops:Array Oper)(Rp:Array Bool):Prop:=∀j o,ops[j]? = some o->Rp.getD j true=true->∀e∈o.after,Region.binds .any e=true->Rp.getD e.on false=true
theorem zrj(BE8:∀(j:Nat) (o:Oper) cs b,ops[j]? = some o->o.op≠.select cs b)(hun:∀Rp i j,E3 ops Rp->i∈Region.ready .any ops Rp->j∈Region.ready .any ops Rp->i≠j->un i j=true){i:Nat}{oi:Oper}{v:Va}(hi:ops[i]? = some oi) :
  ∀(n:Nat) (Rp:Array Bool) (Pd:List (Nat×Option (Sem Next)×Va)) (a:Act) (R:Wo->Prop),E3 ops Rp->
   (∀j oj,ops[j]? = some oj->j≠i->Rp.getD j true=false->(∀e∈oj.after,Region.binds .any e=true->e.on≠i)->oi.apart ops oj=true)->
   i∈Region.ready .any ops Rp->YS P R (Vd ops oi a) v->
   Hy P ops un Q n (Rp.setIfInBounds i true) ((i,Vd ops oi a,v)::Pd) (a.put oi.dst v) R->Hy P ops un Q (n+1) Rp Pd a R:=by
 intro n
 induction n with
 | zero=>
  intro Rp Pd a R rV sY hr hy H;refine⟨λh=>(by rw[h] at hr; cases hr),λj hj oj hoj=>?_⟩
  by_cases hji:j=i
  ·subst hji; rw[hi] at hoj; cases hoj; exact .inl ⟨v,hy,H⟩
  ·have:=ready_mono hj hji;rw[H.1] at this;cases this
 | succ n ih=>
  intro Rp Pd a R rV sY hr hy H;refine⟨λh=>(by rw[h] at hr; cases hr),λj hj oj hoj=>?_⟩
  by_cases hji:j=i
  ·subst hji; rw[hi] at hoj; cases hoj; exact .inl ⟨v,hy,H⟩
  ·obtain⟨Bu4,oj',CS0,oK⟩:=mem_ready.1 hj;rw[hoj] at CS0; cases CS0
   have Cu1:∀e∈oj.after,Region.binds .any e=true->e.on≠i:=λe he hb heq=>by
    have h1:=oK e he hb;have h0:=(mem_ready.1 hr).1;rw[heq] at h1;rcases Nat.lt_or_ge i Rp.size with h' | h'
    ·simp[h'] at h0 h1; rw[h0] at h1; cases h1
    ·simp[Array.getElem?_eq_none h'] at h1
   have hap:=sY j oj hoj hji Bu4 Cu1;have hsj:=λcs b=>BE8 j oj cs b hoj
   have hsi:=λcs b=>BE8 i oi cs b hi
   have BD5:E3 ops (Rp.setIfInBounds j true):=λk ok hk rY e he hb=>by
    by_cases fN:j=k
    ·subst fN; rw[hoj] at hk; cases hk;exact getD_set_true (oK e he hb)
    ·rw[getD_set_ne true fN] at rY;exact getD_set_true (rV k ok hk rY e he hb)
   have Bi2:∀k ok,ops[k]? = some ok->k≠i->(Rp.setIfInBounds j true).getD k true=false->
     (∀e∈ok.after,Region.binds .any e=true->e.on≠i)->oi.apart ops ok=true:=λk ok hk hki hun iX=>by
    refine sY k ok hk hki ?_ iX
    by_cases fN:j=k
    ·subst fN; exact Bu4
    ·rw[getD_set_ne true fN] at hun; exact hun
   have hr':=ready_mono hr (Ne.symm hji)
   have Bv3:∀u,Vd ops oi (a.put oj.dst u)=Vd ops oi a:=λu=>by
    unfold Vd;rw[wanted_put oi a oj.dst u (zcp hap),execOp_put oi hsi a oj.dst u (zcp hap)]
   have B09:∀u,(a.put oi.dst v).put oj.dst u=(a.put oj.dst u).put oi.dst v:=λu=>Act.put_comm a v u (Oper.apart_spec hap).2.1
   rcases H.2 j (ready_mono hj hji) oj hoj with ⟨u,h1,h2⟩ | ⟨h1,h2⟩
   ·rw[zvc hap hsj] at h1 h2;refine .inl ⟨u,h1,ih _ _ _ R BD5 Bi2 hr' (by rw[Bv3 u]; exact hy) ?_⟩;rw[Bv3 u,<-B09 u,Array.setIfInBounds_comm _ _ hji]
    exact Fa (λp hp=>by
     simp only[Ii] at hp ⊢;rcases hp with h | h | h
     ·exact .inr (.inl h)
     ·exact .inl h
     ·exact .inr (.inr h)) h2
   ·refine .inr ⟨?_,λw hw=>zw0 hap hsj (NG (λu w' ⟨R',h3,h4,h5⟩=>⟨R',h3,λp hp=>h4 p (I1 _ hp),?_⟩) (h2 w hw))⟩
    ·rw[wanted_put oj a oi.dst v (Oper.apart_spec hap).1] at h1; exact h1
    ·have hyi:YS P R' (Vd ops oi a) v:=h4 _ (I9 ..) (hun Rp i j rV hr hj (Ne.symm hji));refine ih _ _ _ R' BD5 Bi2 hr' (by rw[Bv3 u]; exact hyi) ?_;rw[Bv3 u,<-B09 u,Array.setIfInBounds_comm _ _ hji];exact h5
end
theorem zdk{acc:List Nat}{i:Nat}:∀(l:List Edge) (s:Nat),(l.foldl (λs e=>if Region.binds .any e then s ||| 2 ^ e.on ||| acc.getD e.on 0 else s) s).testBit i=true->
  s.testBit i=true\/∃e∈l,Region.binds .any e=true/\(e.on=i\/(acc.getD e.on 0).testBit i=true)
 | [],s,h=>.inl h
 | e::l,s,h=>by
  rcases zdk l _ h with h1 | ⟨e',he',hb,h2⟩
  ·by_cases hb:Region.binds .any e=true
   ·simp only[C' hb] at h1;simp only[Nat.testBit_or,Iu] at h1;rcases h1 with (h1 | h1) | h1
    ·exact .inl h1
    ·refine .inr ⟨e,I9 ..,hb,.inl ?_⟩;rw[Nat.testBit_two_pow] at h1
     simpa using h1
    ·exact .inr ⟨e,I9 ..,hb,.inr h1⟩
   ·simp only[B' hb] at h1;exact .inl h1
  ·exact .inr ⟨e',I1 _ he',hb,h2⟩
theorem FF:∀(l:List Oper) (acc:List Nat) (pre:List Oper),acc.length=pre.length->
  (∀(j:Nat) (o:Oper),pre[j]? = some o->∀i,(acc.getD j 0).testBit i=true->∃e∈o.after.toList,Region.binds .any e=true/\(e.on=i\/(e.on<j/\(acc.getD e.on 0).testBit i=true)))->
  ∀(j:Nat) (o:Oper),(pre++l)[j]? = some o->∀i,((Tp l acc).getD j 0).testBit i=true->∃e∈o.after.toList,Region.binds .any e=true/\(e.on=i\/(e.on<j/\((Tp l acc).getD e.on 0).testBit i=true))
 | [],acc,pre,hl,h,j,o,ho,i,hb=>by
  simp only[List.append_nil] at ho;exact h j o ho i hb
 | o'::l,acc,pre,hl,h,j,o,ho,i,hb=>by
  have Cp7:pre++o'::l=(pre++[o'])++l:=Qs;rw[Cp7] at ho;simp only[Tp] at hb ⊢;refine FF l _ (pre++[o']) (by simp[hl]) (λj o ho i hb=>?_) j o ho i hb
  by_cases hj:j<pre.length
  ·rw[Ip hj] at ho;rw[List.getD_eq_getElem?_getD,Ip Qo,<-List.getD_eq_getElem?_getD] at hb;obtain⟨e,he,dH,h2⟩:=h j o ho i hb;refine⟨e,he,dH,?_⟩;rcases h2 with h2 | ⟨h2,h3⟩
   ·exact .inl h2
   ·refine .inr ⟨h2,?_⟩;rw[List.getD_eq_getElem?_getD,Ip Qo,<-List.getD_eq_getElem?_getD];exact h3
  ·have hj':j=pre.length:=by
    have:j<(pre++[o']).length:=(I8.1 ho).1;simp at this; omega
   subst hj';simp only[List.getElem?_concat_length,I0] at ho;subst ho;rw[<-hl] at hb;rw[List.getD_eq_getElem?_getD,List.getElem?_concat_length] at hb;simp only[Option.getD_some] at hb;rcases zdk _ _ hb with h1 | ⟨e,he,dH,h2⟩
   ·simp at h1
   ·refine⟨e,he,dH,?_⟩;rcases h2 with h2 | h2
    ·exact .inl h2
    ·have IN:e.on<acc.length:=by
      rcases Nat.lt_or_ge e.on acc.length with h' | h'
      ·exact h'
      ·rw[List.getD_eq_getElem?_getD,Iw h'] at h2; simp at h2
     refine .inr ⟨Qo,?_⟩;rw[List.getD_eq_getElem?_getD,Ip IN,<-List.getD_eq_getElem?_getD];exact h2
theorem zpf{ops:Array Oper}(Rp:Array Bool)(i j:Nat)(rV:E3 ops Rp)(hi:i∈Region.ready .any ops Rp)(hj:j∈Region.ready .any ops Rp)(_:i≠j):zkp (Tp ops.toList []) i j=true:=by
 unfold zkp;rw[IC];rw[Bool.eq_false_iff];intro hb;have B27:=FF ops.toList [] [] rfl (λj o ho=>by simp at ho);simp only[List.nil_append] at B27;have sZ:=(mem_ready.1 hi).1
 have no:Rp.getD i false≠true:=λh=>by
  rcases Nat.lt_or_ge i Rp.size with h' | h'
  ·simp[h'] at h sZ; rw[h] at sZ; cases sZ
  ·simp[Array.getElem?_eq_none h'] at h
 have key:∀k:Nat,∀o,ops[k]? = some o->(∀e∈o.after,Region.binds .any e=true->Rp.getD e.on false=true)->((Tp ops.toList []).getD k 0).testBit i=true->False:=by
  intro k
  induction k using Nat.strongRecOn with
  | _ k ih=>
   intro o ho oK hb;obtain⟨e,he,dH,h2⟩:=B27 k o (by simpa using ho) i hb;have he':e∈o.after:=by rw[<-Array.mem_toList_iff]; exact he
   have hl:=oK e he' dH;rcases h2 with h2 | ⟨h2,h3⟩
   ·rw[h2] at hl; exact no hl
   ·have IN:e.on<ops.size:=Nat.lt_trans h2 (Array.getElem?_eq_some_iff.1 ho).1;have hoe:ops[e.on]? = some ops[e.on]:=Array.getElem?_eq_getElem IN;refine ih e.on h2 _ hoe (rV e.on _ hoe ?_) h3;rcases Nat.lt_or_ge e.on Rp.size with h' | h'
    ·simp[h'] at hl ⊢; exact hl
    ·simp[Array.getElem?_eq_none h'] at hl
 obtain⟨_,o,ho,oK⟩:=mem_ready.1 hj;exact key j o ho oK hb
def Ex(C:UQ)(ops:Array Oper):List Nat->Option Nat
 | []=>none
 | i::r=>match ops[i]? with
  | some o=>bif B3 C o.op then Ex C ops r else some i
  | none=>Ex C ops r
theorem GI{C:UQ}{ops:Array Oper}:∀{l:List Nat} {i:Nat},Ex C ops l=some i->i∈l/\∃o,ops[i]? = some o/\B3 C o.op=false
 | [],_,h=>by cases h
 | j::r,i,h=>by
  simp only[Ex] at h
  split at h
  ·rename_i o ho
   cases he:B3 C o.op with
   | true=>
    rw[he] at h;obtain⟨h1,h2⟩:=GI h;exact⟨I1 _ h1,h2⟩
   | false=>
    rw[he] at h;simp only[cond_false,I0] at h;subst h;exact⟨I9 ..,o,ho,he⟩
  ·obtain⟨h1,h2⟩:=GI h;exact⟨I1 _ h1,h2⟩
def At(M:List Nat)(i:Nat)(S:St)(w:Wo):List (Nat×zf9)->Prop->Prop
 | [],A=>A
 | (j,f)::r,A=>bif zkp M j i then f S w/\At M i S w r A else At M i S w r A
theorem LG{M:List Nat}{i:Nat}{S:St}{w:Wo}:∀{l:List (Nat×zf9)} {A:Prop},At M i S w l A->A/\∀p∈l,zkp M p.1 i=true->p.2 S w
 | [],A,h=>⟨h,λp hp=>by cases hp⟩
 | (j,f)::r,A,h=>by
  simp only[At] at h
  cases hu:zkp M j i with
  | true=>
   rw[hu] at h;obtain⟨h1,h2⟩:=h;obtain⟨h3,h4⟩:=LG h2;refine⟨h3,λp hp hpu=>?_⟩;rcases Ii.1 hp with rfl | hp
   ·exact h1
   ·exact h4 p hp hpu
  | false=>
   rw[hu] at h;obtain⟨h3,h4⟩:=LG (A:=A) h;refine⟨h3,λp hp hpu=>?_⟩;rcases Ii.1 hp with rfl | hp
   ·rw[hu] at hpu; cases hpu
   ·exact h4 p hp hpu
def zp5(l:List Nat)(A:Nat->Prop):Prop:=
 match l with
 | []=>True
 | [i]=>A i
 | i::r=>A i/\zp5 r A
theorem zda:∀{l:List Nat} {A:Nat->Prop},zp5 l A->∀i∈l,A i
 | [],_,_,_,hi=>by cases hi
 | [j],A,h,i,hi=>by simp only[IA] at hi; subst hi; exact h
 | j::k::r,A,h,i,hi=>by
  rcases Ii.1 hi with rfl | hi
  ·exact h.1
  ·exact zda h.2 i hi
def zsz(i:Nat)(f:K8)(uN:List (Nat×zf9)):List (Nat×zf9):=
 match f with
 | some f=>(i,f)::uN
 | none=>uN
def Ew(C:UQ)(ops:Array Oper)(M:List Nat):Nat->Array Bool->List (Nat×zf9)->St->Wo->(St->Wo->Prop)->Prop
 | 0,Rp,_,S,w,K=>match Region.ready .any ops Rp with
  | []=>K S w
  | _=>False
 | n+1,Rp,uN,S,w,K=>match Region.ready .any ops Rp with
  | []=>K S w
  | rs=>match Ex C ops rs with
   | some i=>match ops[i]? with
    | some o=>bif Region.free .any ops Rp i then zdc C ops (λj=>Rp.getD j false) o S w λf S' w'=>Ew C ops M n (Rp.setIfInBounds i true) (zsz i f uN) S' w' K else False
    | none=>False
   | none=>zp5 rs λi=>match ops[i]? with
    | some o=>zdc C ops (λj=>Rp.getD j false) o S w λ_ S' w'=>At M i S' w' uN (Ew C ops M n (Rp.setIfInBounds i true) uN S' w' K)
    | none=>False
theorem zp8{C:UQ}(E:zrs C){ops:Array Oper}{D D':Nat->Prop}{dn:Nat->Bool}{i:Nat}{o:Oper}{S:St}{w:Wo}{a:Act}{K:K8->St->Wo->Prop}(hu:BR ops=true)(ho:ops[i]? = some o)(hi:¬D i)(hD:∀j,D j->zvv ops j)(hDD:∀j,D j->D' j)(hdn:∀j,dn j=true->zvv ops j->D j)(hf:Kl C.n S ops D a)(WC:Gb S)(he:B3 C o.op=false)(h:zdc C ops dn o S w K) :
  ∃f v S',K f S' w/\Kl C.n S' ops D' (a.put o.dst v)/\Gb S'/\Km S S'/\S'.r=S.r/\S'.old=S.old/\(∀w wr,Zn S w wr↔Zn S' w wr)/\YS C.P (Zn S w) (Vd ops o a) v/\
   (∀(tX:St) (jY:Wo),Km S tX->zqg f tX jY->YS C.P (Zn tX jY) (Vd ops o a) v):=by
 unfold zdc at h
 cases hb:(z3b dn o && !Ek o) with
 | false=>rw[hb] at h; exact h.elim
 | true=>
  rw[hb] at h;simp only[cond_true] at h;simp only[A',IC] at hb
  have hg:∀j b,o.guard=some (j,b)->D j:=λj b hgd=>by
   refine hdn j ?_ ⟨o,by rw[Array.mem_toList_iff]; exact Array.mem_of_getElem? ho,b,hgd⟩;have:=hb.1;unfold z3b at this;rw[hgd] at this;exact this
  split at h
  ·exact h.elim
  ·rename_i pc mQ;have AQ3:=zqv hf mQ hg;have oP:=Hc hf.fit mQ
   have uJ:∀{sv:SV} (w wr:Wo),Zn S w wr↔Zn (S.bQ o.dst sv) w wr:=λ{sv} w wr=>by
    cases o.dst
    ·exact Iff.rfl
    ·exact⟨λh=>⟨h.ext,h.loc,h.len,h.nP,h.fresh⟩,λh=>⟨h.ext,h.loc,h.len,h.nP,h.fresh⟩⟩
   cases hdd:Nr S ops pc o with
   | true=>
    rw[hdd] at h;simp only[cond_true] at h;have hp:=Em hf.fit mQ hdd;have vL:¬Region.wanted o (yielded ops a.tmps)=true:=λvL=>hp (oP.1 vL)
    obtain⟨h1,h2⟩:=YW h;have hs:Vd ops o a=none:=by unfold Vd; rw[B' vL]
    refine⟨none,undef,_,h1,hf.put hu ho hi hD hDD AQ3 h2 ⟨λhp'=>Ir hp' hp,λ_=>rfl⟩,WC.bQ _ _,(Km.refl S).bQ _ _,by cases o.dst <;> rfl,by cases o.dst <;> rfl,uJ,?_,λtX jY sX hfc=>?_⟩ <;> (rw[hs]; rfl)
   | false=>
   rw[hdd] at h;rw[he] at h;simp only[cond_false] at h
   by_cases hp:EX ops a pc
   ·have vL:=oP.2 hp;obtain⟨e,fact,v,hK,B82,jV,hq⟩:=zjl E.T E.pf hf.fit hp h;obtain⟨h1,h2⟩:=YW hK;refine⟨fact,v,_,h1,hf.put hu ho hi hD hDD AQ3 h2 ⟨λ_=>B82,λhn=>Ir hp hn⟩,WC.bQ _ _,(Km.refl S).bQ _ _,by cases o.dst <;> rfl,by cases o.dst <;> rfl,uJ,?_,λtX jY sX hfc=>?_⟩
    ·unfold Vd; rw[C' vL]; exact λwr hw=>hq S w a rfl (λ_ _ h=>h) jV wr hw
    ·unfold Vd; rw[C' vL]; exact λwr hw=>hq tX jY a rfl sX.B hfc wr hw
   ·have vL:¬Region.wanted o (yielded ops a.tmps)=true:=λvL=>hp (oP.1 vL)
    obtain⟨e,fact,hK⟩:=znr h;obtain⟨h1,h2⟩:=YW hK;have hs:Vd ops o a=none:=by unfold Vd; rw[B' vL]
    refine⟨fact,undef,_,h1,hf.put hu ho hi hD hDD AQ3 h2 ⟨λhp'=>Ir hp' hp,λ_=>rfl⟩,WC.bQ _ _,(Km.refl S).bQ _ _,by cases o.dst <;> rfl,by cases o.dst <;> rfl,uJ,?_,λtX jY sX hfc=>?_⟩ <;> (rw[hs]; rfl)
def zw2(C:UQ)(ops:Array Oper)(draw:Bool)(S:St)(w:Wo)(K:St->Wo->Prop):Prop:=
 bif BR ops then
  (bif draw then
   (bif Region.noSelect ops then Ew C ops (Tp ops.toList []) ops.size (Array.replicate ops.size false) [] { S with r:=S.r+1 } w λS' w'=>K { S' with r:=S'.r+1 } w' else False)
  else zw3 C ops ops.toList 0 { S with r:=S.r+1 } w λS' w'=>K { S' with r:=S'.r+1 } w')
 else False
structure O6 (n:Nat) (S:St) (a:Act):Prop where
 size:a.tmps.size=n
 fits:∀i x,S.F.get i=some (.un x)->EV.den S x (a.tmps.getD i undef)
 old:∀i r pc x,S.F.get i=some (.gd r pc x)->r<S.r
theorem O6.enter{n:Nat}{S:St}{a:Act}(h:O6 n S a)(ops:Array Oper)(D:Nat->Prop):Kl n { S with r:=S.r+1 } ops D a:=
 ⟨⟨h.size,λi s hs=>by
  cases s with
  | un x=>exact EV.fL (S:=S) (λ_ _ h=>h) (h.fits i x hs)
  | gd r pc x=>intro hr; have:=h.old i r pc x hs; simp only at hr; omega⟩,λi pc x hx=>by have:=h.old i _ pc x hx; simp only at this; omega,λi r pc x hx=>by have:=h.old i r pc x hx; show r<=S.r+1; omega⟩
theorem Kl.leave{n:Nat}{S:St}{ops:Array Oper}{D:Nat->Prop}{a:Act}(h:Kl n S ops D a):O6 n { S with r:=S.r+1 } a:=
 ⟨h.fit.size,λi x hx=>EV.fL (S:=S) (λ_ _ h=>h) (h.fit.fits i (.un x) hx),λi r pc x hx=>Nat.lt_succ_of_le (h.st i r pc x hx)⟩
theorem zuc{C:UQ}{ops:Array Oper}{D D':Nat->Prop}{dn:Nat->Bool}{i:Nat}{o:Oper}{S:St}{w:Wo}{a:Act}{K:K8->St->Wo->Prop}(hu:BR ops=true)(ho:ops[i]? = some o)(hi:¬D i)(hD:∀j,D j->zvv ops j)(hDD:∀j,D j->D' j)(hdn:∀j,dn j=true->zvv ops j->D j)(hf:Kl C.n S ops D a)(WC:Gb S)(he:B3 C o.op=true)(vL:¬Region.wanted o (yielded ops a.tmps)=true)(h:zdc C ops dn o S w K) :
  ∃S',K none S' w/\Kl C.n S' ops D' (a.put o.dst undef)/\Gb S'/\Km S S'/\S'.r=S.r/\S'.old=S.old/\(∀w wr,Zn S w wr↔Zn S' w wr):=by
 unfold zdc at h
 cases hb:(z3b dn o && !Ek o) with
 | false=>rw[hb] at h; exact h.elim
 | true=>
  rw[hb] at h;simp only[cond_true] at h;simp only[A',IC] at hb
  have hg:∀j b,o.guard=some (j,b)->D j:=λj b hgd=>by
   refine hdn j ?_ ⟨o,by rw[Array.mem_toList_iff]; exact Array.mem_of_getElem? ho,b,hgd⟩;have:=hb.1;unfold z3b at this;rw[hgd] at this;exact this
  split at h
  ·exact h.elim
  ·rename_i pc mQ;have AQ3:=zqv hf mQ hg;have oP:=Hc hf.fit mQ
   have uJ:∀{sv:SV} (w wr:Wo),Zn S w wr↔Zn (S.bQ o.dst sv) w wr:=λ{sv} w wr=>by
    cases o.dst
    ·exact Iff.rfl
    ·exact⟨λh=>⟨h.ext,h.loc,h.len,h.nP,h.fresh⟩,λh=>⟨h.ext,h.loc,h.len,h.nP,h.fresh⟩⟩
   cases hdd:Nr S ops pc o with
   | true=>
    rw[hdd] at h;simp only[cond_true] at h;have hp:=Em hf.fit mQ hdd;obtain⟨h1,h2⟩:=YW h;exact⟨_,h1,hf.put hu ho hi hD hDD AQ3 h2 ⟨λhp'=>Ir hp' hp,λ_=>rfl⟩,WC.bQ _ _,(Km.refl S).bQ _ _,by cases o.dst <;> rfl,by cases o.dst <;> rfl,uJ⟩
   | false=>
   rw[hdd] at h;simp only[cond_false] at h;rw[he] at h;simp only[cond_true] at h
   split at h
   ·exact Ir (oP.2 (λp hp=>by cases hp)) vL
   ·cases hpo:zu5 S ops pc with
    | false=>rw[hpo] at h; exact h.elim
    | true=>
     rw[hpo] at h;simp only[cond_true] at h;have hp:¬EX ops a pc:=λhp=>vL (oP.2 hp)
     obtain⟨h1,h2⟩:=YW (h.2 (zlq hf.fit hpo hp));exact⟨_,h1,hf.put hu ho hi hD hDD AQ3 h2 ⟨λhp'=>Ir hp' hp,λ_=>rfl⟩,WC.bQ _ _,(Km.refl S).bQ _ _,by cases o.dst <;> rfl,by cases o.dst <;> rfl,uJ⟩
theorem GH{C:UQ}{ops:Array Oper}:∀{l:List Nat},Ex C ops l=none->∀i∈l,∀o,ops[i]? = some o->B3 C o.op=true
 | [],_,i,hi,_,_=>by cases hi
 | j::r,h,i,hi,o,ho=>by
  simp only[Ex] at h
  split at h
  ·rename_i o' ho'
   cases he:B3 C o'.op with
   | false=>rw[he] at h; cases h
   | true=>
    rw[he] at h;rcases Ii.1 hi with rfl | hi
    ·rw[ho'] at ho; cases ho; exact he
    ·exact GH h i hi o ho
  ·rename_i ho';rcases Ii.1 hi with rfl | hi
   ·rw[ho'] at ho; cases ho
   ·exact GH h i hi o ho
theorem zlh{ops:Array Oper}{i:Nat}{o:Oper}(ho:ops[i]? = some o):∀x,o.dst=some x->x∈GF ops.toList:=λx hx=>by
 have hm:o∈ops.toList:=by rw[Array.mem_toList_iff]; exact Array.mem_of_getElem? ho
 generalize ops.toList=q at hm
 induction q with
 | nil=>cases hm
 | cons y q ih=>
  simp only[GF];rcases Ii.1 hm with rfl | hm
  ·rw[hx]; exact I9 ..
  ·split
   ·exact I1 _ (ih hm)
   ·exact ih hm
def DL(ops:Array Oper)(Rp:Array Bool)(j:Nat):Prop:=Rp.getD j false=true/\zvv ops j
def PQ(C:UQ)(ops:Array Oper)(K:St->Wo->Prop)(S0:St)(w0:Wo)(a0:Act)(ds:List Nat)(a:Act)(R:Wo->Prop):Prop:=
 ∃S' w',K S' w'/\O6 C.n { S' with r:=S'.r+1 } a/\Gb S'/\Km S0 S'/\S'.r=S0.r/\E5 ds a0 a/\(C.pm=true->w'=w0/\S'.old=S0.old)/\R=Zn S' w'
theorem PU{C:UQ}(E:zrs C){ops:Array Oper}(hu:BR ops=true)(BE8:Region.noSelect ops=true){K:St->Wo->Prop}{S0:St}{w0:Wo}{a0:Act}{ds:List Nat}(hds:∀x∈GF ops.toList,x∈ds) :
  ∀(n:Nat) (Rp:Array Bool) (uN:List (Nat×zf9)) (Pd:List (Nat×Option (Sem Next)×Va)) (S:St) (w:Wo) (a:Act),Ew C ops (Tp ops.toList []) n Rp uN S w K->E3 ops Rp->
   Kl C.n S ops (DL ops Rp) a->Gb S->Km S0 S->S.r=S0.r->E5 ds a0 a->(C.pm=true->w=w0/\S.old=S0.old)->
   (∀p∈Pd,(∃f:zf9,(p.1,f)∈uN/\∀(tX:St) (jY:Wo),Km S tX->f tX jY->YS C.P (Zn tX jY) p.2.1 p.2.2)\/(∀(tX:St) (jY:Wo),Km S tX->YS C.P (Zn tX jY) p.2.1 p.2.2))->
   Hy C.P ops (zkp (Tp ops.toList [])) (PQ C ops K S0 w0 a0 ds) n Rp Pd a (Zn S w)
 | 0,Rp,uN,Pd,S,w,a,h,rV,hf,WC,sX,hr,hfa,jS,hpd=>by
  simp only[Ew] at h
  split at h
  ·rename_i hrd;exact⟨hrd,S,w,h,hf.leave,WC,sX,hr,hfa,jS,rfl⟩
  ·exact h.elim
 | n+1,Rp,uN,Pd,S,w,a,h,rV,hf,WC,sX,hr,hfa,jS,hpd=>by
  simp only[Ew] at h
  split at h
  ·rename_i hrd;exact⟨λ_=>⟨S,w,h,hf.leave,WC,sX,hr,hfa,jS,rfl⟩,λi hi=>by rw[hrd] at hi; cases hi⟩
  ·rename_i hrd
   split at h
   ·rename_i i hi;obtain⟨him,o',ho',he⟩:=GI hi
    split at h
    ·rename_i o ho;rw[ho] at ho'; cases ho'
     cases sY:Region.free .any ops Rp i with
     | false=>rw[sY] at h; exact h.elim
     | true=>
      rw[sY] at h;simp only[cond_true] at h;obtain⟨hun,_,_,oK⟩:=mem_ready.1 him
      have hni:¬DL ops Rp i:=λhd=>by
       have h1:=hd.1;rcases Nat.lt_or_ge i Rp.size with h' | h'
       ·simp[h'] at h1 hun; rw[h1] at hun; cases hun
       ·simp[Array.getElem?_eq_none h'] at h1
      obtain⟨f,v,S',hK,hf',At8,qF,hr',Bi8,uJ,hys,hyf⟩:=zp8 E (i:=i) (D':=DL ops (Rp.setIfInBounds i true)) hu ho hni (λj hj=>hj.2) (λj hj=>⟨getD_set_true hj.1,hj.2⟩) (λj h1 h2=>⟨h1,h2⟩) hf WC he h
      have BD5:E3 ops (Rp.setIfInBounds i true):=λk ok hk rY e he hb=>by
       by_cases hik:i=k
       ·subst hik;rw[ho] at hk; cases hk;obtain⟨_,o2,ho2,CM9⟩:=mem_ready.1 him;rw[ho] at ho2; cases ho2;exact getD_set_true (CM9 e he hb)
       ·rw[getD_set_ne true hik] at rY;exact getD_set_true (rV k ok hk rY e he hb)
      have heq:Zn S w=Zn S' w:=funext λwr=>propext (uJ w wr)
      refine zrj (λj o cs b hj=>Region.noSelect_spec BE8 j o cs b hj) (λRp i j h1 h2 h3 h4=>zpf Rp i j h1 h2 h3 h4) ho n Rp Pd a (Zn S w) rV (λj oj hj hji Bu4 iX=>Region.free_spec ho sY j oj hj hji Bu4 iX) him hys ?_;rw[heq];refine PU E hu BE8 hds n _ (zsz i f uN) _ S' w _ hK BD5 hf' At8 (sX.trans qF) (hr'.trans hr) (hfa.trans (E5.put a _ v ds λx hx=>hds x (zlh ho x hx))) (λhp=>⟨(jS hp).1,Bi8.trans (jS hp).2⟩) λp hp=>?_
      rcases Ii.1 hp with rfl | hp
      ·cases f with
       | none=>exact .inr λtX jY hs=>hyf tX jY (qF.trans hs) trivial
       | some f=>exact .inl ⟨f,I9 ..,λtX jY hs hfc=>hyf tX jY (qF.trans hs) hfc⟩
      ·rcases hpd p hp with ⟨f',hm,hs'⟩ | hs'
       ·refine .inl ⟨f',?_,λtX jY hs hfc=>hs' tX jY (qF.trans hs) hfc⟩
        cases f with
        | none=>exact hm
        | some f=>exact I1 _ hm
       ·exact .inr λtX jY hs=>hs' tX jY (qF.trans hs)
    ·exact h.elim
   ·rename_i AQ2;refine⟨λh0=>Ir h0 (by assumption),λi hi o ho=>?_⟩;have h1:=zda h i hi;rw[ho] at h1;simp only at h1;have he:=GH AQ2 i hi o ho;obtain⟨hun,o2,ho2,oK⟩:=mem_ready.1 hi;rw[ho] at ho2; cases ho2
    have hni:¬DL ops Rp i:=λhd=>by
     have h1:=hd.1;rcases Nat.lt_or_ge i Rp.size with h' | h'
     ·simp[h'] at h1 hun; rw[h1] at hun; cases hun
     ·simp[Array.getElem?_eq_none h'] at h1
    have BD5:E3 ops (Rp.setIfInBounds i true):=λk ok hk rY e he hb=>by
     by_cases hik:i=k
     ·subst hik;rw[ho] at hk; cases hk;exact getD_set_true (oK e he hb)
     ·rw[getD_set_ne true hik] at rY;exact getD_set_true (rV k ok hk rY e he hb)
    by_cases vL:Region.wanted o (yielded ops a.tmps)=true
    case neg=>
     obtain⟨S',hK,hf',At8,qF,hr',Bi8,uJ⟩:=zuc (i:=i) (D':=DL ops (Rp.setIfInBounds i true)) hu ho hni (λj hj=>hj.2) (λj hj=>⟨getD_set_true hj.1,hj.2⟩) (λj h1 h2=>⟨h1,h2⟩) hf WC he vL h1;obtain⟨hev,_⟩:=LG hK;have heq:Zn S w=Zn S' w:=funext λwr=>propext (uJ w wr)
     have hs0:Vd ops o a=none:=by unfold Vd; rw[B' vL]
     refine .inl ⟨undef,by rw[hs0]; rfl,?_⟩;rw[heq];refine PU E hu BE8 hds n _ uN _ S' w _ hev BD5 hf' At8 (sX.trans qF) (hr'.trans hr) (hfa.trans (E5.put a _ _ ds λx hx=>hds x (zlh ho x hx))) (λhp=>⟨(jS hp).1,Bi8.trans (jS hp).2⟩) λp hp=>?_
     rcases Ii.1 hp with rfl | hp
     ·exact .inr λtX jY hs=>by rw[hs0]; rfl
     ·rcases hpd p hp with ⟨f',hm,hs'⟩ | hs'
      ·exact .inl ⟨f',hm,λtX jY hs hfc=>hs' tX jY (qF.trans hs) hfc⟩
      ·exact .inr λtX jY hs=>hs' tX jY (qF.trans hs)
    refine .inr ⟨vL,λwr uK=>?_⟩
    have cA:=zdd E (i:=i) (D':=DL ops (Rp.setIfInBounds i true))
     (N:=λa' w'=>(∃v,a'=a.put o.dst v)/\∃S' jY,At (Tp ops.toList []) i S' jY uN (Ew C ops (Tp ops.toList []) n (Rp.setIfInBounds i true) uN S' jY K)/\z19 C S w ops (DL ops (Rp.setIfInBounds i true)) o a S' jY a' w') (Q:=λ_ _ _=>False)
     hu ho hni (λj hj=>hj.2) (λj hj=>⟨getD_set_true hj.1,hj.2⟩) (λj h1 h2=>⟨h1,h2⟩) hf uK WC (λf S' w' a' Wh hK hL=>⟨hL.put,S',w',hK,hL⟩) h1
    rw[C' vL] at cA;refine NG (λv w' hN=>?_) (zp6 (z0k h1) cA λa' w' hN=>hN.1);obtain⟨_,S',jY,hpo,hL⟩:=hN;obtain⟨hev,B84⟩:=LG hpo;refine⟨Zn S' jY,hL.rel,λp hp hpu=>?_,PU E hu BE8 hds n _ uN Pd S' jY _ hev BD5 hL.fit hL.wf (sX.trans hL.fr) (hL.r.trans hr) (hfa.trans (E5.put a o.dst v ds λx hx=>hds x (zlh ho x hx))) (λhp=>⟨(hL.pm hp).1.trans (jS hp).1,(hL.pm hp).2.trans (jS hp).2⟩) λp hp=>?_⟩
    ·rcases hpd p hp with ⟨f',hm,hs'⟩ | hs'
     ·exact hs' S' jY hL.fr (B84 _ hm hpu)
     ·exact hs' S' jY hL.fr
    ·rcases hpd p hp with ⟨f',hm,hs'⟩ | hs'
     ·exact .inl ⟨f',hm,λtX w3 hs hfc=>hs' tX w3 (hL.fr.trans hs) hfc⟩
     ·exact .inr λtX w3 hs=>hs' tX w3 (hL.fr.trans hs)
structure Yi where
 uG:List (Nat×CK)
 Wu:List (Nat×List CK)
 nR:List Nat
 aO:List (TypeId×List CK):=[]
 ptr:List (Nat×Nat):=[]
def Xo:Code->List Nat
 | .region _ ops _=>GF ops.toList
 | .seq a b=>Xo a++Xo b
 | .cond _ a b=>Xo a++Xo b
 | .block _ b=>Xo b
 | .loop b=>Xo b
 | .scope b=>Xo b
 | _=>[]
def Bh:Code->Option Nat
 | .region id _ _=>some id
 | .seq a b=>match Bh a with
  | some k=>some k
  | none=>Bh b
 | .cond _ a b=>match Bh a with
  | some k=>some k
  | none=>Bh b
 | .block _ b=>Bh b
 | .loop b=>Bh b
 | .scope b=>Bh b
 | _=>none
def zqo:CK->Va->Bool
 | .int k,.int k' _=>decide (k=k')
 | .bool,.bool _=>true
 | .str,.string _=>true
 | .slice,.slice _ _ _=>true
 | .ptr,.pointer _=>true
 | .fn,.func _ _ _=>true
 | .iface,_=>true
 | .map,_=>true
 | .other,_=>true
 | _,_=>false
def z4j:CK->(Va->Prop)->Prop
 | .int k,K=>∀n:Int,K (.int k n)
 | .bool,K=>∀b:Bool,K (.bool b)
 | .str,K=>∀s:ByteArray,K (.string s)
 | .slice,K=>∀(o:OA) (l c:Nat),K (.slice o l c)
 | .ptr,K=>∀o:OA,K (.pointer o)
 | .fn,K=>∀(f:Fn) (a c:Array Va),K (.func f a c)
 | _,K=>∀v:Va,K v
def FE:List CK->(List Va->Prop)->Prop
 | [],K=>K []
 | k::r,K=>z4j k λv=>FE r λl=>K (v::l)
theorem zv6{k:CK}{K:Va->Prop}(h:z4j k K){v:Va}(hv:zqo k v=true):K v:=by
 cases k <;> cases v <;> simp only[zqo] at hv <;> first
  | exact h _
  | exact h _ _ _
  | (cases hv; done)
  | (simp only[Ij] at hv; subst hv; exact h _)
def Um:List CK->List Va->Bool
 | [],[]=>true
 | k::r,v::l=>zqo k v&&Um r l
 | _,_=>false
theorem Oe:∀{ks:List CK} {K:List Va->Prop} {vs:List Va},FE ks K->Um ks vs=true->K vs
 | [],_,[],h,_=>h
 | k::r,K,v::l,h,hk=>by
  simp only[Um,A'] at hk;exact Oe (K:=λl=>K (v::l)) (zv6 (K:=λv=>FE r λl=>K (v::l)) h hk.1) hk.2
 | [],_,_::_,_,hk=>by simp[Um] at hk
 | _::_,_,[],_,hk=>by simp[Um] at hk
def Hs(S:St):List (Nat×CK)->Option (List Va)
 | []=>some []
 | (i,_)::r=>match S.F.get i with
  | some (.un e)=>match z2a S e,Hs S r with
   | some x,some l=>some (x::l)
   | _,_=>none
  | _=>none
def Lj(S:St):List (Nat×List CK)->Option (List Va)
 | []=>some []
 | (id,ks)::r=>match S.L[id]?,Lj S r with
  | some (_,cs),some l=>bif Nat.beq cs.length ks.length then some (cs++l) else none
  | _,_=>none
def Yi.ks(sp:Yi):List CK:=sp.uG.map (·.2)++sp.Wu.flatMap (·.2)
def zdr(S:St)(sp:Yi)(K:List Va->Prop):Prop:=
 match Hs S sp.uG,Lj S sp.Wu with
 | some xs,some ys=>bif Um sp.ks (xs++ys) then K (xs++ys) else False
 | _,_=>False
def zjr(F:PT SV):List Nat->PT SV
 | []=>.leaf
 | i::r=>match F.get i with
  | some (.un e)=>PT.set 12 (zjr F r) i (.un e)
  | _=>zjr F r
def ztd(F:PT SV):List (Nat×CK)->List Va->PT SV
 | (i,_)::r,v::vs=>PT.set 12 (ztd F r vs) i (.un (.v v))
 | _,_=>F
def Vw(L:List (TypeId×List Va)):List (Nat×List CK)->List Va->List (TypeId×List Va)
 | [],_=>L
 | (id,ks)::r,vs=>match L[id]? with
  | some (t,_)=>Vw (L.set id (t,vs.take ks.length)) r (vs.drop ks.length)
  | none=>Vw L r (vs.drop ks.length)
def DZ(S:St)(sp:Yi):List Nat:=(List.range S.L.length).filter λid => !KD (sp.Wu.map (·.1)) id
def YU(S:St)(sp:Yi)(vs:List Va):St:=
 { S with F:=ztd (zjr S.F sp.nR) sp.uG (vs.take sp.uG.length),L:=Vw S.L sp.Wu (vs.drop sp.uG.length),lk:=DZ S sp }
def zet:List Nat->Bool
 | []=>true
 | x::r => !KD r x&&zet r
def zvh(S:St)(sp:Yi)(ds:List Nat):Bool:=
 (sp.nR.all λi => !KD ds i&&Nat.blt i 4000)&&(sp.uG.all λp=>Nat.blt p.1 4000 && !KD sp.nR p.1)&&zet (sp.uG.map (·.1))&&zet (sp.Wu.map (·.1))&&(sp.Wu.all λp=>match S.L[p.1]? with
  | some (_,cs)=>Nat.beq cs.length p.2.length && !KD S.lk p.1
  | none=>false)
def Yi.nks(sp:Yi):List CK:=sp.aO.flatMap (·.2)
def zry:Nat->(List Nat->Prop)->Prop
 | 0,K=>K []
 | n+1,K=>∀b:Nat,zry n λl=>K (b::l)
theorem Nn:∀{n:Nat} {K:List Nat->Prop} {bs:List Nat},zry n K->bs.length=n->K bs
 | 0,_,[],h,_=>h
 | n+1,K,b::l,h,hl=>Nn (K:=λl=>K (b::l)) (h b) (by simpa using hl)
 | 0,_,_::_,_,hl=>by simp at hl
 | _+1,_,[],_,hl=>by simp at hl
def H7:List (TypeId×List CK)->List Va->List (TypeId×List Va)
 | [],_=>[]
 | (t,ks)::r,vs=>(t,vs.take ks.length)::H7 r (vs.drop ks.length)
def zjy(S:St):Nat->List (TypeId×List CK)->Option (List Va)
 | _,[]=>some []
 | n,(t,ks)::r=>match S.L[n]?,zjy S (n+1) r with
  | some (t',cs),some l=>bif Nat.beq t' t&&Nat.beq cs.length ks.length then some (cs++l) else none
  | _,_=>none
def zj5(S:St)(n k:Nat)(l:List (Nat×Nat)):Bool:=l.all λp=>Nat.blt p.1 4000&&Nat.blt p.2 k&&match S.F.get p.1 with
 | some (.un (.loc id 0))=>Nat.beq id (n+p.2)
 | _=>false
def ztc(F:PT SV)(n:Nat):List (Nat×Nat)->PT SV
 | []=>F
 | (i,j)::r=>PT.set 12 (ztc F n r) i (.un (.loc (n+j) 0))
def DR(S:St)(sp:Yi)(vs zs:List Va)(bs:List Nat):St:=
 { F:=ztc (YU S sp vs).F S.L.length sp.ptr,L:=(YU S sp vs).L++H7 sp.aO zs,B:=S.B++bs,old:=S.old,lk:=S.lk,r:=S.r }
def zsi(S S':St)(sp:Yi)(K:List Va->List Nat->Prop):Prop:=
 match zjy S' S.L.length sp.aO with
 | some zs=>bif Um sp.nks zs&&zj5 S' S.L.length sp.aO.length sp.ptr then zdr S' sp λvs=>K (vs++zs) ((S'.B.drop S.B.length).take sp.aO.length) else False
 | none=>False
def z4u(sps:List (Nat×Yi))(b:Code):Option Yi:=match sps with
 | []=>none
 | _=>match Bh b with
  | some k=>zpv sps (k+1000000)
  | none=>none
def rP(S:St)(c:Operand)(x:Bool):St:=
 match c with
 | .tmp t=>bif Nat.blt t 4000 then { S with F:=PT.set 12 S.F t (.un (.kb x)) } else S
 | _=>S
def NH(C:UQ)(sps:List (Nat×Yi)):Code->St->Wo->(Exit->St->Wo->Prop)->Prop
 | .skip,S,w,K=>K .normal S w
 | .label _,S,w,K=>K .normal S w
 | .region _ ops d,S,w,K=>zw2 C ops d S w (K .normal)
 | .seq a b,S,w,K=>match z4u sps b with
  | none=>NH C sps a S w λe S' w'=>match e with
   | .normal=>NH C sps b S' w' K
   | e=>K e S' w'
  | some sp=>bif zvh S sp (Xo a) then
    bif C.pm then
     ∃Mid:List Va->List Nat->Prop,(NH C sps a { S with lk:=DZ S sp } w λe S' w'=>match e with
       | .normal=>zsi S S' sp Mid
       | e=>K e { S' with lk:=S.lk } w')/\
      FE sp.ks λvs=>FE sp.nks λzs=>zry sp.aO.length λbs=>Mid (vs++zs) bs->NH C sps b (DR S sp vs zs bs) w K
    else
     ∃Mid:List Va->List Nat->Wo->Prop,(NH C sps a { S with lk:=DZ S sp } w λe S' w'=>match e with
       | .normal=>∀wr,Q0 S'.bs w' wr->(∀b∈S'.B,b<wr.heap.size)->zsi S S' sp λvs bs=>Mid vs bs wr
       | e=>K e { S' with lk:=S.lk } w')/\
      FE sp.ks λvs=>FE sp.nks λzs=>zry sp.aO.length λbs=>∀w1,(∀b∈S.B++bs,b<w1.heap.size)->Mid (vs++zs) bs w1->NH C sps b (DR S sp vs zs bs).bS w1 K
   else False
 | .cond c a b,S,w,K=>match zf8 S [] c with
  | some (.kb true)=>NH C sps a S w K
  | some (.kb false)=>NH C sps b S w K
  | some (.v (.bool x))=>(x=true->NH C sps a (rP S c true) w K)/\(x=false->NH C sps b (rP S c false) w K)
  | _=>False
 | .block id b,S,w,K=>NH C sps b S w λe S' w'=>match e with
  | .exit id'=>bif Nat.beq id' id then K .normal S' w' else K e S' w'
  | e=>K e S' w'
 | .scope b,S,w,K=>NH C sps b S w λe S' w'=>match e with
  | .goto _=>False
  | e=>K e S' w'
 | .exit id,S,w,K=>K (.exit id) S w
 | .ret,S,w,K=>K .ret S w
 | .loop b,S,w,K=>match Bh b with
  | none=>False
  | some key=>match zpv sps key with
   | none=>False
   | some sp=>bif zvh S sp (Xo b) then
     bif C.pm then
      ∃(JF:List Va->Prop) (μ:List Va->Nat),zdr S sp JF/\FE sp.ks λvs=>JF vs->NH C sps b (YU S sp vs) w λe S' w'=>match e with
       | .normal=>zdr S' sp λvs'=>JF vs'/\μ vs'<μ vs
       | e=>K e { S' with lk:=S.lk } w'
     else
      ∃(JF:List Va->Wo->Prop) (μ:List Va->Wo->Nat),(∀wr,Q0 S.bs w wr->(∀b∈S.B,b<wr.heap.size)->zdr S sp λvs=>JF vs wr)/\
       FE sp.ks λvs=>∀w1,(∀b∈S.B,b<w1.heap.size)->JF vs w1->NH C sps b (YU S.bS sp vs) w1 λe S' w'=>match e with
       | .normal=>∀wr,Q0 S'.bs w' wr->(∀b∈S'.B,b<wr.heap.size)->zdr S' sp λvs'=>JF vs' wr/\μ vs' wr<μ vs w1
       | e=>K e { S' with lk:=S.lk } w'
    else False
 | _,_,_,_=>False
structure Mc (C:UQ) (S:St) (w:Wo) (ds:List Nat) (a:Act) (S':St) (w':Wo) (a':Act) (Wh:Wo):Prop where
 fit:O6 C.n S' a'
 rel:Zn S' w' Wh
 wf:Gb S'
 fr:Km S S'
 fra:E5 ds a a'
 pm:C.pm=true->w'=w/\S'.old=S.old
theorem Mc.refl{C:UQ}{S:St}{w wr:Wo}{a:Act}(ds:List Nat)(h1:O6 C.n S a)(h2:Zn S w wr)(h3:Gb S):Mc C S w ds a S w a wr:=⟨h1,h2,h3,Km.refl S,E5.refl _ _,λ_=>⟨rfl,rfl⟩⟩
theorem Mc.trans{C:UQ}{S S1 S2:St}{w w1 w2 I' M':Wo}{ds es fs:List Nat}{a a1 a2:Act}(h:Mc C S w ds a S1 w1 a1 I')(k:Mc C S1 w1 es a1 S2 w2 a2 M')(hd:∀x∈ds,x∈fs)(he:∀x∈es,x∈fs):Mc C S w fs a S2 w2 a2 M':=
 ⟨k.fit,k.rel,k.wf,h.fr.trans k.fr,(h.fra.mono hd).trans (k.fra.mono he),λhp=>⟨(k.pm hp).1.trans (h.pm hp).1,(k.pm hp).2.trans (h.pm hp).2⟩⟩
theorem Mc.mono{C:UQ}{S S1:St}{w w1 I':Wo}{ds fs:List Nat}{a a1:Act}(h:Mc C S w ds a S1 w1 a1 I')(hd:∀x∈ds,x∈fs):Mc C S w fs a S1 w1 a1 I':=
 ⟨h.fit,h.rel,h.wf,h.fr,h.fra.mono hd,h.pm⟩
theorem znq{C:UQ}(E:zrs C){id:Nat}{ops:Array Oper}{d:Bool}{S:St}{w wr:Wo}{a:Act}{K:St->Wo->Prop}{Q:Exit->Act->Wo->Prop}(h:zw2 C ops d S w K)(hf:O6 C.n S a)(hw:Zn S w wr)(WC:Gb S)(hQ:∀S' w' a' Wh,K S' w'->Mc C S w (GF ops.toList) a S' w' a' Wh->Q .normal a' Wh):(Code.region id ops d).wpIn (Tk C.rd) 0 C.P Q a wr:=by
 unfold zw2 at h
 cases hu:BR ops with
 | false=>rw[hu] at h; exact h.elim
 | true=>
  rw[hu] at h;simp only[cond_true] at h;have uJ:∀{S1:St} {w1 I':Wo},Zn S1 w1 I'->Zn { S1 with r:=S1.r+1 } w1 I':=λh=>⟨h.ext,h.loc,h.len,h.nP,h.fresh⟩
  have CU4:Gb { S with r:=S.r+1 }:=⟨WC.old,WC.lk⟩
  cases d with
  | false=>
   simp only[cond_false] at h;refine wpIn_region_list ?_
   refine AL E hu (S0:={ S with r:=S.r+1 }) (w0:=w) (a0:=a) (ds:=GF ops.toList) (λx hx=>hx) (λS' w' a' Wh hK hf' hw' At8 qF hr' B83 B93=>?_) ops.toList 0 _ w wr a (λj=>by simp) Qs h
    (hf.enter ops _) (uJ hw) CU4 (Km.refl _) rfl (E5.refl _ _) (λ_=>⟨rfl,rfl⟩)
   exact hQ _ _ _ _ hK ⟨hf'.leave,uJ hw',⟨At8.old,At8.lk⟩,⟨qF.B,qF.ty,qF.lk⟩,B83,B93⟩
  | true=>
   simp only[cond_true] at h
   cases hs:Region.noSelect ops with
   | false=>rw[hs] at h; exact h.elim
   | true=>
    rw[hs] at h;simp only[cond_true] at h
    have hp:=PU E hu hs (S0:={ S with r:=S.r+1 }) (w0:=w) (a0:=a) (ds:=GF ops.toList) (λx hx=>hx) ops.size (Array.replicate ops.size false) [] [] _ w a h
     (λj o _ hl=>by
      rcases Nat.lt_or_ge j ops.size with h' | h'
      ·simp[h'] at hl
      ·rename_i ho; rw[Array.getElem?_eq_none h'] at ho; cases ho)
     (hf.enter ops _) CU4 (Km.refl _) rfl (E5.refl _ _) (λ_=>⟨rfl,rfl⟩) (λp hp=>by cases hp)
    refine wpIn_region_any E.mixed (LL (λa' R w' hPQ hR=>?_) ops.size _ [] a (Zn { S with r:=S.r+1 } w) { wr with drawn:=wr.drawn+1 } ?_ hp)
    ·obtain⟨S',w1,hK,hf',At8,qF,hr',B83,B93,rfl⟩:=hPQ;exact hQ _ _ _ _ hK ⟨hf',uJ hR,⟨At8.old,At8.lk⟩,⟨qF.B,qF.ty,qF.lk⟩,B83,B93⟩
    ·exact⟨hw.ext.drawn _,hw.loc,hw.len,hw.nP,hw.fresh⟩
theorem A5{F:PT SV}:∀{l:List Nat} {i:Nat} {sv:SV},(∀x∈l,x<4000)->(zjr F l).get i=some sv->i∈l/\F.get i=some sv/\∃e,sv=.un e
 | [],i,sv,_,h=>by simp[zjr,PT.get] at h
 | k::r,i,sv,hl,h=>by
  have hr:∀x∈r,x<4000:=λx hx=>hl x (I1 _ hx)
  simp only[zjr] at h
  split at h
  ·rename_i e he;rw[PT.kD _ 12 _ _ _ (by have h1:=hl k (I9 ..); show @LT.lt Nat _ (k+1) (2 ^ 12); omega)] at h
   by_cases hk:k=i
   ·subst hk;rw[C' rfl] at h;simp only[I0] at h;subst h;exact⟨I9 ..,he,e,rfl⟩
   ·rw[B' hk] at h;obtain⟨h1,h2,h3⟩:=A5 hr h;exact⟨I1 _ h1,h2,h3⟩
  ·obtain⟨h1,h2,h3⟩:=A5 hr h;exact⟨I1 _ h1,h2,h3⟩
theorem zkf{F:PT SV}:∀{uG:List (Nat×CK)} {vs:List Va} {i:Nat} {sv:SV},(∀p∈uG,p.1<4000)->(ztd F uG vs).get i=some sv->
  (∃(j:Nat) (k:CK) (v:Va),uG[j]? = some (i,k)/\vs[j]? = some v/\sv=.un (.v v))\/F.get i=some sv
 | [],vs,i,sv,_,h=>.inr h
 | (a,k)::r,[],i,sv,_,h=>.inr h
 | (a,k)::r,v::vs,i,sv,hl,h=>by
  have hr:∀p∈r,p.1<4000:=λx hx=>hl x (I1 _ hx)
  simp only[ztd] at h;rw[PT.kD _ 12 _ _ _ (by have h1:=hl (a,k) (I9 ..); show @LT.lt Nat _ (a+1) (2 ^ 12); simp only at h1; omega)] at h
  by_cases hk:a=i
  ·subst hk;rw[C' rfl] at h;simp only[I0] at h;exact .inl ⟨0,k,v,rfl,rfl,h.symm⟩
  ·rw[B' hk] at h;rcases zkf hr h with ⟨j,k',v',h1,h2,h3⟩ | h1
   ·exact .inl ⟨j+1,k',v',by simpa using h1,by simpa using h2,h3⟩
   ·exact .inr h1
theorem V2{S:St}:∀{uG:List (Nat×CK)} {xs:List Va},Hs S uG=some xs->xs.length=uG.length/\∀(j i:Nat) (k:CK) (v:Va),uG[j]? = some (i,k)->xs[j]? = some v->∃e,S.F.get i=some (.un e)/\z2a S e=some v
 | [],xs,h=>by simp only[Hs,I0] at h; subst h; exact⟨rfl,λj i k v hj=>by simp at hj⟩
 | (a,k)::r,xs,h=>by
  simp only[Hs] at h
  split at h
  ·rename_i e he
   split at h
   ·rename_i x l hx hl;simp only[I0] at h; subst h;obtain⟨h1,h2⟩:=V2 hl;refine⟨by simp[h1],λj i k' v hj hv=>?_⟩
    cases j with
    | zero=>
     simp only[Ie,I0,Prod.mk.injEq] at hj hv;obtain⟨rfl,rfl⟩:=hj;subst hv;exact⟨e,he,hx⟩
    | succ j=>exact h2 j i k' v (by simpa using hj) (by simpa using hv)
   ·cases h
  ·cases h
theorem AQ:∀{l:List Nat},zet l=true->l.Nodup
 | [],_=>List.nodup_nil
 | x::r,h=>by
  simp only[zet,A',IC] at h;exact List.nodup_cons.2 ⟨L4 h.1,AQ h.2⟩
theorem Ld{S':St}:∀{Wu:List (Nat×List CK)} {L:List (TypeId×List Va)} {ys:List Va},(Wu.map (·.1)).Nodup->Lj S' Wu=some ys->(∀(id:Nat) (t:TypeId) (cs:List Va),L[id]? = some (t,cs)->∃mO,S'.L[id]? = some (t,mO))->
  (Vw L Wu ys).length=L.length/\
  (∀(id:Nat),id∉Wu.map (·.1)->(Vw L Wu ys)[id]? = L[id]?)/\
  (∀(id:Nat) (t:TypeId) (cs:List Va),id∈Wu.map (·.1)->(Vw L Wu ys)[id]? = some (t,cs)->S'.L[id]? = some (t,cs))
 | [],L,ys,_,_,_=>⟨rfl,λ_ _=>rfl,λid t cs h=>by cases h⟩
 | (a,ks)::r,L,ys,hnd,hv,hty=>by
  have Bu8:=List.nodup_cons.1 (by simpa using hnd:(a::r.map (·.1)).Nodup);simp only[Lj] at hv
  split at hv
  ·rename_i t' mO l ha hl
   cases hb:Nat.beq mO.length ks.length with
   | false=>rw[hb] at hv; cases hv
   | true=>
    rw[hb] at hv;simp only[cond_true,I0] at hv;subst hv;have hlen:mO.length=ks.length:=Ib hb;have ht:(mO++l).take ks.length=mO:=by rw[<-hlen]; exact List.take_left
    have tY:(mO++l).drop ks.length=l:=by rw[<-hlen]; exact List.drop_left
    simp only[Vw]
    cases hLa:L[a]? with
    | none=>
     simp only[tY];obtain⟨h1,h2,h3⟩:=Ld (L:=L) Bu8.2 hl hty;refine⟨h1,λid aS=>h2 id (λh=>aS (I1 _ h)),λid t cs aS hc=>?_⟩;rcases Ii.1 aS with rfl | aS
     ·rw[h2 _ Bu8.1] at hc;rw[hLa] at hc; cases hc
     ·exact h3 id t cs aS hc
    | some q=>
     obtain⟨t0,c0⟩:=q;simp only[ht,tY];have IN:a<L.length:=(I8.1 hLa).1;obtain⟨cs1,bX⟩:=hty a t0 c0 hLa;rw[ha] at bX;simp only[I0,Prod.mk.injEq] at bX;obtain⟨rfl,rfl⟩:=bX
     obtain⟨h1,h2,h3⟩:=Ld (L:=L.set a (t',mO)) Bu8.2 hl (λid t cs hc=>by
      by_cases he:a=id
      ·subst he;rw[List.getElem?_set_self IN] at hc;cases hc;exact⟨_,ha⟩
      ·rw[List.getElem?_set_ne he] at hc;exact hty id t cs hc)
     refine⟨by rw[h1]; simp,λid aS=>?_,λid t cs aS hc=>?_⟩
     ·rw[h2 id (λh=>aS (I1 _ h))];exact List.getElem?_set_ne (λe=>aS (by subst e; exact I9 ..))
     ·rcases Ii.1 aS with rfl | aS
      ·rw[h2 _ Bu8.1] at hc;rw[List.getElem?_set_self IN] at hc;cases hc;exact ha
      ·exact h3 id t cs aS hc
  ·cases hv
structure Fe (S:St) (sp:Yi) (ds:List Nat):Prop where
 nR:∀i∈sp.nR,i∉ds/\i<4000
 uG:∀p∈sp.uG,p.1<4000
 nd:(sp.Wu.map (·.1)).Nodup
 Wu:∀id∈sp.Wu.map (·.1),id∉S.lk
theorem zfs{S:St}{sp:Yi}{ds:List Nat}(h:zvh S sp ds=true):Fe S sp ds:=by
 simp only[zvh,A',List.all_eq_true,IC] at h;obtain⟨⟨⟨⟨h1,h2⟩,_⟩,h4⟩,h5⟩:=h;refine⟨λi hi=>⟨L4 (h1 i hi).1,Ik (h1 i hi).2⟩,λp hp=>Ik (h2 p hp).1,AQ h4,λid aS=>?_⟩;obtain⟨p,hp,rfl⟩:=List.mem_map.1 aS;have:=h5 p hp
 split at this
 ·simp only[A',IC] at this;exact L4 this.2
 ·cases this
theorem Ma{S:St}{sp:Yi}{id:Nat}:id∈DZ S sp↔id<S.L.length/\id∉sp.Wu.map (·.1):=by
 unfold DZ;simp only[List.mem_filter,List.mem_range,IC];refine and_congr_right λ_=>?_
 constructor
 ·exact L4
 ·intro h;rw[Bool.eq_false_iff];intro hb;simp only[KD,List.any_eq_true] at hb;obtain⟨y,hy,he⟩:=hb;exact h (Ib he▸hy)
theorem zdo{n:Nat}{S S':St}{sp:Yi}{ds:List Nat}(hs:Fe S sp ds){a a':Act}(hf:O6 n S a)(hf':O6 n S' a')(hfa:E5 ds a a'){xs ys:List Va}(hx:Hs S' sp.uG=some xs):O6 n (YU S sp (xs++ys)) a':=by
 obtain⟨hxl,hxg⟩:=V2 hx;have htk:(xs++ys).take sp.uG.length=xs:=by rw[<-hxl]; exact List.take_left
 have AL2:∀i sv,(YU S sp (xs++ys)).F.get i=some sv->(∃(j:Nat) (k:CK) (v:Va),sp.uG[j]? = some (i,k)/\xs[j]? = some v/\sv=.un (.v v))\/(i∈sp.nR/\S.F.get i=some sv/\∃e,sv=.un e):=λi sv h=>by
  simp only[YU,htk] at h;rcases zkf (λp hp=>hs.uG p hp) h with h1 | h1
  ·exact .inl h1
  ·exact .inr (A5 (λx hx=>(hs.nR x hx).2) h1)
 refine⟨hf'.size,λi x h=>?_,λi r pc x h=>?_⟩
 ·rcases AL2 i _ h with ⟨j,k,v,h1,h2,h3⟩ | ⟨h1,h2,_⟩
  ·obtain⟨e,he,hv⟩:=hxg j i k v h1 h2;have:=za8 hv (hf'.fits i e he);cases h3;exact this
  ·have h3:=hf.fits i x h2;rw[<-hfa.2.2 i (hs.nR i h1).1] at h3;exact EV.fL (S:=S) (λ_ _ h=>h) h3
 ·rcases AL2 i _ h with ⟨j,k,v,h1,h2,h3⟩ | ⟨h1,h2,e,h3⟩ <;> cases h3
theorem zkl{l m:List Nat}{k:Nat}(hk:k<=l.length)(h:∀(i b:Nat),l[i]? = some b->m[i]? = some b):m.take k=l.take k:=by
 apply List.ext_getElem?
 intro i;rw[List.getElem?_take,List.getElem?_take]
 by_cases hi:i<k
 ·rw[C' hi,C' hi];have hl:i<l.length:=Nat.lt_of_lt_of_le hi hk;rw[h i l[i] (Il hl),Il hl]
 ·rw[B' hi,B' hi]
theorem zdp{S S':St}{sp:Yi}{w w' wr Wh:Wo}{ds:List Nat}(hs:Fe S sp ds)(hw:Zn S w wr)(hw':Zn S' w' Wh)(hB:∀(id b:Nat),S.B[id]? = some b->S'.B[id]? = some b)(hty:∀(id:Nat) (t:TypeId) (cs:List Va),S.L[id]? = some (t,cs)->∃mO,S'.L[id]? = some (t,mO))(hlk:∀id,id<S.L.length->id∉sp.Wu.map (·.1)->S'.L[id]? = S.L[id]?){xs ys:List Va}(hxl:xs.length=sp.uG.length)(hy:Lj S' sp.Wu=some ys) :
  (YU S sp (xs++ys)).L.length=S.L.length/\∀(id:Nat) (t:TypeId) (cs:List Va),(YU S sp (xs++ys)).L[id]? = some (t,cs)->∃b,S.B[id]? = some b/\Wh.heap[b]? = some (Obj.cells cs.toArray t (0,0)):=by
 have tY:(xs++ys).drop sp.uG.length=ys:=by rw[<-hxl]; exact List.drop_left
 obtain⟨h1,h2,h3⟩:=Ld (L:=S.L) hs.nd hy hty;have hL:(YU S sp (xs++ys)).L=Vw S.L sp.Wu ys:=by simp only[YU,tY]
 rw[hL];refine⟨h1,λid t cs hc=>?_⟩;have aS:id<S.L.length:=by rw[<-h1]; exact(I8.1 hc).1
 have hb:S.B[id]? = some (S.B[id]'(by rw[<-hw.len]; exact aS)):=Il _
 have hS':S'.L[id]? = some (t,cs):=by
  by_cases hm:id∈sp.Wu.map (·.1)
  ·exact h3 id t cs hm hc
  ·rw[h2 id hm] at hc;rw[hlk id aS hm]; exact hc
 obtain⟨b',fM,hh⟩:=hw'.loc id t cs hS';rw[hB _ _ hb] at fM;cases fM;exact⟨_,hb,hh⟩
theorem KU{S:St}{sp:Yi}{K:List Va->Prop}(h:zdr S sp K):∃xs ys,Hs S sp.uG=some xs/\Lj S sp.Wu=some ys/\Um sp.ks (xs++ys)=true/\K (xs++ys):=by
 unfold zdr at h
 split at h
 ·rename_i xs ys hx hy
  cases hk:Um sp.ks (xs++ys) with
  | false=>rw[hk] at h; exact h.elim
  | true=>rw[hk] at h; exact⟨xs,ys,hx,hy,hk,h⟩
 ·exact h.elim
theorem zn4{S S':St}{sp:Yi}{ds:List Nat}(hs:Fe S sp ds)(WC:Gb S){vs:List Va}(hL:(YU S sp vs).L.length=S.L.length)(hLt:∀(id:Nat) (t:TypeId) (cs:List Va),S.L[id]? = some (t,cs)->∃mO,(YU S sp vs).L[id]? = some (t,mO))(hLk:∀id,id∉sp.Wu.map (·.1)->(YU S sp vs).L[id]? = S.L[id]?)(sX:Km (YU S sp vs) S'):Km S { S' with lk:=S.lk }/\(∀id,id<S.L.length->id∉sp.Wu.map (·.1)->S'.L[id]? = S.L[id]?):=by
 have h2:∀id,id<S.L.length->id∉sp.Wu.map (·.1)->S'.L[id]? = S.L[id]? := λid aS hm=>by
  have:=sX.lk id (Ma.2 ⟨aS,hm⟩);rw[this.2,hLk id hm]
 refine⟨⟨λid b hb=>sX.B id b hb,λid t cs hc=>?_,λid aS=>⟨aS,h2 id (WC.lk id aS) (λhm=>hs.Wu id hm aS)⟩⟩,h2⟩;obtain⟨cs1,h1⟩:=hLt id t cs hc;exact sX.ty id t cs1 h1
theorem zjz{S:St}:∀{l:List (TypeId×List CK)} {n:Nat} {zs:List Va},zjy S n l=some zs->(H7 l zs).length=l.length/\(∀j,j<l.length->n+j<S.L.length)/\∀j,(H7 l zs)[j]? = if j<l.length then S.L[n+j]? else none
 | [],n,zs,h=>⟨rfl,λj hj=>Ir hj (Nat.not_lt_zero j),λj=>by simp[H7]⟩
 | (t,ks)::r,n,zs,h=>by
  simp only[zjy] at h
  split at h
  ·rename_i t' cs l hL hl
   cases hb:Nat.beq t' t&&Nat.beq cs.length ks.length with
   | false=>rw[hb] at h; cases h
   | true=>
    rw[hb] at h;simp only[cond_true,I0] at h;subst h;simp only[A'] at hb;have h1:=Ib hb.1;have h2:=Ib hb.2;subst h1;obtain⟨g1,g2,g3⟩:=zjz hl;have ht:(cs++l).take ks.length=cs:=by rw[<-h2]; exact List.take_left
    have tY:(cs++l).drop ks.length=l:=by rw[<-h2]; exact List.drop_left
    simp only[H7,ht,tY];refine⟨by simp[g1],λj hj=>?_,λj=>?_⟩
    ·cases j with
     | zero=>exact(I8.1 hL).1
     | succ j=>have:=g2 j (by simpa using hj); omega
    ·cases j with
     | zero=>simp[hL]
     | succ j=>
      have:=g3 j;simp only[List.getElem?_cons_succ,List.length_cons];rw[this];have e:n+1+j=n+(j+1):=Qo;rw[e]
      by_cases hj:j<r.length
      ·rw[C' hj,C' Qo]
      ·rw[B' hj,B' Qo]
  ·cases h
theorem zq1{S:St}{n k:Nat}{l:List (Nat×Nat)}(h:zj5 S n k l=true):∀p∈l,p.1<4000/\p.2<k/\S.F.get p.1=some (.un (.loc (n+p.2) 0)):=λp hp=>by
 simp only[zj5,List.all_eq_true,A'] at h;obtain⟨⟨h1,h2⟩,h3⟩:=h p hp;refine⟨Ik h1,Ik h2,?_⟩
 split at h3
 ·rename_i id aS;rw[aS,Ib h3]
 ·cases h3
theorem Aw{F:PT SV}{n:Nat}:∀{l:List (Nat×Nat)} {i:Nat} {sv:SV},(∀p∈l,p.1<4000)->(ztc F n l).get i=some sv->(∃j,(i,j)∈l/\sv=.un (.loc (n+j) 0))\/F.get i=some sv
 | [],i,sv,_,h=>.inr h
 | (a,j)::r,i,sv,hl,h=>by
  have hr:∀p∈r,p.1<4000:=λx hx=>hl x (I1 _ hx)
  simp only[ztc] at h;rw[PT.kD _ 12 _ _ _ (by have h1:=hl (a,j) (I9 ..); show @LT.lt Nat _ (a+1) (2 ^ 12); simp only at h1; omega)] at h
  by_cases hk:a=i
  ·subst hk;rw[C' rfl] at h;simp only[I0] at h;exact .inl ⟨j,I9 ..,h.symm⟩
  ·rw[B' hk] at h;rcases Aw hr h with ⟨q,h1,h2⟩ | h1
   ·exact .inl ⟨q,I1 _ h1,h2⟩
   ·exact .inr h1
theorem zjq{S S':St}{sp:Yi}{K:List Va->List Nat->Prop}(h:zsi S S' sp K):∃xs ys zs,Hs S' sp.uG=some xs/\Lj S' sp.Wu=some ys/\zjy S' S.L.length sp.aO=some zs/\Um sp.ks (xs++ys)=true/\Um sp.nks zs=true/\zj5 S' S.L.length sp.aO.length sp.ptr=true/\
  K (xs++ys++zs) ((S'.B.drop S.B.length).take sp.aO.length):=by
 unfold zsi at h
 split at h
 ·rename_i zs hz
  cases hb:Um sp.nks zs&&zj5 S' S.L.length sp.aO.length sp.ptr with
  | false=>rw[hb] at h; exact h.elim
  | true=>
   rw[hb] at h;simp only[cond_true] at h;simp only[A'] at hb;obtain⟨xs,ys,h1,h2,h3,h4⟩:=KU h;exact⟨xs,ys,zs,h1,h2,hz,h3,hb.1,hb.2,h4⟩
 ·exact h.elim
theorem zu8{l m:List Nat}(h:∀(i b:Nat),l[i]? = some b->m[i]? = some b):m.take l.length=l:=by
 have:=zkl (I7 l.length) h;rw[this,List.take_length]
theorem zsj{n:Nat}{S S':St}{sp:Yi}{w w' wr Wh:Wo}{ds:List Nat}{a a':Act}(hs:Fe S sp ds)(hf:O6 n S a)(hw:Zn S w wr)(WC:Gb S)(hf':O6 n S' a')(hw':Zn S' w' Wh)(hfa:E5 ds a a')(sX:Km { S with lk:=DZ S sp } S'){xs ys zs:List Va}(hx:Hs S' sp.uG=some xs)(hy:Lj S' sp.Wu=some ys)(hz:zjy S' S.L.length sp.aO=some zs)(hp:zj5 S' S.L.length sp.aO.length sp.ptr=true) :
  ((S'.B.drop S.B.length).take sp.aO.length).length=sp.aO.length/\(∀b∈S.B++(S'.B.drop S.B.length).take sp.aO.length,b∈S'.B)/\
  O6 n (DR S sp (xs++ys) zs ((S'.B.drop S.B.length).take sp.aO.length)) a'/\Gb (DR S sp (xs++ys) zs ((S'.B.drop S.B.length).take sp.aO.length))/\Km S (DR S sp (xs++ys) zs ((S'.B.drop S.B.length).take sp.aO.length))/\
  Zn (DR S sp (xs++ys) zs ((S'.B.drop S.B.length).take sp.aO.length)).bS Wh Wh/\(w'=w->S'.old=S.old->Zn (DR S sp (xs++ys) zs ((S'.B.drop S.B.length).take sp.aO.length)) w Wh):=by
 obtain⟨n1,n2,n3⟩:=zjz hz;have hB:∀(id b:Nat),S.B[id]? = some b->S'.B[id]? = some b:=sX.B;have CS5:=zu8 hB;have CQ7:=hw.len;have Ct2:=hw'.len
 have hk:S.B.length+sp.aO.length<=S'.B.length:=by
  rcases Nat.eq_zero_or_pos sp.aO.length with h0 | h0
  ·have:S.B.length<=S'.B.length:=by
    have:=congrArg List.length CS5;rw[List.length_take] at this;omega
   omega
  ·have:=n2 (sp.aO.length-1) Qo;omega
 have hbl:((S'.B.drop S.B.length).take sp.aO.length).length=sp.aO.length:=by rw[List.length_take,List.length_drop]; omega
 have hGB:S.B++(S'.B.drop S.B.length).take sp.aO.length=S'.B.take (S.B.length+sp.aO.length):=by
  rw[List.take_add,CS5]
 have Az4:∀(id b:Nat),id<S.B.length+sp.aO.length->S'.B[id]? = some b->(S.B++(S'.B.drop S.B.length).take sp.aO.length)[id]? = some b:=λid b aS hb=>by
  rw[hGB,List.getElem?_take,C' aS]; exact hb
 have B72:∀(id b:Nat),(S.B++(S'.B.drop S.B.length).take sp.aO.length)[id]? = some b->S'.B[id]? = some b:=λid b hb=>by
  rw[hGB,List.getElem?_take] at hb
  split at hb
  ·exact hb
  ·cases hb
 obtain⟨t1,t2⟩:=Ld (L:=S.L) hs.nd hy sX.ty;have hlk:∀id,id<S.L.length->id∉sp.Wu.map (·.1)->S'.L[id]? = S.L[id]? := λid aS hm=>(sX.lk id (Ma.2 ⟨aS,hm⟩)).2
 have hxl:=(V2 hx).1;obtain⟨g1,g2⟩:=zdp hs hw hw' hB sX.ty hlk hxl hy;have hhf:=zdo (ys:=ys) hs hf hf' hfa hx;have tY:(xs++ys).drop sp.uG.length=ys:=by rw[<-hxl]; exact List.drop_left
 have hL:(YU S sp (xs++ys)).L=Vw S.L sp.Wu ys:=by simp only[YU,tY]
 have hpp:=zq1 hp
 have B85:O6 n (DR S sp (xs++ys) zs ((S'.B.drop S.B.length).take sp.aO.length)) a':=by
  have CR4:∀(id b:Nat),(YU S sp (xs++ys)).B[id]? = some b->(DR S sp (xs++ys) zs ((S'.B.drop S.B.length).take sp.aO.length)).B[id]? = some b:=λid b hb=>by
   have fM:S.B[id]? = some b:=hb;exact Az4 id b (by have:=(I8.1 fM).1; omega) (hB id b fM)
  refine⟨hhf.size,λi x h=>?_,λi r pc x h=>?_⟩
  ·rcases Aw (λp hp=>(hpp p hp).1) h with ⟨j,h1,h2⟩ | h1
   ·obtain⟨_,hj,hF⟩:=hpp (i,j) h1;have hd:=hf'.fits i _ hF;cases h2;obtain⟨b,hb,hv⟩:=hd;exact⟨b,Az4 _ _ (by simp only at hj; omega) hb,hv⟩
   ·exact EV.fL (S:=YU S sp (xs++ys)) CR4 (hhf.fits i x h1)
  ·rcases Aw (λp hp=>(hpp p hp).1) h with ⟨j,h1,h2⟩ | h1
   ·cases h2
   ·exact hhf.old i r pc x h1
 have qG:∀(id:Nat) (t:TypeId) (cs:List Va),((YU S sp (xs++ys)).L++H7 sp.aO zs)[id]? = some (t,cs)->∃b,(S.B++(S'.B.drop S.B.length).take sp.aO.length)[id]? = some b/\Wh.heap[b]? = some (Obj.cells cs.toArray t (0,0)):=λid t cs hc=>by
  by_cases aS:id<S.L.length
  ·rw[Ip (by rw[g1]; exact aS)] at hc;obtain⟨b,h1,h2⟩:=g2 id t cs hc;exact⟨b,Az4 id b Qo (hB id b h1),h2⟩
  ·rw[List.getElem?_append_right (by rw[g1]; omega),g1,n3] at hc
   split at hc
   ·rename_i IN;have e:S.L.length+(id-S.L.length)=id:=Qo;rw[e] at hc;obtain⟨b,h1,h2⟩:=hw'.loc id t cs hc;exact⟨b,Az4 id b Qo h1,h2⟩
   ·cases hc
 have hlen:((YU S sp (xs++ys)).L++H7 sp.aO zs).length=(S.B++(S'.B.drop S.B.length).take sp.aO.length).length:=by
  rw[Io,Io,g1,n1,hbl,CQ7]
 have hnd:(S.B++(S'.B.drop S.B.length).take sp.aO.length).Nodup:=by
  rw[hGB]; exact hw'.nP.sublist (List.take_sublist _ _)
 refine⟨hbl,λb hb=>by rw[hGB] at hb; exact List.mem_of_mem_take hb,B85,⟨?_,λid aS=>?_⟩,⟨λid b hb=>?_,λid t cs hc=>?_,λid aS=>⟨aS,?_⟩⟩,⟨?_,qG,hlen,hnd,λid b aS hb=>?_⟩,λe1 e2=>⟨?_,qG,hlen,hnd,λid b aS hb=>?_⟩⟩
 ·show S.old<=(S.B++(S'.B.drop S.B.length).take sp.aO.length).length;have:=WC.old;rw[Io]; omega
 ·show id<((YU S sp (xs++ys)).L++H7 sp.aO zs).length;have:=WC.lk id aS;rw[Io,g1]; omega
 ·exact Az4 id b (by have:=(I8.1 hb).1; omega) (hB id b hb)
 ·have aS:id<S.L.length:=(I8.1 hc).1;obtain⟨u1,u2⟩:(∀(id:Nat) (t:TypeId) (cs:List Va),id∈sp.Wu.map (·.1)->(Vw S.L sp.Wu ys)[id]? = some (t,cs)->S'.L[id]? = some (t,cs))/\True:=⟨t2.2,trivial⟩;have IN:id<(Vw S.L sp.Wu ys).length:=by rw[t1]; exact aS
  have hg:(Vw S.L sp.Wu ys)[id]? = some (((Vw S.L sp.Wu ys)[id]).1,((Vw S.L sp.Wu ys)[id]).2):=Il IN;show ∃mO,((YU S sp (xs++ys)).L++H7 sp.aO zs)[id]? = some (t,mO);rw[Ip (by rw[g1]; exact aS),hL]
  by_cases hm:id∈sp.Wu.map (·.1)
  ·have h4:=u1 id _ _ hm hg;obtain⟨mO,h5⟩:=sX.ty id t cs hc;rw[h5] at h4;simp only[I0,Prod.mk.injEq] at h4;exact⟨((Vw S.L sp.Wu ys)[id]).2,by rw[hg,<-h4.1]⟩
  ·exact⟨cs,by rw[t2.1 id hm]; exact hc⟩
 ·have IN:=WC.lk id aS;show ((YU S sp (xs++ys)).L++H7 sp.aO zs)[id]? = S.L[id]?;rw[Ip (by rw[g1]; exact IN),hL,t2.1 id λhm=>hs.Wu id hm aS]
 ·exact Q0.refl _ _
 ·have h1:id<(S.B++(S'.B.drop S.B.length).take sp.aO.length).length:=(I8.1 hb).1;have h2:(S.B++(S'.B.drop S.B.length).take sp.aO.length).length<=id:=aS;omega
 ·have hbs:(DR S sp (xs++ys) zs ((S'.B.drop S.B.length).take sp.aO.length)).bs=S'.bs:=by
   show (S.B++(S'.B.drop S.B.length).take sp.aO.length).take S.old=S'.B.take S'.old;rw[e2];have h1:=WC.old;rw[hGB,List.take_take,Nat.min_eq_left Qo]
  rw[hbs,<-e1]; exact hw'.ext
 ·have h1:S'.B[id]? = some b:=B72 id b hb;have:=hw'.fresh id b (by rw[e2]; exact aS) h1;rw[e1] at this;exact this
structure zzz (C:UQ) (S:St) (w:Wo) (ds:List Nat) (a:Act) (sp:Yi) (vs:List Va) (w1:Wo) (a':Act) (Wh:Wo):Prop where
 fit:O6 C.n (YU S sp vs) a'
 rel:Zn (YU S sp vs) w1 Wh
 wf:Gb (YU S sp vs)
 fra:E5 ds a a'
theorem zdq{S S':St}{sp:Yi}(hnd:(sp.Wu.map (·.1)).Nodup)(hty:∀(id:Nat) (t:TypeId) (cs:List Va),S.L[id]? = some (t,cs)->∃mO,S'.L[id]? = some (t,mO)){xs ys:List Va}(hxl:xs.length=sp.uG.length)(hy:Lj S' sp.Wu=some ys) :
  (∀(id:Nat) (t:TypeId) (cs:List Va),S.L[id]? = some (t,cs)->∃mO,(YU S sp (xs++ys)).L[id]? = some (t,mO))/\(∀id,id∉sp.Wu.map (·.1)->(YU S sp (xs++ys)).L[id]? = S.L[id]?):=by
 have tY:(xs++ys).drop sp.uG.length=ys:=by rw[<-hxl]; exact List.drop_left
 obtain⟨h1,h2,h3⟩:=Ld (L:=S.L) hnd hy hty;have hL:(YU S sp (xs++ys)).L=Vw S.L sp.Wu ys:=by simp only[YU,tY]
 rw[hL];refine⟨λid t cs hc=>?_,h2⟩;have aS:id<(Vw S.L sp.Wu ys).length:=by rw[h1]; exact(I8.1 hc).1
 by_cases hm:id∈sp.Wu.map (·.1)
 ·have hg:(Vw S.L sp.Wu ys)[id]? = some (((Vw S.L sp.Wu ys)[id]).1,((Vw S.L sp.Wu ys)[id]).2):=Il aS;have h4:=h3 id _ _ hm hg;obtain⟨mO,h5⟩:=hty id t cs hc;rw[h5] at h4;simp only[I0,Prod.mk.injEq] at h4;exact⟨((Vw S.L sp.Wu ys)[id]).2,by rw[hg,<-h4.1]⟩
 ·exact⟨cs,by rw[h2 id hm]; exact hc⟩
theorem Bq{n:Nat}{S:St}{a:Act}(hf:O6 n S a){x:Operand}{e:EV}(hb:zf8 S [] x=some e):EV.den S e (a.eval x):=by
 have:=Ye (ops:=#[]) (hf.enter #[] (λ_=>False)).fit (pc:=[]) (λp hp=>by cases hp) (S:={ S with r:=S.r+1 }) (x:=x) (e:=e) (by
  cases x with
  | tmp t=>
   simp only[zf8] at hb ⊢
   split at hb
   ·exact hb
   ·rename_i r uM y hg
    cases bR:Nat.beq r S.r&&zfe uM [] with
    | false=>rw[bR] at hb; cases hb
    | true=>
     simp only[A'] at bR;have:=Ib bR.1;have h2:=hf.old t r uM y hg;omega
   ·cases hb
  | const v=>exact hb
  | global g=>exact hb
  | func f=>exact hb)
 exact EV.fL (S:={ S with r:=S.r+1 }) (λ_ _ h=>h) this
theorem zms(S:St)(c:Operand)(x:Bool):(rP S c x).L=S.L/\(rP S c x).B=S.B/\(rP S c x).old=S.old/\(rP S c x).lk=S.lk/\(rP S c x).r=S.r:=by
 unfold rP;split
 ·cases Nat.blt _ 4000 <;> exact⟨rfl,rfl,rfl,rfl,rfl⟩
 ·exact⟨rfl,rfl,rfl,rfl,rfl⟩
theorem O6.rP{n:Nat}{S:St}{a:Act}(hf:O6 n S a){c:Operand}{x:Bool}(hc:a.eval c=.bool x):O6 n (rP S c x) a:=by
 unfold YtnclplgaicdapaaGreatDoor.rP;split
 ·rename_i t
  cases hl:Nat.blt t 4000 with
  | false=>exact hf
  | true=>
   have IN:t<4000:=Ik hl;have hg:∀i,(PT.set 12 S.F t (.un (.kb x))).get i=if t=i then some (.un (.kb x)) else S.F.get i:=λi=>PT.kD _ 12 S.F t i (by have h1 : @LT.lt Nat _ t 4000:=IN; show @LT.lt Nat _ (t+1) (2 ^ 12); omega)
   refine⟨hf.size,λi y hy=>?_,λi r pc y hy=>?_⟩
   ·have hy:(PT.set 12 S.F t (.un (.kb x))).get i=some (.un y):=hy;rw[hg i] at hy
    by_cases hti:t=i
    ·subst hti;rw[C' rfl] at hy;simp only[I0,SV.un.injEq] at hy;subst hy;exact hc
    ·rw[B' hti] at hy;exact EV.fL (S:=S) (λ_ _ h=>h) (hf.fits i y hy)
   ·have hy:(PT.set 12 S.F t (.un (.kb x))).get i=some (.gd r pc y):=hy;rw[hg i] at hy
    by_cases hti:t=i
    ·rw[C' hti] at hy; cases hy
    ·rw[B' hti] at hy; exact hf.old i r pc y hy
 ·exact hf
theorem zo2{S:St}{w wr:Wo}{c:Operand}{x:Bool}(h:Zn S w wr):Zn (rP S c x) w wr:=by
 obtain⟨h1,h2,h3,h4,h5⟩:=zms S c x;refine⟨?_,?_,?_,?_,?_⟩
 ·unfold St.bs; rw[h2,h3]; exact h.ext
 ·rw[h1,h2]; exact h.loc
 ·rw[h1,h2]; exact h.len
 ·rw[h2]; exact h.nP
 ·rw[h2,h3]; exact h.fresh
theorem ztb{S:St}{c:Operand}{x:Bool}(h:Gb S):Gb (rP S c x):=by
 obtain⟨h1,h2,h3,h4,h5⟩:=zms S c x;exact⟨by rw[h2,h3]; exact h.old,by rw[h1,h4]; exact h.lk⟩
theorem zo1{C:UQ}{S:St}{w:Wo}{ds:List Nat}{a:Act}{S':St}{w':Wo}{a':Act}{Wh:Wo}{c:Operand}{x:Bool}(h:Mc C (rP S c x) w ds a S' w' a' Wh):Mc C S w ds a S' w' a' Wh:=by
 obtain⟨h1,h2,h3,h4,h5⟩:=zms S c x;refine⟨h.fit,h.rel,h.wf,⟨?_,?_,?_⟩,h.fra,?_⟩
 ·have:=h.fr.B; rw[h2] at this; exact this
 ·have:=h.fr.ty; rw[h1] at this; exact this
 ·have:=h.fr.lk; rw[h1,h4] at this; exact this
 ·have:=h.pm; rw[h3] at this; exact this
theorem Yp{C:UQ}(E:zrs C){sps:List (Nat×Yi)}:∀(c:Code) (S:St) (w wr:Wo) (a:Act) (K:Exit->St->Wo->Prop) (Q:Exit->Act->Wo->Prop),NH C sps c S w K->O6 C.n S a->Zn S w wr->Gb S->
  (∀e S' w' a' Wh,K e S' w'->Mc C S w (Xo c) a S' w' a' Wh->Q e a' Wh)->c.wpIn (Tk C.rd) 0 C.P Q a wr
 | .skip,S,w,wr,a,K,Q,h,hf,hw,WC,hQ=>wpIn_skip (hQ _ _ _ _ _ h (Mc.refl _ hf hw WC))
 | .label _,S,w,wr,a,K,Q,h,hf,hw,WC,hQ=>wpIn_label (hQ _ _ _ _ _ h (Mc.refl _ hf hw WC))
 | .exit _,S,w,wr,a,K,Q,h,hf,hw,WC,hQ=>wpIn_exit (hQ _ _ _ _ _ h (Mc.refl _ hf hw WC))
 | .ret,S,w,wr,a,K,Q,h,hf,hw,WC,hQ=>wpIn_ret (hQ _ _ _ _ _ h (Mc.refl _ hf hw WC))
 | .region _ ops d,S,w,wr,a,K,Q,h,hf,hw,WC,hQ=>znq E h hf hw WC λS' w' a' Wh hK he=>hQ _ _ _ _ _ hK he
 | .seq x y,S,w,wr,a,K,Q,h,hf,hw,WC,hQ=>by
  have Aw0:∀z∈Xo x,z∈Xo (.seq x y):=λz hz=>Ia _ hz
  have BY7:∀z∈Xo y,z∈Xo (.seq x y):=λz hz=>Iy _ hz
  simp only[NH] at h
  split at h
  ·refine wpIn_seq (Yp E x S w wr a _ _ h hf hw WC λe S' w' a' Wh hK he=>?_)
   cases e with
   | normal=>exact Yp E y S' w' Wh a' _ _ hK he.fit he.rel he.wf λe2 S2 w2 a2 M' fK aR=>hQ _ _ _ _ _ fK (he.trans aR Aw0 BY7)
   | _=>exact hQ _ _ _ _ _ hK (he.mono Aw0)
  ·rename_i sp _
   cases hok:zvh S sp (Xo x) with
   | false=>rw[hok] at h; exact h.elim
   | true=>
    rw[hok] at h;simp only[cond_true] at h;have hs:=zfs hok;have hf0:O6 C.n { S with lk:=DZ S sp } a:=⟨hf.size,hf.fits,hf.old⟩;have hw0:Zn { S with lk:=DZ S sp } w wr:=⟨hw.ext,hw.loc,hw.len,hw.nP,hw.fresh⟩;have CU3:Gb { S with lk:=DZ S sp }:=⟨WC.old,λid aS=>(Ma.1 aS).1⟩
    have out:∀{S':St} {w':Wo} {a':Act} {Wh:Wo},Mc C { S with lk:=DZ S sp } w (Xo x) a S' w' a' Wh->Mc C S w (Xo (.seq x y)) a { S' with lk:=S.lk } w' a' Wh:=λ{S' w' a' Wh} he=>by
     have f1:Km S { S' with lk:=S.lk }:=⟨he.fr.B,he.fr.ty,λid aS=>⟨aS,(he.fr.lk id (Ma.2 ⟨WC.lk id aS,λhm=>hs.Wu id hm aS⟩)).2⟩⟩
     exact⟨⟨he.fit.size,he.fit.fits,he.fit.old⟩,⟨he.rel.ext,he.rel.loc,he.rel.len,he.rel.nP,he.rel.fresh⟩,⟨he.wf.old,λid aS=>by
      obtain⟨mO,hc'⟩:=f1.ty id (S.L[id]'(WC.lk id aS)).1 (S.L[id]'(WC.lk id aS)).2 (Il _);exact(I8.1 hc').1⟩,f1,he.fra.mono Aw0,he.pm⟩
    cases jS:C.pm with
    | true=>
     rw[jS] at h;simp only[cond_true] at h;obtain⟨Mid,h1,h2⟩:=h;refine wpIn_seq (Yp E x _ w wr a _ _ h1 hf0 hw0 CU3 λe S' w' a' Wh hK he=>?_)
     cases e with
     | normal=>
      obtain⟨xs,ys,zs,g1,g2,g3,g4,g5,g6,g7⟩:=zjq hK;obtain⟨j1,j2,j3,j4,j5,j6,j7⟩:=zsj hs hf hw WC he.fit he.rel he.fra he.fr g1 g2 g3 g6;obtain⟨p1,p2⟩:=he.pm jS;refine Yp E y _ w Wh a' _ _ (Nn (Oe (Oe h2 g4) g5) j1 g7) j3 (j7 p1 p2) j4 λe2 S2 w2 a2 M' fK aR=>hQ _ _ _ _ _ fK ⟨aR.fit,aR.rel,aR.wf,j5.trans aR.fr,(he.fra.mono Aw0).trans (aR.fra.mono BY7),λhp=>aR.pm hp⟩
     | _=>exact hQ _ _ _ _ _ hK (out he)
    | false=>
     rw[jS] at h;simp only[cond_false] at h;obtain⟨Mid,h1,h2⟩:=h;refine wpIn_seq (Yp E x _ w wr a _ _ h1 hf0 hw0 CU3 λe S' w' a' Wh hK he=>?_)
     cases e with
     | normal=>
      obtain⟨xs,ys,zs,g1,g2,g3,g4,g5,g6,g7⟩:=zjq (hK Wh he.rel.ext he.rel.lt);obtain⟨j1,j2,j3,j4,j5,j6,j7⟩:=zsj hs hf hw WC he.fit he.rel he.fra he.fr g1 g2 g3 g6;refine Yp E y _ Wh Wh a' _ _ (Nn (Oe (Oe h2 g4) g5) j1 Wh (λb hb=>he.rel.lt b (j2 b hb)) g7) ⟨j3.size,j3.fits,j3.old⟩ j6 ⟨I7 _,j4.lk⟩ λe2 S2 w2 a2 M' fK aR=>hQ _ _ _ _ _ fK ⟨aR.fit,aR.rel,aR.wf,j5.trans ⟨aR.fr.B,aR.fr.ty,aR.fr.lk⟩,(he.fra.mono Aw0).trans (aR.fra.mono BY7),λhp=>by rw[jS] at hp; cases hp⟩
     | _=>exact hQ _ _ _ _ _ hK (out he)
 | .cond c x y,S,w,wr,a,K,Q,h,hf,hw,WC,hQ=>by
  simp only[NH] at h
  split at h
  ·rename_i hb;have hc:a.eval c=.bool true:=Bq hf hb;refine wpIn_cond_split hc (λhb=>?_) (λhb=>by cases hb);exact Yp E x S w wr a _ _ h hf hw WC λe S' w' a' Wh hK he=>hQ _ _ _ _ _ hK (he.mono λz hz=>Ia _ hz)
  ·rename_i hb;have hc:a.eval c=.bool false:=Bq hf hb;refine wpIn_cond_split hc (λhb=>by cases hb) (λhb=>?_);exact Yp E y S w wr a _ _ h hf hw WC λe S' w' a' Wh hK he=>hQ _ _ _ _ _ hK (he.mono λz hz=>Iy _ hz)
  ·rename_i b hb;have hc:a.eval c=.bool b:=Bq hf hb;refine wpIn_cond_split hc (λhb=>?_) (λhb=>?_)
   ·subst hb;exact Yp E x (rP S c true) w wr a _ _ (h.1 rfl) (hf.rP hc) (zo2 hw) (ztb WC) λe S' w' a' Wh hK he=>hQ _ _ _ _ _ hK ((zo1 he).mono λz hz=>Ia _ hz)
   ·subst hb;exact Yp E y (rP S c false) w wr a _ _ (h.2 rfl) (hf.rP hc) (zo2 hw) (ztb WC) λe S' w' a' Wh hK he=>hQ _ _ _ _ _ hK ((zo1 he).mono λz hz=>Iy _ hz)
  ·exact h.elim
 | .scope b,S,w,wr,a,K,Q,h,hf,hw,WC,hQ=>by
  refine DI (Yp E b S w wr a _ _ h hf hw WC λe S' w' a' Wh hK he=>?_)
  cases e with
  | goto l=>exact hK.elim
  | _=>exact hQ _ _ _ _ _ hK he
 | .block id b,S,w,wr,a,K,Q,h,hf,hw,WC,hQ=>by
  refine wpIn_block (Yp E b S w wr a _ _ h hf hw WC λe S' w' a' Wh hK he=>?_)
  cases e with
  | exit id'=>
   simp only[Exit.inBlock]
   dsimp only at hK
   cases hb:Nat.beq id' id with
   | true=>
    rw[hb] at hK;rw[C' (Ib hb)];exact hQ _ _ _ _ _ hK he
   | false=>
    rw[hb] at hK;rw[B' (λe=>by rw[e,Nat.beq_refl] at hb; cases hb)];exact hQ _ _ _ _ _ hK he
  | _=>exact hQ _ _ _ _ _ hK he
 | .loop b,S,w,wr,a,K,Q,h,hf,hw,WC,hQ=>by
  simp only[NH] at h
  split at h
  ·exact h.elim
  ·rename_i key DK4
   split at h
   ·exact h.elim
   ·rename_i sp hsp
    cases hok:zvh S sp (Xo b) with
    | false=>rw[hok] at h; exact h.elim
    | true=>
     rw[hok] at h;simp only[cond_true] at h;have hs:=zfs hok
     cases jS:C.pm with
     | true=>
      rw[jS] at h;simp only[cond_true] at h;obtain⟨JF,μ,Bi4,oK⟩:=h
      have mk:∀(S':St) (a':Act) (Wh:Wo) (xs ys:List Va),O6 C.n S' a'->Zn S' w Wh->S'.old=S.old->E5 (Xo b) a a'->(∀(id b:Nat),S.B[id]? = some b->S'.B[id]? = some b)->
        (∀(id:Nat) (t:TypeId) (cs:List Va),S.L[id]? = some (t,cs)->∃mO,S'.L[id]? = some (t,mO))->(∀id,id<S.L.length->id∉sp.Wu.map (·.1)->S'.L[id]? = S.L[id]?)->
        Hs S' sp.uG=some xs->Lj S' sp.Wu=some ys->zzz C S w (Xo b) a sp (xs++ys) w a' Wh:=by
       intro S' a' Wh xs ys h1 h2 h3 h4 h5 h6 h7 h8 h9;obtain⟨g1,g2⟩:=zdp hs hw h2 h5 h6 h7 (V2 h8).1 h9;refine⟨zdo hs hf h1 h4 h8,⟨?_,g2,by rw[g1]; exact hw.len,hw.nP,hw.fresh⟩,⟨WC.old,λid aS=>by rw[g1]; exact(Ma.1 aS).1⟩,h4⟩;have hbs:S'.bs=S.bs:=by unfold St.bs; rw[h3]; exact zkl WC.old h5
       have:=h2.ext;rw[hbs] at this;exact this
      obtain⟨xs,ys,hx,hy,hk,hI⟩:=KU Bi4
      refine BS (λn a' Wh=>∃xs ys S',μ (xs++ys)=n/\JF (xs++ys)/\Um sp.ks (xs++ys)=true/\xs.length=sp.uG.length/\Lj S' sp.Wu=some ys/\(∀(id:Nat) (t:TypeId) (cs:List Va),S.L[id]? = some (t,cs)->∃mO,S'.L[id]? = some (t,mO))/\zzz C S w (Xo b) a sp (xs++ys) w a' Wh)
       (m:=μ (xs++ys)) ⟨xs,ys,S,rfl,hI,hk,(V2 hx).1,hy,λ_ _ cs h=>⟨cs,h⟩,mk S a wr xs ys hf hw rfl (E5.refl _ _) (λ_ _ h=>h) (λ_ _ cs h=>⟨cs,h⟩) (λ_ _ _=>rfl) hx hy⟩ ?_
      rintro n a' Wh ⟨xs,ys,S',rfl,hI,hk,hxl,hyl,hty,hH⟩;obtain⟨t1,t2⟩:=zdq hs.nd hty hxl hyl
      have hlen:(YU S sp (xs++ys)).L.length=S.L.length:=by
       have:=hH.rel.len;rw[this]; exact hw.len.symm
      refine Yp E b _ w Wh a' _ _ (Oe oK hk hI) hH.fit hH.rel hH.wf λe S2 w2 a2 M' hK he=>?_
      obtain⟨f1,f2⟩:=zn4 hs WC hlen t1 t2 he.fr;obtain⟨p1,p2⟩:=he.pm jS;subst p1
      cases e with
      | normal=>
       obtain⟨xs',ys',dZ,hy',hk',hI',IN⟩:=KU hK;refine⟨μ (xs'++ys'),IN,xs',ys',S2,rfl,hI',hk',(V2 dZ).1,hy',f1.ty,?_⟩;exact mk S2 a2 M' xs' ys' he.fit he.rel p2 (hH.fra.trans he.fra) f1.B f1.ty f2 dZ hy'
      | _=>
       exact hQ _ _ _ _ _ hK ⟨⟨he.fit.size,he.fit.fits,he.fit.old⟩,⟨he.rel.ext,he.rel.loc,he.rel.len,he.rel.nP,he.rel.fresh⟩,
        ⟨he.wf.old,λid aS=>by
         obtain⟨mO,hc'⟩:=f1.ty id (S.L[id]'(WC.lk id aS)).1 (S.L[id]'(WC.lk id aS)).2 (Il _);exact(I8.1 hc').1⟩,f1,hH.fra.trans he.fra,λ_=>⟨rfl,p2⟩⟩
     | false=>
      rw[jS] at h;simp only[cond_false] at h;obtain⟨JF,μ,Bi4,oK⟩:=h
      have mk:∀(S':St) (w':Wo) (a':Act) (Wh:Wo) (xs ys:List Va),O6 C.n S' a'->Zn S' w' Wh->E5 (Xo b) a a'->(∀(id b:Nat),S.B[id]? = some b->S'.B[id]? = some b)->
        (∀(id:Nat) (t:TypeId) (cs:List Va),S.L[id]? = some (t,cs)->∃mO,S'.L[id]? = some (t,mO))->(∀id,id<S.L.length->id∉sp.Wu.map (·.1)->S'.L[id]? = S.L[id]?)->
        Hs S' sp.uG=some xs->Lj S' sp.Wu=some ys->zzz C S.bS Wh (Xo b) a sp (xs++ys) Wh a' Wh:=by
       intro S' w' a' Wh xs ys h1 h2 h4 h5 h6 h7 h8 h9;obtain⟨g1,g2⟩:=zdp hs hw h2 h5 h6 h7 (V2 h8).1 h9;have hf1:=zdo (ys:=ys) hs hf h1 h4 h8;refine⟨⟨hf1.size,hf1.fits,hf1.old⟩,⟨Q0.refl _ _,g2,by show (YU S sp (xs++ys)).L.length=_; rw[g1]; exact hw.len,hw.nP,λid b aS hb=>?_⟩,⟨I7 _,λid aS=>by show id<(YU S sp (xs++ys)).L.length; rw[g1]; exact(Ma.1 aS).1⟩,h4⟩;have:id<S.B.length:=(I8.1 hb).1;have DJ9:S.B.length<=id:=aS;omega
      obtain⟨xs,ys,hx,hy,hk,hI⟩:=KU (Bi4 wr hw.ext hw.lt)
      refine BS (λn a' Wh=>∃xs ys S',μ (xs++ys) Wh=n/\JF (xs++ys) Wh/\Um sp.ks (xs++ys)=true/\xs.length=sp.uG.length/\Lj S' sp.Wu=some ys/\(∀(id:Nat) (t:TypeId) (cs:List Va),S.L[id]? = some (t,cs)->∃mO,S'.L[id]? = some (t,mO))/\zzz C S.bS Wh (Xo b) a sp (xs++ys) Wh a' Wh)
       (m:=μ (xs++ys) wr) ⟨xs,ys,S,rfl,hI,hk,(V2 hx).1,hy,λ_ _ cs h=>⟨cs,h⟩,mk S w a wr xs ys hf hw (E5.refl _ _) (λ_ _ h=>h) (λ_ _ cs h=>⟨cs,h⟩) (λ_ _ _=>rfl) hx hy⟩ ?_
      rintro n a' Wh ⟨xs,ys,S',rfl,hI,hk,hxl,hyl,hty,hH⟩;obtain⟨t1,t2⟩:=zdq hs.nd hty hxl hyl
      have hlen:(YU S sp (xs++ys)).L.length=S.L.length:=by
       have:(YU S.bS sp (xs++ys)).L.length=S.B.length:=hH.rel.len;rw[<-hw.len] at this;exact this
      refine Yp E b _ Wh Wh a' _ _ (Oe oK hk Wh hH.rel.lt hI) hH.fit hH.rel hH.wf λe S2 w2 a2 M' hK he=>?_
      have qF:Km (YU S sp (xs++ys)) S2:=⟨he.fr.B,he.fr.ty,he.fr.lk⟩;obtain⟨f1,f2⟩:=zn4 hs WC hlen t1 t2 qF
      cases e with
      | normal=>
       obtain⟨xs',ys',dZ,hy',hk',hI',IN⟩:=KU (hK M' he.rel.ext he.rel.lt);refine⟨μ (xs'++ys') M',IN,xs',ys',S2,rfl,hI',hk',(V2 dZ).1,hy',f1.ty,?_⟩;exact mk S2 w2 a2 M' xs' ys' he.fit he.rel (hH.fra.trans he.fra) f1.B f1.ty f2 dZ hy'
      | _=>
       exact hQ _ _ _ _ _ hK ⟨⟨he.fit.size,he.fit.fits,he.fit.old⟩,⟨he.rel.ext,he.rel.loc,he.rel.len,he.rel.nP,he.rel.fresh⟩,
        ⟨he.wf.old,λid aS=>by
         obtain⟨mO,hc'⟩:=f1.ty id (S.L[id]'(WC.lk id aS)).1 (S.L[id]'(WC.lk id aS)).2 (Il _);exact(I8.1 hc').1⟩,f1,hH.fra.trans he.fra,λhp=>by rw[jS] at hp; cases hp⟩
 | .rangeFunc _ _ _ _,_,_,_,_,_,_,h,_,_,_,_=>h.elim
 | .goto _,_,_,_,_,_,_,h,_,_,_,_=>h.elim
 | .refuse _,_,_,_,_,_,_,h,_,_,_,_=>h.elim
def zn6:List Va->Nat->PT SV
 | [],_=>.leaf
 | v::r,i=>PT.set 12 (zn6 r (i+1)) i (.un (.v v))
theorem zjp:∀{l:List Va} {k i:Nat} {sv:SV},k+l.length<=4000->(zn6 l k).get i=some sv->∃v,l[i-k]? = some v/\k<=i/\sv=.un (.v v)
 | [],k,i,sv,_,h=>by simp[zn6,PT.get] at h
 | v::r,k,i,sv,hl,h=>by
  simp only[zn6] at h;simp only[List.length_cons] at hl;rw[PT.kD _ 12 _ _ _ (by show @LT.lt Nat _ (k+1) (2 ^ 12); have e:(2:Nat) ^ 12=4096:=rfl; omega)] at h
  by_cases hk:k=i
  ·subst hk;rw[C' rfl] at h;simp only[I0] at h;exact⟨v,Qs,I7 _,h.symm⟩
  ·rw[B' hk] at h;obtain⟨u,h1,h2,h3⟩:=zjp Qo h;refine⟨u,?_,Qo,h3⟩;have:i-k=(i-(k+1))+1:=Qo;rw[this]; simpa using h1
def EC(args:List Va):St:={ F:=zn6 args 0,L:=[],B:=[],old:=0,lk:=[],r:=1 }
def zov(C:UQ)(S:St)(w:Wo):List ResultVar->(List Va->Prop)->Prop
 | [],K=>K []
 | .tmp t::r,K=>match Hd S [] (.tmp t) with
  | some v=>zov C S w r λl=>K (v::l)
  | none=>False
 | .cell p t::r,K=>match C.T t,zf8 S [] (.tmp p) with
  | some ty,some (.loc id 0)=>match S.L[id]? with
   | some (_,cs)=>bif Nat.beq cs.length ty.ks.length then
     (match ty.val cs with
      | some v=>zov C S w r λl=>K (v::l)
      | none=>False)
    else False
   | none=>False
  | some ty,some (.el o n)=>zns ty.ks λvs=>match ty.val vs with
   | some v=>Q1 S.bs w o n vs/\zov C S w r λl=>K (v::l)
   | none=>False
  | _,_=>False
def zrk:List Va->Va
 | [v]=>v
 | l=>.tuple l.toArray
def zw1(C:UQ)(sps:List (Nat×Yi))(args:List Va)(body:Code)(res:List ResultVar)(w:Wo)(R:Va->Wo->Prop):Prop:=
 NH C sps body (EC args) w λe S w'=>match e with
  | .normal | .ret=>zov C S w' res λl=>bif C.pm then R (zrk l) w' else ∀wr,Q0 S.bs w' wr->R (zrk l) wr
  | _=>False
theorem zyt{C:UQ}(E:zrs C){S:St}{w wr:Wo}{a:Act}(hf:O6 C.n S a)(hw:Zn S w wr):∀{res:List ResultVar} {K:List Va->Prop},zov C S w res K->
  ∃l,K l/\l.length=res.length/\(res.mapM (m:=Sem) fun
   | .tmp t=>pure (a.tmps.getD t undef)
   | .cell p t=>do loadVar t (<-asAddr (a.tmps.getD p undef))).run C.P wr=.ok l wr:=by
 have hd:∀{x:Operand} {e:EV},zf8 S [] x=some e->EV.den S e (a.eval x):=λ{x e} hb=>by
  have:=Ye (ops:=#[]) (hf.enter #[] (λ_=>False)).fit (pc:=[]) (λp hp=>by cases hp) (S:={ S with r:=S.r+1 }) (x:=x) (e:=e) (by
   cases x with
   | tmp t=>
    simp only[zf8] at hb ⊢
    split at hb
    ·exact hb
    ·rename_i r uM y hg
     cases bR:Nat.beq r S.r&&zfe uM [] with
     | false=>rw[bR] at hb; cases hb
     | true=>
      simp only[A'] at bR;have:=Ib bR.1;have h2:=hf.old t r uM y hg;omega
    ·cases hb
   | const v=>exact hb
   | global g=>exact hb
   | func f=>exact hb)
  exact EV.fL (S:={ S with r:=S.r+1 }) (λ_ _ h=>h) this
 intro res
 induction res with
 | nil=>intro K h; exact⟨[],h,rfl,Qs⟩
 | cons x r ih=>
  intro K h
  cases x with
  | tmp t=>
   simp only[zov] at h
   split at h
   ·rename_i v hv;obtain⟨l,h1,h2,h3⟩:=ih h
    have hv':a.tmps.getD t undef=v:=by
     unfold Hd at hv
     split at hv
     ·rename_i e he;exact za8 hv (hd he)
     ·cases hv
    refine⟨v::l,h1,by simp[h2],?_⟩;simp only[List.mapM_cons,Sem.run_bind,Sem.run_pure,Result.andThen_ok,h3,hv']
   ·exact h.elim
  | cell p t=>
   simp only[zov] at h
   split at h
   ·rename_i ty id ht he;obtain⟨b,hb,hx⟩:=hd he;simp only[Act.eval] at hx
    split at h
    ·rename_i t' cs hl
     cases hc:Nat.beq cs.length ty.ks.length with
     | false=>rw[hc] at h; exact h.elim
     | true=>
      rw[hc] at h;simp only[cond_true] at h
      split at h
      ·rename_i v hv;obtain⟨l,h1,h2,h3⟩:=ih h
       have hl2:=OI E.T ht hv (Ib hc) (a:=⟨b,0,none⟩) (w:=wr) (λj y hy=>by
        rw[Addr.add_lit,H3 hw hl hb,Nat.zero_add]; exact hy)
       refine⟨v::l,h1,by simp[h2],?_⟩;have ha:(asAddr (a.tmps.getD p undef)).run C.P wr=.ok ⟨b,0,none⟩ wr:=by rw[hx]; rfl
       simp only[List.mapM_cons,Sem.run_bind,ha,Sem.run_pure,Result.andThen_ok,hl2,h3]
      ·exact h.elim
    ·exact h.elim
   ·rename_i ty o n ht he;obtain⟨ad,ho,hx⟩:=hd he;simp only[Act.eval] at hx;obtain⟨vs,hlen,h⟩:=P8 h
    split at h
    ·rename_i v hv;obtain⟨hcx,h⟩:=h;obtain⟨l,h1,h2,h3⟩:=ih h;have hl2:=OI E.T ht hv hlen (a:=ad.add n) (w:=wr) (hcx.cells hw.ext ho);refine⟨v::l,h1,by simp[h2],?_⟩;have ha:(asAddr (a.tmps.getD p undef)).run C.P wr=.ok (ad.add n) wr:=by rw[hx]; rfl
     simp only[List.mapM_cons,Sem.run_bind,ha,Sem.run_pure,Result.andThen_ok,hl2,h3]
    ·exact h.elim
   ·exact h.elim
theorem AJ{C:UQ}(E:zrs C){sps:List (Nat×Yi)}{f:FuncId}{fn:Func}{body:Code}{args:List Va}{w:Wo}{R:Va->Wo->Prop}(hf:C.P.funcs[f]? = some fn)(hb:fn.body=some body)(hn:fn.ntmps=C.n)(hargs:args.length<=C.n)(hn4:C.n<=4000)(hrd:C.rd=none)(h:zw1 C sps args body fn.results.toList w R):Calls C.P f args.toArray w λe w'=>∃v wv,e=.returned v/\(C.pm=true->wv=w/\Q0 [] w w')/\(C.pm=true->R v wv)/\(C.pm=false->R v w'):=by
 refine(callsIn_wide (n:=0)).1 (callsIn_of_wp hf hb trivial ?_);have hF:Tk C.rd=Fence.wide:=by rw[hrd]; rfl
 rw[<-hF]
 have B85:O6 C.n (EC args) { tmps:=args.toArray++Array.replicate (fn.ntmps-args.toArray.size) undef,defers:=[] }:=by
  have AL2:∀i sv,(EC args).F.get i=some sv->∃v,args[i]? = some v/\sv=.un (.v v):=λi sv hs=>by
   obtain⟨v,h1,_,h3⟩:=zjp Qo hs;exact⟨v,by simpa using h1,h3⟩
  refine⟨by simp[hn]; omega,λi x hx=>?_,λi r pc x hx=>?_⟩
  ·obtain⟨v,h1,h2⟩:=AL2 i _ hx;cases h2;show _=v;rw[Array.getD_eq_getD_getElem?,Array.getElem?_append_left (by simpa using (I8.1 h1).1)];simp[h1]
  ·obtain⟨v,h1,h2⟩:=AL2 i _ hx;cases h2
 have uJ:Zn (EC args) w w:=⟨Q0.refl _ _,λid t cs hl=>by simp[EC] at hl,rfl,List.nodup_nil,λid b _ hb=>by simp[EC] at hb⟩;refine Yp E body (EC args) w w _ _ _ h B85 uJ ⟨Ic _,λid aS=>by cases aS⟩ λe S w' a' Wh hK he=>?_
 have fin:zov C S w' fn.results.toList (λl=>bif C.pm then R (zrk l) w' else ∀wr,Q0 S.bs w' wr->R (zrk l) wr)->a'.defers=[]/\∃v,(results fn a'.tmps).run C.P Wh=.ok v Wh/\∃v' wv,Ending.returned v=.returned v'/\(C.pm=true->wv=w/\Q0 [] w Wh)/\(C.pm=true->R v' wv)/\(C.pm=false->R v' Wh):=λhr=>by
  obtain⟨l,h1,h2,h3⟩:=zyt E he.fit he.rel hr;refine⟨he.fra.1,zrk l,?_,zrk l,w',rfl,λhp=>?_,λhp=>?_,λhp=>?_⟩
  ·simp only[results,Sem.run_bind,Array.mapM_eq_mapM_toList,Sem.run_map];refine(congrArg (λr:Result (List Va)=>(r.andThen λa w'=>Result.ok a.toArray w').andThen λvs w'=>(Pure.pure (if h:vs.size=1 then vs[0] else .tuple vs):Sem Va).run C.P w') h3).trans ?_;simp only[Result.andThen_ok,Sem.run_pure]
   congr 1
   cases l with
   | nil=>rfl
   | cons x r=>
    cases r with
    | nil=>rfl
    | cons y q=>simp[zrk]
  ·obtain⟨p1,p2⟩:=he.pm hp;refine⟨p1,?_⟩;have hx:=he.rel.ext;rw[<-p1];have hbs:S.bs=[]:=by unfold St.bs; rw[p2]; rfl
   rw[hbs] at hx;exact hx
  ·rw[hp] at h1; exact h1
  ·rw[hp] at h1; exact h1 Wh he.rel.ext
 cases e with
 | normal=>exact fin hK
 | ret=>exact fin hK
 | _=>exact hK.elim
theorem zq3{C:UQ}(E:zrs C){sps:List (Nat×Yi)}{f:FuncId}{fn:Func}{body:Code}{args:List Va}{w:Wo}{bs:List Nat}{r:Va}(hf:C.P.funcs[f]? = some fn)(hb:fn.body=some body)(hn:fn.ntmps=C.n)(hargs:args.length<=C.n)(hn4:C.n<=4000)(jS:C.pm=true)(hrd:C.rd=none)(h:∀wr,Q0 bs w wr->zw1 C sps args body fn.results.toList wr λv _=>v=r):Q2 bs C.P f args.toArray w r:=λwr hx=>
 (AJ E hf hb hn hargs hn4 hrd (h wr hx)).mono λe w' ⟨v,_,he,h1,h2,_⟩=>by
  have:=h2 jS;subst this;exact⟨he,(h1 jS).2⟩
theorem zt7{C:UQ}(E:zrs C){sps:List (Nat×Yi)}{f:FuncId}{fn:Func}{body:Code}{args:List Va}{w:Wo}{R:Va->Wo->Prop}(hf:C.P.funcs[f]? = some fn)(hb:fn.body=some body)(hn:fn.ntmps=C.n)(hargs:args.length<=C.n)(hn4:C.n<=4000)(jS:C.pm=false)(hrd:C.rd=none)(h:zw1 C sps args body fn.results.toList w R):Calls C.P f args.toArray w λe w'=>∃v,e=.returned v/\R v w':=
 (AJ E hf hb hn hargs hn4 hrd h).mono λe w' ⟨v,_,he,_,_,h3⟩=>⟨v,he,h3 jS⟩
theorem Tt{w:Wo}{b:Nat}{cs:Array Va}{t:TypeId}{fz:Nat×Nat}(h:w.heap[b]? = some (.cells cs t fz))(k:Nat):w.cell? ⟨b,k,none⟩=cs[k]? := by
 simp[World.cell?,h]
theorem JG{w:Wo}{b:Nat}{o:Obj}(h:w.heap[b]? = some o):b<w.heap.size:=by
 rcases Nat.lt_or_ge b w.heap.size with hl | hl
 ·exact hl
 ·rw[Array.getElem?_eq_none_iff.2 hl] at h; cases h
theorem U2{bs:List Nat}{w:Wo}{b k0:Nat}{cs:List Va}{t:TypeId}{fz:Nat×Nat}(h:w.heap[b]? = some (.cells cs.toArray t fz))(hb:b∉bs){k:Nat}{v:Va}(hk:cs[k0+k]? = some v):JA bs w (some ⟨b,k0,none⟩) k v:=
 ⟨⟨b,k0,none⟩,rfl,hb,by rw[Addr.add_lit,Tt h]; simpa using hk⟩
theorem YZ{bs:List Nat}{w:Wo}{o:OA}{n:Nat}{v:Va}(h:JA bs w o n v):Q1 bs w o n [v]:=h
theorem M6{bs:List Nat}{w:Wo}{o:OA}:∀{n:Nat} {vs:List Va},(∀j v,vs[j]? = some v->JA bs w o (n+j) v)->Q1 bs w o n vs
 | _,[],_=>trivial
 | n,[v],h=>h 0 v rfl
 | n,v::u::r,h=>⟨h 0 v rfl,M6 (vs:=u::r) λj x hj=>by
   have:=h (j+1) x (by simpa using hj);rw[show n+1+j=n+(j+1) by omega]; exact this⟩
theorem VQ{bs:List Nat}{w:Wo}{b k0:Nat}{cs:List Va}{t:TypeId}{fz:Nat×Nat}(h:w.heap[b]? = some (.cells cs.toArray t fz))(hb:b∉bs){n:Nat}{vs:List Va}(hk:∀j v,vs[j]? = some v->cs[k0+(n+j)]? = some v):Q1 bs w (some ⟨b,k0,none⟩) n vs:=
 M6 λj v hj=>U2 h hb (hk j v hj)
theorem Q1.ext{bs:List Nat}{w w':Wo}{o:OA}{n:Nat}{vs:List Va}(h:Q1 bs w o n vs)(hx:Q0 bs w w'):Q1 bs w' o n vs:=
 M6 λj v hj=>(h.get j v hj).ext hx
theorem Q1.less{bs cs:List Nat}{w:Wo}{o:OA}{n:Nat}{vs:List Va}(h:Q1 bs w o n vs)(hs:∀x∈cs,x∈bs):Q1 cs w o n vs:=
 M6 λj v hj=>(h.get j v hj).less hs
theorem QB{bs:List Nat}{w w':Wo}{b:Nat}{o:Obj}(h:w.heap[b]? = some o)(hx:Q0 bs w w')(hb:b∉bs):w'.heap[b]? = some o:=by
 rw[hx.block b (JG h) hb]; exact h
theorem M3{w:Wo}{b k n:Nat}{cs vs:List Va}{t:TypeId}{fz:Nat×Nat}(h:w.heap[b]? = some (.cells cs.toArray t fz)):(R9 w (some ⟨b,k,none⟩) n vs).heap[b]? = some (.cells (zmt cs (k+n) vs).toArray t fz):=F6 vs w b k n cs t fz h
theorem zo9(bs:List Nat)(a:Addr):∀(vs:List Va) (w:Wo) (n:Nat),a.block∈bs->Q0 bs w (dL w a n vs)
 | [],w,n,_=>Q0.refl _ _
 | v::r,w,n,h=>((Q0.refl bs w).setCell (p:=a.add n) (.inr (by rw[ZC]; exact h)) v).trans (zo9 bs a r _ _ h)
theorem JS{bs:List Nat}{w:Wo}{o:OA}{n:Nat}{vs:List Va}(h:∀a,o=some a->a.block∈bs):Q0 bs w (R9 w o n vs):=by
 cases o with
 | none=>exact Q0.refl _ _
 | some a=>exact zo9 bs a vs w n (h a rfl)
theorem M5{bs:List Nat}{w:Wo}{b k0 n k:Nat}{cs:List Va}{t:TypeId}(h:w.heap[b]? = some (.cells cs.toArray t (0,0)))(hb:b∉bs)(hk:k0+(n+k)<=cs.length):Xm bs w (some ⟨b,k0,none⟩) n k:=
 ⟨⟨b,k0,none⟩,rfl,hb,λj h1 h2=>by
  rw[Addr.add_lit,Tt h];refine⟨⟨cs[k0+j]' Qo,Qs⟩,?_⟩;simp[World.frozen?,h]⟩
theorem Q0.fresh{bs cs:List Nat}{w0 w w':Wo}(h:Q0 bs w0 w)(k:Q0 cs w w')(hc:∀x∈cs,w0.heap.size<=x\/x∈bs):Q0 bs w0 w':=
 ⟨k.os.trans h.os,k.tape.trans h.tape,k.output.trans h.output,IB h.size k.size,λi hi hb=>(k.block i (Nat.lt_of_lt_of_le hi h.size) (λhx=>by
  rcases hc i hx with h1 | h1
  ·omega
  ·exact hb h1)).trans (h.block i hi hb)⟩
theorem O1{bs:List Nat}{P:Program}{f:FuncId}{args:Array Va}{w:Wo}{v:Va}(h:∀wr,Q0 bs w wr->Calls P f args wr λe w'=>∃v0,e=.returned v0/\(v0=v/\Q0 [] wr w')):Q2 bs P f args w v:=
 λwr hx=>(h wr hx).mono λe w' ⟨v0,he,hv,dZ⟩=>⟨by rw[he,hv],dZ⟩
theorem HU{w:Wo}{o:OA}{n k:Nat}{vs:List Va}:R9 w (o.map (·.add n)) k vs=R9 w o (n+k) vs:=by
 cases o with
 | none=>rfl
 | some a=>
  simp only[Option.map_some,R9]
  induction vs generalizing w k with
  | nil=>rfl
  | cons v r ih=>
   simp only[dL];rw[Uv,ih];rfl
theorem zbp{bs:List Nat}{w:Wo}{o:OA}{n k m:Nat}:Xm bs w (o.map (·.add n)) k m↔Xm bs w o (n+k) m:=by
 cases o with
 | none=>
  constructor <;> (rintro⟨a,ha,_⟩; cases ha)
 | some p=>
  constructor
  ·rintro⟨a,ha,hb,hc⟩;simp only[Option.map_some,I0] at ha;subst ha;refine⟨p,rfl,by rwa[ZC] at hb,λj h1 h2=>?_⟩;have:=hc (j-n) Qo Qo
   rwa[Uv,show n+(j-n)=j by omega] at this
  ·rintro⟨a,ha,hb,hc⟩;cases ha;refine⟨p.add n,rfl,by rwa[ZC],λj h1 h2=>?_⟩;rw[Uv];exact hc (n+j) Qo Qo
structure LR where
 floor:Int
 on:Bool
 v:Int
 w:Int
 sum:Int
 deriving DecidableEq,Inhabited
structure Ve where
 IX:Int
 RD:Int
 Sl:Int
 locals:List Int
 Ry:List Bool
 deriving DecidableEq,Inhabited
structure ZX where
 used:Bool
 parent:Int
 name:ByteArray
 weight:Int
 IE:Int
 period:Int
 next:Int
 sum:Int
 IP:Ve
 IF:List LR
 deriving DecidableEq,Inhabited
structure Lm where
 state:Int
 group:Int
 IZ:Int
 nice:Int
 mask:Int
 v:Int
 sum:Int
 used:Int
 load:Int
 deriving DecidableEq,Inhabited
structure KI where
 up:Bool
 cur:Int
 WQ:Int
 busy:Int
 idle:Int
 deriving DecidableEq,Inhabited
structure Q8 where
 now:Int
 IE:List KI
 tasks:List Lm
 ID:List ZX
 deriving DecidableEq,Inhabited
structure z5h where
 kind:Int
 oJ:Int
 n:Int
 deriving DecidableEq,Inhabited
def gi{α:Type}[Inhabited α](l:List α)(i:Int):α:=l.getD i.toNat default
theorem zxb{α:Type}[Inhabited α](l:List α)(k:Nat):gi l (k:Int)=l.getD k default:=rfl
theorem JX{α:Type}[Inhabited α]{l:List α}{k:Nat}(h:k<l.length):gi l (k:Int)=l[k]:=by
 simp[zxb,List.getD_eq_getElem?_getD,h]
theorem z0p{α:Type}[Inhabited α]{l:List α}{k:Nat}(h:k<l.length):l[k]? = some (gi l (k:Int)):=by
 rw[JX h]; simp[h]
theorem NN{α:Type}[Inhabited α]{l:List α}{i:Int}(h0:0<=i)(h1:i<l.length):gi l i∈l:=by
 obtain⟨k,rfl⟩:=Int.eq_ofNat_of_zero_le h0;have:k<l.length:=Qo;rw[JX this]; exact List.getElem_mem this
theorem zqe{α:Type}[Inhabited α]{l m:List α}(hl:l.length=m.length)(h:∀k:Nat,k<l.length->gi l (k:Int)=gi m (k:Int)):l=m:=by
 refine List.ext_getElem hl λk h1 h2=>?_
 have:=h k h1
 rwa[JX h1,JX h2] at this
theorem QM{α:Type}[Inhabited α](l:List α)(x:α){i j:Int}(h0:0<=i)(hi:i<(l.length:Int))(hj:0<=j):gi (l.set i.toNat x) j=if i=j then x else gi l j:=by
 obtain⟨k,rfl⟩:=Int.eq_ofNat_of_zero_le h0;obtain⟨q,rfl⟩:=Int.eq_ofNat_of_zero_le hj;simp only[zxb,Ig,List.getD_eq_getElem?_getD,List.getElem?_set]
 by_cases hkq:k=q
 ·subst hkq;have:k<l.length:=Qo;simp[this]
 ·have:¬((k:Int)=q):=Qo;simp[hkq,this]
def Po(s:LR):List Va:=[I s.floor,.bool s.on,I s.v,I s.w,I s.sum]
def XS(t:Lm):List Va:=[I t.state,I t.group,I t.IZ,I t.nice,I t.mask,I t.v,I t.sum,I t.used,I t.load]
def Ge(c:KI):List Va:=[.bool c.up,I c.cur,I c.WQ,I c.busy,I c.idle]
def z4r(o:z5h):List Va:=[I o.kind,I o.oJ,I o.n]
def Jz(n:Int):List Va:=[I n]
def MY(b:Bool):List Va:=[.bool b]
structure MG where
 lO:OA
 lC:Nat
 dO:OA
 dC:Nat
 sO:OA
 sC:Nat
 deriving Inhabited
def YJ(g:ZX)(m:MG):List Va:=[.bool g.used,I g.parent,.string g.name,I g.weight,I g.IE,I g.period,I g.next,I g.sum,
 I g.IP.IX,I g.IP.RD,I g.IP.Sl,.slice m.lO g.IP.locals.length m.lC,.slice m.dO g.IP.Ry.length m.dC,.slice m.sO g.IF.length m.sC]
def Rd{α:Type}[Inhabited α](enc:α->List Va)(z:Nat)(bs:List Nat)(w:Wo)(o:OA)(l:List α):Prop:=
 ∀i:Int,0<=i->i<(l.length:Int)->Q1 bs w o (Int.toNat i*z) (enc (gi l i))
theorem Rd.ext{α:Type}[Inhabited α]{enc:α->List Va}{z:Nat}{bs:List Nat}{w w':Wo}{o:OA}{l:List α}(h:Rd enc z bs w o l)(hx:Q0 bs w w'):Rd enc z bs w' o l:=
 λi h0 h1=>(h i h0 h1).ext hx
theorem Rd.less{α:Type}[Inhabited α]{enc:α->List Va}{z:Nat}{bs cs:List Nat}{w:Wo}{o:OA}{l:List α}(h:Rd enc z bs w o l)(hs:∀x∈cs,x∈bs):Rd enc z cs w o l:=
 λi h0 h1=>(h i h0 h1).less hs
theorem JA.wide{bs cs:List Nat}{w:Wo}{o:OA}{n:Nat}{v:Va}(h:JA bs w o n v)(hs:∀x∈cs,x∈bs\/w.heap.size<=x):JA cs w o n v:=by
 obtain⟨a,ho,hb,hc⟩:=h;refine⟨a,ho,λhx=>?_,hc⟩;have IN:=World.block_lt_of_cell? w _ hc;rw[ZC] at IN;rcases hs _ hx with h1 | h1
 ·exact hb h1
 ·omega
theorem Q1.wide{bs cs:List Nat}{w:Wo}{o:OA}{n:Nat}{vs:List Va}(h:Q1 bs w o n vs)(hs:∀x∈cs,x∈bs\/w.heap.size<=x):Q1 cs w o n vs:=
 M6 λj v hj=>(h.get j v hj).wide hs
theorem Rd.wide{α:Type}[Inhabited α]{enc:α->List Va}{z:Nat}{bs cs:List Nat}{w:Wo}{o:OA}{l:List α}(h:Rd enc z bs w o l)(hs:∀x∈cs,x∈bs\/w.heap.size<=x):Rd enc z cs w o l:=
 λi h0 h1=>(h i h0 h1).wide hs
theorem Q1.some{bs:List Nat}{w:Wo}{o:OA}{n:Nat}{v:Va}{r:List Va}(h:Q1 bs w o n (v::r)):o.isSome=true:=by
 obtain⟨a,rfl,_,_⟩:=h.get 0 v rfl;rfl
theorem Rd.ix{α:Type}[Inhabited α]{enc:α->List Va}{z:Nat}{bs:List Nat}{w:Wo}{o:OA}{l:List α}(h:Rd enc z bs w o l)(he:∀x,∃v r,enc x=v::r){i:Int}(h0:0<=i)(h1:i<(l.length:Int)):Ix o l.length i:=by
 obtain⟨v,r,e⟩:=he (gi l i);have:=h i h0 h1;rw[e] at this;exact⟨h0,h1,this.some⟩
theorem X0(x:LR):∃v r,Po x=v::r:=⟨_,_,rfl⟩
theorem QF(x:Lm):∃v r,XS x=v::r:=⟨_,_,rfl⟩
theorem Y6(x:KI):∃v r,Ge x=v::r:=⟨_,_,rfl⟩
theorem XV(x:Int):∃v r,Jz x=v::r:=⟨_,_,rfl⟩
theorem Lv(x:Bool):∃v r,MY x=v::r:=⟨_,_,rfl⟩
abbrev zna:=Rd Po 5
abbrev zrw:=Rd XS 9
abbrev z4i:=Rd Ge 5
abbrev zm9:=Rd Jz 1
abbrev zv3:=Rd MY 1
structure Lp (bs:List Nat) (w:Wo) (o:OA) (gs:List ZX) (ms:Nat->MG):Prop where
 cells:∀i:Int,0<=i->i<(gs.length:Int)->Q1 bs w o (Int.toNat i*14) (YJ (gi gs i) (ms i.toNat))
 locals:∀i:Int,0<=i->i<(gs.length:Int)->zm9 bs w (ms i.toNat).lO (gi gs i).IP.locals
 Ry:∀i:Int,0<=i->i<(gs.length:Int)->zv3 bs w (ms i.toNat).dO (gi gs i).IP.Ry
 IF:∀i:Int,0<=i->i<(gs.length:Int)->zna bs w (ms i.toNat).sO (gi gs i).IF
theorem Lp.ext{bs:List Nat}{w w':Wo}{o:OA}{gs:List ZX}{ms:Nat->MG}(h:Lp bs w o gs ms)(hx:Q0 bs w w'):Lp bs w' o gs ms:=
 ⟨λi a b=>(h.cells i a b).ext hx,λi a b=>(h.locals i a b).ext hx,λi a b=>(h.Ry i a b).ext hx,λi a b=>(h.IF i a b).ext hx⟩
theorem Lp.less{bs cs:List Nat}{w:Wo}{o:OA}{gs:List ZX}{ms:Nat->MG}(h:Lp bs w o gs ms)(hs:∀x∈cs,x∈bs):Lp cs w o gs ms:=
 ⟨λi a b=>(h.cells i a b).less hs,λi a b=>(h.locals i a b).less hs,λi a b=>(h.Ry i a b).less hs,λi a b=>(h.IF i a b).less hs⟩
theorem Lp.wide{bs cs:List Nat}{w:Wo}{o:OA}{gs:List ZX}{ms:Nat->MG}(h:Lp bs w o gs ms)(hs:∀x∈cs,x∈bs\/w.heap.size<=x):Lp cs w o gs ms:=
 ⟨λi a b=>(h.cells i a b).wide hs,λi a b=>(h.locals i a b).wide hs,λi a b=>(h.Ry i a b).wide hs,λi a b=>(h.IF i a b).wide hs⟩
theorem Lp.ix{bs:List Nat}{w:Wo}{o:OA}{gs:List ZX}{ms:Nat->MG}(h:Lp bs w o gs ms){i:Int}(h0:0<=i)(h1:i<(gs.length:Int)):Ix o gs.length i:=
 ⟨h0,h1,(h.cells i h0 h1).some⟩
def ZE(p:Nat)(vs:List Va):Int:=match vs[p]? with
 | some (.int _ i)=>i
 | _=>0
def zt3(I:Nat->Prop)(vs:List Va):Prop:=∃k:Nat,I k/\vs=[.int .i64 (k:Int)]
def Xy(n:Nat)(p:Nat)(vs:List Va):Nat:=((n:Int)+1-ZE p vs).toNat
theorem YV{B:(List Va->Prop)->(List Va->Nat)->Int->Prop}(n:Nat){si:Int}(s:Nat)(hs:si=s)(I:Nat->Prop)(h0:I s)(hB:∀k:Nat,I k->B (zt3 I) (Xy n 0) (k:Int)) :
  ∃(IL:List Va->Prop) (mu:List Va->Nat),IL [.int .i64 si]/\∀i:Int,IL [.int .i64 i]->B IL mu i:=by
 refine⟨zt3 I,Xy n 0,⟨s,h0,by rw[hs]⟩,?_⟩;rintro i ⟨k,hI,he⟩;simp only[I4,I5,true_and,and_true] at he;subst he;exact hB k hI
theorem Qu{n k:Nat}{I:Nat->Prop}(hk:k<n)(hI:I (k+1)):zt3 I [.int .i64 ((k:Int)+1)]/\Xy n 0 [.int .i64 ((k:Int)+1)]<Xy n 0 [.int .i64 (k:Int)]:=by
 refine⟨⟨k+1,hI,Qs⟩,?_⟩;simp only[Xy,ZE,Ie];omega
def zws(I:Nat->Wo->Prop)(vs:List Va)(w:Wo):Prop:=∃k:Nat,I k w/\vs=[.int .i64 (k:Int)]
def Zt(n:Nat)(p:Nat)(vs:List Va)(_:Wo):Nat:=Xy n p vs
theorem XJ{B:(List Va->Wo->Prop)->(List Va->Wo->Nat)->Int->Wo->Prop}{bs L:List Nat}{wv:Wo}(n:Nat){si:Int}(s:Nat)(hs:si=s)(I:Nat->Wo->Prop)(h0:∀wr,Q0 bs wv wr->(∀bq∈L,bq<wr.heap.size)->I s wr)(hB:∀(k:Nat) (w1:Wo),(∀bq∈L,bq<w1.heap.size)->I k w1->B (zws I) (Zt n 0) (k:Int) w1) :
  ∃(IL:List Va->Wo->Prop) (mu:List Va->Wo->Nat),(∀wr,Q0 bs wv wr->(∀bq∈L,bq<wr.heap.size)->IL [.int .i64 si] wr)/\∀(i:Int) (w1:Wo),(∀bq∈L,bq<w1.heap.size)->IL [.int .i64 i] w1->B IL mu i w1:=by
 refine⟨zws I,Zt n 0,λwr hx hq=>⟨s,h0 wr hx hq,by rw[hs]⟩,?_⟩;rintro i w1 hq ⟨k,hI,he⟩;simp only[I4,I5,true_and,and_true] at he;subst he;exact hB k w1 hq hI
theorem Qp{n k:Nat}{I:Nat->Wo->Prop}{wr w1:Wo}(hk:k<n)(hI:I (k+1) wr):zws I [.int .i64 ((k:Int)+1)] wr/\Zt n 0 [.int .i64 ((k:Int)+1)] wr<Zt n 0 [.int .i64 (k:Int)] w1:=by
 refine⟨⟨k+1,hI,Qs⟩,?_⟩;simp only[Zt,Xy,ZE,Ie];omega
def zwr(I:Int->Nat->Prop)(vs:List Va):Prop:=∃(x:Int) (k:Nat),I x k/\vs=[.int .i64 x,.int .i64 (k:Int)]
theorem TX{B:(List Va->Prop)->(List Va->Nat)->Int->Int->Prop}(n:Nat){xi si:Int}(s:Nat)(hs:si=s)(I:Int->Nat->Prop)(h0:I xi s)(hB:∀(x:Int) (k:Nat),I x k->B (zwr I) (Xy n 1) x (k:Int)) :
  ∃(IL:List Va->Prop) (mu:List Va->Nat),IL [.int .i64 xi,.int .i64 si]/\∀(x i:Int),IL [.int .i64 x,.int .i64 i]->B IL mu x i:=by
 refine⟨zwr I,Xy n 1,⟨xi,s,h0,by rw[hs]⟩,?_⟩;rintro x i ⟨x',k,hI,he⟩;simp only[I4,I5,true_and,and_true] at he;obtain⟨rfl,rfl⟩:=he;exact hB x k hI
theorem QH{n k:Nat}{I:Int->Nat->Prop}{x x':Int}(hk:k<n)(hI:I x' (k+1)):zwr I [.int .i64 x',.int .i64 ((k:Int)+1)]/\Xy n 1 [.int .i64 x',.int .i64 ((k:Int)+1)]<Xy n 1 [.int .i64 x,.int .i64 (k:Int)]:=by
 refine⟨⟨x',k+1,hI,Qs⟩,?_⟩;simp only[Xy,ZE,Ie,List.getElem?_cons_succ];omega
theorem XD:maxLen<=9223372036854775807:=by simp[maxLen]
theorem zlw{k n:Nat}(h:(k:Int)<(n:Int))(hn:n<=maxLen):Ql .i64 ((k:Int)+1):=by
 have:=XD;exact⟨Qo,Qo⟩
end Go.Proofs.YtnclplgaicdapaaGreatDoor
