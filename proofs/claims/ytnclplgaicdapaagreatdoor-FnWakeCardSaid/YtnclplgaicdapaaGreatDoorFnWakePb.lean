/- Part 2 of what the law FnWake needs. -/
import Derived.Test.YtnclplgaicdapaaGreatDoorFnWakePa
import Derived.RangeFuncRecord
import Derived.OrdersIn
import Derived.TacticsIn
import Derived.Scope
set_option linter.unusedVariables false
set_option linter.unusedSimpArgs false
set_option maxRecDepth 100000
set_option maxHeartbeats 8000000
namespace Go.Proofs.YtnclplgaicdapaaGreatDoor
open Go.RowKit
def UX(r:Option Nat):Fence:={ Fence.wide with round:=r }
theorem zds(r:Option Nat)(n:Nat):(UX r).room n:=λd h=>by simp[UX,Fence.wide] at h
theorem Mx{r:Option Nat}{n:Nat}{P:Program}{f:FuncId}{args:Array Va}{w:Wo}{R:Ending->Wo->Prop}(h:Calls P f args w R):CallsIn (UX r) n P f args w R:=(callsIn_wide (n:=n)).2 h
theorem zrz{r:Option Nat}{n:Nat}{P:Program}{f:FuncId}{args:Array Va}{w:Wo}{R:Ending->Wo->Prop}(h:CallsIn (UX r) n P f args w R):Calls P f args w R:=(callsIn_wide (n:=n)).1 h
theorem zjb{r:Option Nat}{n m:Nat}{P:Program}{l:Nat}{f:FuncId}{tmps:Array Va}{asg body:Code}{w:Wo}{R:Ending->Wo->Prop}(h:RoundIn Fence.wide n P l f tmps asg body w R):RoundIn (UX r) m P l f tmps asg body w R:=
 ⟨trivial,λc cs _=>h.2 c cs (room_wide _)⟩
theorem zwa{r:Option Nat}{n:Nat}{P:Program}{row:String}{args:Array Va}{w:Wo}{R:Va->Wo->Prop}(h:Rows P row args w R):RowsIn (UX r) n P row args w R:=λc cs _=>by
 obtain⟨v,w',hr,hs⟩:=h c cs;exact⟨v,w',hr,(stepsIn_wide (P:=P)).2 hs⟩
theorem zrc{r:Option Nat}{P:Program}{o:Oper}{a:Act}{w:Wo}{next:Act->Wo->Prop}{Q:Exit->Act->Wo->Prop}(hd:∀c,o.op≠.defer c)(h:o.uponIn (UX r) 0 P a next Q ((execOp a.eval o).run P w)):o.wpIn (UX r) 0 P a w next Q:=
 ⟨λ_ _=>trivial,by rw[Oper.semAt_eq _ _ _ hd]; exact h⟩
theorem z2u{r:Option Nat}{P:Program}{o:Oper}{a:Act}{w:Wo}{next:Act->Wo->Prop}{Q:Exit->Act->Wo->Prop}(hd:∀c,o.op≠.defer c)(h:o.wpIn (UX r) 0 P a w next Q):o.uponIn (UX r) 0 P a next Q ((execOp a.eval o).run P w):=by
 have:=h.2;rw[Oper.semAt_eq _ _ _ hd] at this;exact this
theorem zjy{P:Program}{o:Oper}{ρ:Operand->Va}{c:Call}(hc:o.op=.defer c)(w:Wo):(∃d w',(execOp ρ o).run P w=.ok (.defer d) w')\/∃x w',(execOp ρ o).run P w=.halt x w':=by
 simp only[execOp,hc,Sem.run_bind]
 cases hr:(resolve ρ c o.type).run P w with
 | ok d w'=>exact .inl ⟨d,w',by simp[Result.andThen]⟩
 | halt x w'=>exact .inr ⟨x,w',by simp[Result.andThen]⟩
theorem zoe{P:Program}{C:Wo->Prop}{o:Oper}{ρ:Operand->Va}{w:Wo}{v:Va}(h:Oper.quietUpon P C w v ((execOp ρ o).run P w)):∀c,o.op≠.defer c:=λc hc=>by
 rcases zjy (P:=P) (ρ:=ρ) hc w with ⟨d,w',hr⟩ | ⟨x,w',hr⟩ <;> (rw[hr] at h; exact h)
theorem Nb{r:Option Nat}{P:Program}{C:Wo->Prop}{o:Oper}{a:Act}{K:Act->Prop}{K':Act->Wo->Prop}{Q':Exit->Act->Wo->Prop}{w:Wo}(hw:C w)(h:∀a w',C w'->K a->K' a w')(hh:o.quiet P a C K):o.wpIn (UX r) 0 P a w K' Q':=by
 obtain⟨v,h1,h2⟩:=hh;have h3:=h1 w hw;refine zrc (zoe h3) ?_;unfold Oper.quietAt at h3;generalize (execOp a.eval o).run P w=res at *
 cases res with
 | ok n w'=>
  cases n <;> simp only[Oper.quietUpon] at h3 <;> simp only[Oper.uponIn]
  case value u=>
   obtain⟨e1,e2⟩:=h3;rw[e1,e2];exact h _ _ hw h2
  case skip=>
   obtain⟨e1,e2⟩:=h3;rw[e1,<-e2];exact h _ _ hw h2
  case enter f args=>
   obtain⟨e1,e2⟩:=h3;rw[e1];exact⟨λhx=>(by simp[UX,Fence.wide] at hx),Mx (e2.mono λe kG ⟨he,hc⟩=>by subst he; exact h _ _ hc h2)⟩
 | halt x w'=>exact h3.elim
section
variable {P:Program}{b:Frame}{a:Act}{k:List Item}{cs:List Frame}{w:Wo}
theorem Tp{c:Code}:step P (lone (b.atR a (.code (.scope c)::k)) cs w)=.next (lone (b.atR a (.code c :: .inScope c::k)) cs w):=
 step_lone_go (by simp[stepG,stepG.exec,Frame.atR])
theorem ziv{c:Code}:step P (lone (b.atR a (.inScope c::k)) cs w)=.next (lone (b.atR a k) cs w):=
 step_lone_go (by simp[stepG,stepG.exec,Frame.atR])
end
section
variable {F:Fence}{n:Nat}{P:Program}{Q:Exit->Act->Wo->Prop}{a:Act}{w:Wo}
theorem E1{c:Code}(h:c.wpIn F n P (Exit.noGoto Q) a w):(Code.scope c).wpIn F n P Q a w:=by
 intro b k cs hro hb hr;have h0:(lone (b.atR a (.code (.scope c)::k)) cs w).fenced P F:=fenced_calm hb hr rfl;obtain⟨e,a₁,w₁,hq,wQ⟩:=h b (.inScope c::k) cs hro hb hr
 cases e with
 | normal=>exact⟨.normal,a₁,w₁,hq,.head h0 Tp (StepsIn.trans wQ (.one (fenced_calm hb hr rfl) ziv))⟩
 | exit id=>exact⟨.exit id,a₁,w₁,hq,λk' hk=>.head h0 Tp (wQ.1 k' (by simp[exitTo,hk])),λhr' hk=>(let ⟨k₁,h1,h2⟩:=wQ.2 hr' (by simp[exitTo,hk]); ⟨k₁,h1,.head h0 Tp h2⟩)⟩
 | goto l=>exact hq.elim
 | ret=>exact⟨_,a₁,w₁,hq,.of_steps (.one h0 Tp) wQ⟩
 | panic ch=>exact⟨_,a₁,w₁,hq,.of_steps (.one h0 Tp) wQ⟩
 | outgrown=>exact⟨_,a₁,w₁,hq,.of_steps (.one h0 Tp) wQ⟩
theorem Na{c:Code}(I:Nat->Act->Wo->Prop){m:Nat}(h₀:I m a w)(round:∀m a w,I m a w->c.wpIn F n P (Exit.then (λa' w'=>∃j,j<m/\I j a' w') Q) a w):(Code.loop c).wpIn F n P Q a w:=by
 intro b k cs hro hb hr
 have key:∀m a w,I m a w->∃e a' w',Q e a' w'/\ArrivesIn (Machine.fenced P F) P (lone (b.atR a (.code c :: .inLoop c::k)) cs w) b k cs e a' w':=by
  intro m
  induction m using Nat.strongRecOn with
  | _ m ih=>
   intro a w hI;obtain⟨e,a₁,w₁,hq,wQ⟩:=round m a w hI b (.inLoop c::k) cs hro hb hr
   cases e with
   | normal=>
    obtain⟨j,IT,hI₁⟩:=hq;obtain⟨e₂,a₂,w₂,hq₂,harr₂⟩:=ih j IT a₁ w₁ hI₁;exact⟨e₂,a₂,w₂,hq₂,.of_steps (StepsIn.trans wQ (.one (fenced_calm hb hr rfl) stepR_inLoop)) harr₂⟩
   | exit id=>exact⟨_,a₁,w₁,hq,.pass (x:=.inLoop c) rfl (λ_ _=>.inl Qs) wQ⟩
   | goto l=>exact⟨_,a₁,w₁,hq,.pass (x:=.inLoop c) rfl (λ_ _=>.inl Qs) wQ⟩
   | ret=>exact⟨_,a₁,w₁,hq,.pass (x:=.inLoop c) rfl (λ_ _=>.inl Qs) wQ⟩
   | panic ch=>exact⟨_,a₁,w₁,hq,.pass (x:=.inLoop c) rfl (λ_ _=>.inl Qs) wQ⟩
   | outgrown=>exact⟨_,a₁,w₁,hq,.pass (x:=.inLoop c) rfl (λ_ _=>.inl Qs) wQ⟩
 obtain⟨e,a',w',hq,wQ⟩:=key m a w h₀;exact⟨e,a',w',hq,.of_steps (.one (fenced_calm hb hr rfl) stepR_loop) wQ⟩
end
def zc6(v:Va)(vs:List Va):Sem Next:=do let d <-Deferred.ofValue v vs.toArray; invoke d.target d.args
def z0x(m:String)(v:Va)(vs:List Va):Sem Next:=invoke (.fn (.method m) #[]) (#[v]++vs.toArray)
def Km(P:Program)(v:Va)(vs:List Va)(w:Wo)(R:Ending->Wo->Prop):Prop:=
 (∃(f:FuncId) (as0:Array Va),(zc6 v vs).run P w=.ok (.enter f as0) w/\Calls P f as0 w R) \/
 ∃(l:Nat) (f:FuncId) (tmps:Array Va) (asg body:Code),(zc6 v vs).run P w=.ok (.round l f tmps asg body) w/\RoundIn Fence.wide 0 P l f tmps asg body w R
theorem Km.mono{P:Program}{v:Va}{vs:List Va}{w:Wo}{R R':Ending->Wo->Prop}(h:Km P v vs w R)(hr:∀e w',R e w'->R' e w'):Km P v vs w R':=by
 rcases h with ⟨f,as0,h1,h2⟩ | ⟨l,f,tmps,asg,body,h1,h2⟩
 ·exact .inl ⟨f,as0,h1,h2.mono hr⟩
 ·exact .inr ⟨l,f,tmps,asg,body,h1,h2.mono hr⟩
def zwo(C:Uk)(t:TypeId):Bool:=match C.T t with
 | some { agg:=_,ks:=_,d:=.int _ }=>true
 | _=>false
def Bl(C:Uk):Op->Bool
 | .alloc _ | .box _ _ | .store _ _ _ | .buildSlice _ _ _=>true
 | .call { callee:=.value (.func f),args:=_,argTypes:=_ } => !(zpr C.pf f).isSome
 | .call { callee:=.builtin b,args:=_,argTypes:=_ }=>match b with
  | .append | .copy=>true
  | _=>false
 | .call { callee:=.value (.tmp _),args:=_,argTypes:=_ } | .call { callee:=.invoke _ _,args:=_,argTypes:=_ }=>true
 | .makeSlice _ _ _ | .makeMap _ _ | .lookup _ _ _ _ | .mapUpdate _ _ _ _ | .insert _ _ _ _ | .range _ _ | .next _ _=>true
 | .convert s d _ => !(zwo C s&&zwo C d)
 | _=>false
def St.cI(S:St):St:={ S with old:=S.B.length }
def Q9(B:List Nat)(w w':Wo):Prop:=∀b∈B,w'.heap[b]? = w.heap[b]?
def z4u:Builtin->List RK
 | .append=>[.cell .slice]
 | _=>[.cell (.int .i64)]
def zv0(args:Array Operand):Array Bool:=args.map λ| .const _=>true | _=>false
def MB(z:Nat):List (Nat×Operand)->Nat->List Va->Option (List Va)
 | [],_,[]=>some []
 | (i,_)::r,k,v::vs=>bif Nat.beq i k&&Nat.beq v.cells.toList.length z then
   match MB z r (k+1) vs with
   | some l=>some (v.cells.toList++l)
   | none=>none
  else none
 | _,_,_=>none
def ze1(C:Uk)(S:St)(w:Wo)(d:Option Tmp)(t:TypeId)(cells:List Va)(e:Nat->EV)(K:St->Wo->Prop):Prop:=
 ∀b,w.heap.size<=b->Fi C { S with L:=S.L++[(t,cells)],B:=S.B++[b] } d (.un (e S.L.length)) λS'=>K S' w
def Af(C:Uk)(S:St)(w:Wo)(d:Option Tmp)(t:TypeId)(cells:List Va)(e:Nat->EV)(K:St->Wo->Prop):Prop:=
 bif C.pm then False else ∀b w',Q0 S.bs w w'->w.heap.size<=b->w'.heap[b]? = some (Obj.cells cells.toArray t (0,0))->b∉S.B->Fi C S.cI d (.un (e b)) λS'=>K S' w'
def KQ(l:List Nat)(x:Nat):Bool:=l.any λy=>Nat.beq y x
def zmj(C:Uk)(o:Oper):Option (List Operand×List RK×Bool×(List Va->Sem Va)):=
 match o.op with
 | .makeSlice t l c=>some ([l,c],[.cell .slice],false,λ| [x,y]=>Instr.makeSlice t x y | _=>pure undef)
 | .makeMap t none=>some ([],[.cell .map],false,λ_=>Instr.makeMap t none)
 | .makeMap t (some r)=>some ([r],[.cell .map],false,λ| [x]=>Instr.makeMap t (some x) | _=>pure undef)
 | .lookup t x i ok=>match z3y C o.type with
  | some rk=>some ([x,i],rk,false,λ| [a,b]=>Instr.lookup t a b ok | _=>pure undef)
  | none=>none
 | .mapUpdate t m k x=>some ([m,k,x],[],true,λ| [a,b,c]=>do Instr.mapUpdate t a b c; pure undef | _=>pure undef)
 | .insert t m k x=>some ([m,k,x],[],true,λ| [a,b,c]=>do Instr.mapUpdate t a b c; pure undef | _=>pure undef)
 | .range t x=>some ([x],[.cell .ptr],false,λ| [a]=>Instr.range t a | _=>pure undef)
 | .convert s d x=>match z3y C o.type with
  | some rk=>some ([x],rk,false,λ| [a]=>convert s d a | _=>pure undef)
  | none=>none
 | _=>none
theorem zfp{C:Uk}{o:Oper}{xs:List Operand}{rk:List RK}{u:Bool}{f:List Va->Sem Va}(h:zmj C o=some (xs,rk,u,f))(ρ:Operand->Va){P:Program}{w w':Wo}{v:Va}(hr:(f (xs.map ρ)).run P w=.ok v w') :
  (execOp ρ o).run P w=.ok (if u then .skip else .value v) w':=by
 unfold zmj at h
 split at h
 case h_5 t m k x ho=>
  simp only[I0,Prod.mk.injEq] at h;obtain⟨rfl,rfl,rfl,rfl⟩:=h;simp only[List.map_cons,List.map_nil,Sem.run_bind,Sem.run_pure] at hr;simp only[execOp,ho,Sem.run_bind,Sem.run_pure,if_true];generalize (Instr.mapUpdate t (ρ m) (ρ k) (ρ x)).run P w=q at hr ⊢
  cases q <;> simp_all [Result.andThen]
 case h_6 t m k x ho=>
  simp only[I0,Prod.mk.injEq] at h;obtain⟨rfl,rfl,rfl,rfl⟩:=h;simp only[List.map_cons,List.map_nil,Sem.run_bind,Sem.run_pure] at hr;simp only[execOp,ho,Sem.run_bind,Sem.run_pure,if_true];generalize (Instr.mapUpdate t (ρ m) (ρ k) (ρ x)).run P w=q at hr ⊢
  cases q <;> simp_all [Result.andThen]
 all_goals
  (try split at h)
  all_goals first
   | cases h; done
   | (rename_i ho _ _ _
      simp only[I0,Prod.mk.injEq] at h;obtain⟨rfl,rfl,rfl,rfl⟩:=h;simp only[List.map_cons,List.map_nil] at hr;simp[execOp,ho,hr]
      done)
   | (rename_i ho
      simp only[I0,Prod.mk.injEq] at h;obtain⟨rfl,rfl,rfl,rfl⟩:=h;simp only[List.map_cons,List.map_nil] at hr;simp[execOp,ho,hr])
def MZ(w:Wo)(b:Nat)(s:ByteArray)(p:Nat):Wo:={ w with heap:=w.heap.setIfInBounds b (.stringIter s p) }
def z2y(C:Uk)(S:St)(w:Wo)(o:Oper)(pc:List (Nat×Bool))(K:St->Wo->Prop):Prop:=
 match o.op with
 | .alloc t=>match C.T t with
  | some ty=>bif ty.ks.contains .other then False
   else match o.dst with
    | some d=>bif KQ C.wZ d then Af C S w o.dst t (ty.ks.map zv) (λb=>.el (some ⟨b,0,none⟩) 0) K else ze1 C S w o.dst t (ty.ks.map zv) (λi=>.loc i 0) K
    | none=>False
  | none=>False
 | .box t x=>match HB S pc x with
  | some v=>match o.dst with
    | some d=>bif KQ C.wZ d then Af C S w o.dst t v.cells.toList (λb=>.el (some ⟨b,0,none⟩) 0) K else ze1 C S w o.dst t v.cells.toList (λi=>.loc i 0) K
    | none=>False
  | none=>False
 | .buildSlice t n parts=>match C.T t,Ll S pc (parts.toList.map (·.2)) with
  | some { agg:=_,ks:=_,d:=.slice e z },some vs=>match C.T e,MB z parts.toList 0 vs with
   | some _,some cells=>bif Nat.beq n vs.length&&Nat.blt 0 z&&Nat.blt 0 n&&Nat.blt (n*z) 16777216 then
     (match o.dst with
      | some d=>bif KQ C.wZ d then Af C S w o.dst e cells (λb=>.v (.slice (some ⟨b,0,none⟩) n n)) K else ze1 C S w o.dst e cells (λi=>.ls i n) K
      | none=>False)
    else False
   | _,_=>False
  | _,_=>False
 | .store t x y=>match C.T t,zgb S pc x,HB S pc y with
  | some ty,some (.loc id off),some v=>match S.L[id]? with
   | some (t',cs)=>bif Nat.beq v.cells.toList.length ty.ks.length&&Nat.ble (off+v.cells.toList.length) cs.length&&Zk v.cells.toList && !KQ S.lk id then
     K { S with L:=S.L.set id (t',cs.take off++v.cells.toList++cs.drop (off+v.cells.toList.length)) } w
    else False
   | none=>False
  | some ty,some (.le id i m),some v=>match S.L[id]? with
   | some (t',cs)=>bif Nat.beq v.cells.toList.length ty.ks.length&&Nat.beq v.cells.toList.length 1&&Zk [v] && !KQ S.lk id then
     (i.toNat+m<cs.length)/\znj (cs.map z4j) λvs=>cs.set (i.toNat+m) v=vs/\K { S with L:=S.L.set id (t',vs) } w
    else False
   | none=>False
  | some ty,some (.el ob n),some v=>bif Nat.beq v.cells.toList.length ty.ks.length&&Zk v.cells.toList && !C.pm&&Nat.blt 0 ty.ks.length then
    YK S.bs w ob n v.cells.toList.length/\K S (R5 w ob n v.cells.toList)
   else False
  | some ty,some (.v (.pointer ob)),some v=>bif Nat.beq v.cells.toList.length ty.ks.length&&Zk v.cells.toList && !C.pm&&Nat.blt 0 ty.ks.length then
    YK S.bs w ob 0 v.cells.toList.length/\K S (R5 w ob 0 v.cells.toList)
   else False
  | _,_,_=>False
 | .call { callee:=.value (.func f),args:=args,argTypes:=_ }=>match zpr C.ef f,Ll S pc args.toList with
  | some rks,some vs=>bif C.pm then False else ∀wr,Q0 S.bs w wr->(∀b∈S.B,b<wr.heap.size)->JS S wr (zof S pc args.toList)
    (Calls C.P f vs.toArray wr λe w'=>E6 rks λr=>e=.returned r/\Q9 S.B wr w'/\Fi C S.cI o.dst (.un (.v r)) λS'=>K S' w')
  | _,_=>False
 | .call { callee:=.builtin bi,args:=args,argTypes:=ts }=>match Ll S pc args.toList with
  | some vs=>bif C.pm then False else ∀wr,Q0 S.bs w wr->(∀b∈S.B,b<wr.heap.size)->JS S wr (zof S pc args.toList)
    (E6 (z4u bi) λr=>∃w',(builtin bi ts o.type (zv0 args) vs.toArray).run C.P wr=.ok (.value r) w'/\Q9 S.B wr w'/\Fi C S.cI o.dst (.un (.v r)) λS'=>K S' w')
  | none=>False
 | .call { callee:=.value (.tmp t),args:=args,argTypes:=_ }=>match HB S pc (.tmp t),Ll S pc args.toList,z3y C o.type with
  | some v,some vs,some rks=>bif C.pm then False else ∀wr,Q0 S.bs w wr->(∀b∈S.B,b<wr.heap.size)->JS S wr (zof S pc args.toList)
    (Km C.P v vs wr λe w'=>E6 rks λr=>e=.returned r/\Q9 S.B wr w'/\Fi C S.cI o.dst (.un (.v r)) λS'=>K S' w')
  | _,_,_=>False
 | .call { callee:=.invoke rc m,args:=args,argTypes:=_ }=>match HB S pc rc,Ll S pc args.toList,z3y C o.type with
  | some v,some vs,some rks=>bif C.pm then False else ∀wr,Q0 S.bs w wr->(∀b∈S.B,b<wr.heap.size)->JS S wr (zof S pc args.toList)
    (∃(f:FuncId) (as0:Array Va),(z0x m v vs).run C.P wr=.ok (.enter f as0) wr/\Calls C.P f as0 wr λe w'=>E6 rks λr=>e=.returned r/\Q9 S.B wr w'/\Fi C S.cI o.dst (.un (.v r)) λS'=>K S' w')
  | _,_,_=>False
 | .next it true=>match HB S pc it with
  | some (.pointer ob)=>bif C.pm then False else ∀wr,Q0 S.bs w wr->(∀b∈S.B,b<wr.heap.size)->
    ∃(b:Nat) (s:ByteArray) (pos:Nat),ob=some ⟨b,0,none⟩/\b∉S.B/\wr.heap[b]? = some (.stringIter s pos)/\
     (s.size<=pos->Fi C S.cI o.dst (.un (.v (.tuple #[.bool false]))) λS'=>K S' wr)/\
     (pos<s.size->Fi C S.cI o.dst (.un (.v (.tuple #[.bool true,.int .i64 pos,.int .i32 (Utf8.decode s pos).1]))) λS'=>K S' (MZ wr b s (pos+(Utf8.decode s pos).2)))
  | _=>False
 | _=>match zmj C o with
  | some (xs,rk,u,f)=>match Ll S pc xs with
   | some vs=>bif C.pm then False else ∀wr,Q0 S.bs w wr->(∀b∈S.B,b<wr.heap.size)->
     (bif u then (match o.dst with
      | none=>∃w',(f vs).run C.P wr=.ok undef w'/\Q9 S.B wr w'/\K S.cI w'
      | some _=>False)
     else E6 rk λr=>∃w',(f vs).run C.P wr=.ok r w'/\Q9 S.B wr w'/\Fi C S.cI o.dst (.un (.v r)) λS'=>K S' w')
   | none=>False
  | none=>False
structure Ky (S S':St):Prop where
 B:∀(id b:Nat),S.B[id]? = some b->S'.B[id]? = some b
 ty:∀(id:Nat) (t:TypeId) (cs:List Va),S.L[id]? = some (t,cs)->∃mL:List Va,S'.L[id]? = some (t,mL)
 lk:∀id∈S.lk,id∈S'.lk/\S'.L[id]? = S.L[id]?
theorem Ky.refl(S:St):Ky S S:=⟨λ_ _ h=>h,λ_ _ cs h=>⟨cs,h⟩,λ_ h=>⟨h,rfl⟩⟩
theorem Ky.trans{S S' vG:St}(h:Ky S S')(k:Ky S' vG):Ky S vG:=
 ⟨λid b hb=>k.B id b (h.B id b hb),λid t cs hc=>(let ⟨cs1,h1⟩:=h.ty id t cs hc; k.ty id t cs1 h1),λid hi=>⟨(k.lk id (h.lk id hi).1).1,((k.lk id (h.lk id hi).1).2).trans (h.lk id hi).2⟩⟩
theorem Ky.bV{S S':St}(h:Ky S S')(d:Option Tmp)(sv:SV):Ky S (S'.bV d sv):=by
 cases d <;> exact⟨h.B,h.ty,h.lk⟩
theorem Zm.bV{S:St}{w wr:Wo}(h:Zm S w wr)(d:Option Tmp)(sv:SV):Zm (S.bV d sv) w wr:=by
 cases d <;> exact⟨h.ext,h.loc,h.len,h.nM,h.fresh⟩
theorem Lh{l:List Nat}{x:Nat}(h:KQ l x=false):x∉l:=by
 intro hx;have:KQ l x=true:=by simp only[KQ,List.any_eq_true]; exact⟨x,hx,Nat.beq_refl x⟩
 rw[h] at this; cases this
structure Gs (S:St):Prop where
 old:S.old<=S.B.length
 lk:∀id∈S.lk,id<S.L.length
theorem Gs.bV{S:St}(h:Gs S)(d:Option Tmp)(sv:SV):Gs (S.bV d sv):=by
 cases d <;> exact⟨h.old,h.lk⟩
theorem Gs.cI{S:St}(h:Gs S):Gs S.cI:=⟨I7 _,h.lk⟩
theorem Zm.push{S:St}{w wr:Wo}(h:Zm S w wr)(ho:S.old<=S.B.length)(t:TypeId)(cells:List Va) :
  Zm { S with L:=S.L++[(t,cells)],B:=S.B++[wr.heap.size] } w (wr.alloc (.cells cells.toArray t)):=by
 have IT:∀b∈S.B,b<wr.heap.size:=λb hb=>by
  obtain⟨id,aW⟩:=List.getElem?_of_mem hb;have hl:id<S.L.length:=by rw[h.len]; exact(I8.1 aW).1
  obtain⟨b',iO,hh⟩:=h.loc id (S.L[id]).1 (S.L[id]).2 (by rw[Il hl]);rw[aW] at iO; cases iO;exact zbr hh
 have hbs:(S.B++[wr.heap.size]).take S.old=S.B.take S.old:=List.take_append_of_le_length ho;refine⟨?_,λid t' cs hl=>?_,by simp[h.len],?_,λid b aW hb=>?_⟩
 ·show Q0 ((S.B++[wr.heap.size]).take S.old) w _;rw[hbs]; exact h.ext.alloc _
 ·by_cases hi:id<S.L.length
  ·have hl':S.L[id]? = some (t',cs):=by rw[<-hl]; exact(Ip hi).symm
   obtain⟨b,hb,hh⟩:=h.loc id t' cs hl';refine⟨b,?_,(Below.heap_alloc wr _ b (zbr hh)).trans hh⟩;show (S.B++[wr.heap.size])[id]? = some b;rw[Ip (by rw[<-h.len]; exact hi)]; exact hb
  ·have hi':id=S.L.length:=by
    have:id<(S.L++[(t,cells)]).length:=(I8.1 hl).1;simp at this; omega
   subst hi';simp only[List.getElem?_concat_length,I0,Prod.mk.injEq] at hl;obtain⟨rfl,rfl⟩:=hl;refine⟨wr.heap.size,?_,heap_alloc_new wr _⟩;show (S.B++[wr.heap.size])[S.L.length]? = _;rw[h.len]; simp
 ·refine List.nodup_append.2 ⟨h.nM,Qs,λx hx y hy=>?_⟩;simp only[Iz] at hy;subst hy;have:=IT x hx;omega
 ·have iO:(S.B++[wr.heap.size])[id]? = some b:=hb
  by_cases hi:id<S.B.length
  ·rw[Ip hi] at iO;exact h.fresh id b aW iO
  ·have:id=S.B.length:=by
    have:id<(S.B++[wr.heap.size]).length:=(I8.1 iO).1;simp at this; omega
   subst this;simp at iO;subst iO;exact h.ext.size
theorem Zm.age{S:St}{w wr Wc:Wo}(h:Zm S w wr)(hk:Q9 S.B wr Wc):Zm S.cI Wc Wc:=
 ⟨Q0.refl _ _,λid t cs hl=>by
  obtain⟨b,hb,hh⟩:=h.loc id t cs hl;exact⟨b,hb,(hk b (List.mem_of_getElem? hb)).trans hh⟩,h.len,h.nM,λid b aW hb=>by
  have:id<S.B.length:=(I8.1 hb).1;simp only[St.cI] at aW;omega⟩
theorem Zm.lt{S:St}{w wr:Wo}(h:Zm S w wr):∀b∈S.B,b<wr.heap.size:=λb hb=>by
 obtain⟨id,aW⟩:=List.getElem?_of_mem hb;have hl:id<S.L.length:=by rw[h.len]; exact(I8.1 aW).1
 obtain⟨b',iO,hh⟩:=h.loc id (S.L[id]).1 (S.L[id]).2 (by rw[Il hl]);rw[aW] at iO; cases iO;exact zbr hh
theorem Zm.Cu0{S:St}{w wr:Wo}(h:Zm S w wr){i j b:Nat}(hi:S.B[i]? = some b)(hj:S.B[j]? = some b):i=j:=by
 obtain⟨h1l,h1e⟩:=I8.1 hi;obtain⟨h2l,h2e⟩:=I8.1 hj;have hp:=List.pairwise_iff_getElem.1 h.nM;rcases Nat.lt_trichotomy i j with IT | heq | hgt
 ·exact Ir (h1e.trans h2e.symm) (hp i j h1l h2l IT)
 ·exact heq
 ·exact Ir (h2e.trans h1e.symm) (hp j i h2l h1l hgt)
theorem zm0{P:Program}{T:TypeId->Option Ty}(hT:zu7 P T){t:TypeId}{ty:Ty}(ht:T t=some ty)(iQ:ty.ks.contains .other=false) :
  ∃i z,P.info? t=some i/\i.zero=some z/\z.cells=(ty.ks.map zv).toArray:=by
 obtain⟨i,z,hi,hz,_,hks⟩:=(hT.facts ht).info;refine⟨i,z,hi,hz,?_⟩
 have h0:∀(l:List Va),(l.map Kj).contains .other=false->(l.map Kj).map zv=l:=by
  intro l
  induction l with
  | nil=>intro _; rfl
  | cons x r ih=>
   intro hc;simp only[List.map_cons,List.contains_cons,H'] at hc;have hx:Kj x≠.other:=by intro e; rw[e] at hc; simp at hc
   simp only[List.map_cons,ih hc.2,<-zk6 hx]
 have h1:=h0 z.cells.toList (by rw[hks]; exact iQ);rw[hks] at h1;rw[h1,Array.toArray_toList]
theorem EV.gY{S S':St}(h:zbj S S'):∀{e:EV} {u:Va},EV.den S e u->EV.den S' e u
 | .v _,_,h'=>h'
 | .el _ _,_,h'=>h'
 | .loc _ _,_,⟨b,hb,h'⟩=>⟨b,h _ _ hb,h'⟩
 | .ls _ _,_,⟨b,hb,h'⟩=>⟨b,h _ _ hb,h'⟩
 | .le _ _ _,_,⟨b,hb,h'⟩=>⟨b,h _ _ hb,h'⟩
 | .no,_,h'=>h'
 | .kb _,_,h'=>h'
theorem Kx.mono{n:Nat}{S S':St}{ops:Array Oper}{D:Nat->Prop}{a:Act}(h:Kx n S ops D a)(hl:zbj S S')(hF:S'.F=S.F)(hr:S'.r=S.r):Kx n S' ops D a:=
 ⟨⟨h.fit.size,λi s hs=>by
  rw[hF] at hs;have:=h.fit.fits i s hs
  cases s with
  | un x=>exact EV.gY hl this
  | gd r pc x=>
   intro hrr;rw[hr] at hrr;have h1:=this hrr;exact⟨λhp=>EV.gY hl (h1.1 hp),h1.2⟩⟩,λi pc x hx=>by rw[hF,hr] at hx; exact h.dn i pc x hx,λi r pc x hx=>by rw[hF] at hx; rw[hr]; exact h.st i r pc x hx⟩
def zmp(cs:List Va):Nat->List Va->List Va
 | _,[]=>cs
 | k,v::r=>zmp (cs.set k v) (k+1) r
theorem Dj:∀(vs cs:List Va) (k:Nat),k+vs.length<=cs.length->zmp cs k vs=cs.take k++vs++cs.drop (k+vs.length)
 | [],cs,k,_=>by simp[zmp]
 | v::r,cs,k,h=>by
  simp only[zmp,List.length_cons] at *;rw[Dj r (cs.set k v) (k+1) (by simp; omega)];have hk:k<cs.length:=Qo;rw[List.take_succ_eq_append_getElem (by simpa using hk),List.getElem_set_self,List.take_set_of_le (I7 _),List.drop_set_of_lt Qo];simp[Nat.add_assoc,Nat.add_comm 1]
theorem Fl:∀(vs:List Va) (w:Wo) (b k n:Nat) (cs:List Va) (t:TypeId) (fz:Nat×Nat),w.heap[b]? = some (.cells cs.toArray t fz)->
  (eJ w ⟨b,k,none⟩ n vs).heap[b]? = some (.cells (zmp cs (k+n) vs).toArray t fz)
 | [],_,_,_,_,_,_,_,h=>h
 | v::r,w,b,k,n,cs,t,fz,h=>by
  simp only[eJ,zmp];refine Fl r _ b k (n+1) (cs.set (k+n) v) t fz ?_;rw[Addr.add_lit];simp only[World.setCell,Array.getElem?_modify,if_true,h,Option.map_some,Option.isSome_none,Bool.false_eq_true,if_false];simp
structure zu9 (C:Uk) (S:St) (w:Wo) (o:Oper) (a:Act) (K:St->Wo->Prop) (N:Act->Wo->Prop):Prop where
 go:∀(S1:St) (w' Wc:Wo) (e:EV) (v:Va),Ky S S1->S1.F=S.F->S1.r=S.r->Gs S1->Zm S1 w' Wc->(C.pm=true->w'=w/\S1.old=S.old)->EV.den S1 e v->(∀x,o.dst=some x->x<C.n/\x<4000)->K (S1.bV o.dst (.un e)) w'->N (a.put o.dst v) Wc
theorem zl8{C:Uk}{S:St}{w:Wo}{o:Oper}{a:Act}{K:St->Wo->Prop}{N:Act->Wo->Prop}(hN:zu9 C S w o a K N){wr:Wo}(hw:Zm S w wr)(Wy:Gs S){t:TypeId}{cells:List Va}{e:Nat->EV}(h:ze1 C S w o.dst t cells e K){v:Va}(hv:EV.den { S with L:=S.L++[(t,cells)],B:=S.B++[wr.heap.size] } (e S.L.length) v):N (a.put o.dst v) (wr.alloc (.cells cells.toArray t)):=by
 obtain⟨h1,h2⟩:=YI (h wr.heap.size hw.ext.size);refine hN.go { S with L:=S.L++[(t,cells)],B:=S.B++[wr.heap.size] } w _ (e S.L.length) v ⟨λid b hb=>?_,λid t' cs hc=>⟨cs,?_⟩,λid hi=>⟨hi,?_⟩⟩ rfl rfl ⟨by simp; have:=Wy.old; omega,λid hi=>by have:=Wy.lk id hi; simp; omega⟩ (hw.push Wy.old t cells) (λ_=>⟨rfl,rfl⟩) hv h2 h1
 ·show (S.B++[wr.heap.size])[id]? = some b;rw[Ip (I8.1 hb).1]; exact hb
 ·show (S.L++[(t,cells)])[id]? = some (t',cs);rw[Ip (I8.1 hc).1]; exact hc
 ·exact Ip (Wy.lk id hi)
theorem zl9{C:Uk}{S:St}{w:Wo}{o:Oper}{a:Act}{K:St->Wo->Prop}{N:Act->Wo->Prop}(hN:zu9 C S w o a K N){wr:Wo}(hw:Zm S w wr)(Wy:Gs S){t:TypeId}{cells:List Va}{e:Nat->EV}(h:Af C S w o.dst t cells e K){v:Va}(hv:EV.den S.cI (e wr.heap.size) v):N (a.put o.dst v) (wr.alloc (.cells cells.toArray t)):=by
 have IT:=hw.lt;unfold Af at h
 have jZ:C.pm=false:=by
  cases hp:C.pm with
  | false=>rfl
  | true=>rw[hp] at h; exact h.elim
 rw[jZ] at h;simp only[cond_false] at h;obtain⟨h1,h2⟩:=YI (h wr.heap.size (wr.alloc (.cells cells.toArray t)) (hw.ext.alloc _) hw.ext.size (heap_alloc_new wr _) (λhb=>by have:=IT _ hb; omega));exact hN.go S.cI _ _ _ v ⟨λ_ _ h=>h,λ_ _ cs h=>⟨cs,h⟩,λid hi=>⟨hi,rfl⟩⟩ rfl rfl Wy.cI (hw.age λb hb=>Below.heap_alloc wr _ b (IT b hb)) (λhp=>by rw[jZ] at hp; cases hp) hv h2 h1
theorem E3{z:Nat}(hz:0<z):∀{ps:List (Nat×Operand)} {k:Nat} {vs cells:List Va},MB z ps k vs=some cells->ps.length=vs.length/\cells.length=vs.length*z/\
  ∀(pre:List Va),pre.length=k*z->∀(init:List Va),init.length=vs.length*z->
   Instr.fill (λi=>some (i*z,z)) (pre++init).toArray ((ps.map (·.1)).zip vs)=some (pre++cells).toArray
 | [],k,[],cells,h=>by
  simp only[MB,I0] at h; subst h;refine⟨rfl,Qs,λpre _ init hi=>?_⟩;have:init=[]:=List.eq_nil_of_length_eq_zero (by simpa using hi);subst this;simp[Instr.fill]
 | (i,x)::ps,k,v::vs,cells,h=>by
  simp only[MB] at h
  cases hb:(Nat.beq i k&&Nat.beq v.cells.toList.length z) with
  | false=>rw[hb] at h; cases h
  | true=>
   rw[hb] at h;simp only[cond_true] at h;simp only[A'] at hb;have e1:i=k:=Ib hb.1;have e2:v.cells.toList.length=z:=Ib hb.2;subst e1
   split at h
   ·rename_i l hl;simp only[I0] at h; subst h;obtain⟨h1,h2,h3⟩:=E3 hz hl;refine⟨by simp[h1],by simp[h2,e2,Nat.add_mul]; omega,λpre hp init hi=>?_⟩;have tB:v.cells.size=z:=by simpa using e2
    have hvl:(v::vs).length*z=z+vs.length*z:=by simp[Nat.add_mul,Nat.add_comm]
    rw[hvl] at hi
    have hc:(decide (v.cells.size≠z)||decide (i*z+v.cells.size>(pre++init).toArray.size))=false:=by
     simp only[tB,List.size_toArray,Io,hp,hi];simp
    simp only[List.map_cons,List.zip_cons_cons,Instr.fill];rw[hc];simp only[Bool.false_eq_true,if_false]
    have CM7:∀(l:List Va) (j:Nat) (arr:List Va),(l.zipIdx j).foldl (λcs (c,j)=>cs.setIfInBounds (i*z+j) c) arr.toArray=(zmp arr (i*z+j) l).toArray:=by
     intro l
     induction l with
     | nil=>intro j arr; rfl
     | cons c l ih=>
      intro j arr;simp only[List.zipIdx_cons,List.foldl_cons,zmp];rw[show (arr.toArray.setIfInBounds (i*z+j) c)=(arr.set (i*z+j) c).toArray by simp];exact ih (j+1) _
    have hz2:(v.cells.zipIdx.foldl (λcs (c,j)=>cs.setIfInBounds (i*z+j) c) (pre++init).toArray)=(pre++v.cells.toList++init.drop z).toArray:=by
     rw[<-Array.foldl_toList,Array.toList_zipIdx];rw[CM7 v.cells.toList 0 (pre++init),Dj _ _ _ (by simp[hp,hi,tB])];have t1:(pre++init).take (i*z)=pre:=by rw[<-hp]; exact List.take_left
     have t2:(pre++init).drop (i*z+z)=init.drop z:=by rw[<-hp,List.drop_append]; simp
     simp only[Nat.add_zero,e2,t1,t2]
    rw[hz2];have:=h3 (pre++v.cells.toList) (by simp[hp,tB,Nat.add_mul]) (init.drop z) (by simp[hi])
    simpa using this
   ·cases h
 | [],_,_::_,_,h=>by simp[MB] at h
 | (_,_)::_,_,[],_,h=>by simp[MB] at h
theorem zfu{P:Program}(t:TypeId)(v:Va)(w:Wo):(newVar t v).run P w=.ok ⟨w.heap.size,0,none⟩ (w.alloc (.cells v.cells t)):=by
 simp[newVar,newRow]
theorem Zm.A24{S:St}{w wr:Wo}(h:Zm S w wr){id b off:Nat}{t:TypeId}{cs vs:List Va}(hl:S.L[id]? = some (t,cs))(hb:S.B[id]? = some b)(hlen:off+vs.length<=cs.length)(hold:S.old<=S.B.length) :
  Zm { S with L:=S.L.set id (t,cs.take off++vs++cs.drop (off+vs.length)) } w (eJ wr ⟨b,off,none⟩ 0 vs):=by
 obtain⟨b',iO,hh⟩:=h.loc id t cs hl;rw[hb] at iO; cases iO;have aW:id<S.L.length:=(I8.1 hl).1
 have Aa7:b∈S.bs\/w.heap.size<=b:=by
  by_cases ho:S.old<=id
  ·exact .inr (h.fresh id b ho hb)
  ·refine .inl ?_;have:(S.B.take S.old)[id]? = some b:=by rw[List.getElem?_take,C' Qo]; exact hb
   exact List.mem_of_getElem? this
 obtain⟨r1,r2,r3⟩:=Dk vs wr ⟨b,off,none⟩ 0;refine⟨⟨r1.trans h.ext.os,r2.trans h.ext.tape,r3.trans h.ext.output,by rw[P4]; exact h.ext.size,λk hk hnb=>?_⟩,λid' t' mL hl'=>?_,by simp[h.len],h.nM,h.fresh⟩
 ·refine(P3 vs wr ⟨b,off,none⟩ 0 k ?_).trans (h.ext.block k hk hnb);rintro rfl;rcases Aa7 with hm | hm
  ·exact hnb hm
  ·exact Nat.lt_irrefl _ (Nat.lt_of_lt_of_le hk hm)
 ·by_cases he:id=id'
  ·subst he;simp only[List.getElem?_set_self aW,I0,Prod.mk.injEq] at hl';obtain⟨rfl,rfl⟩:=hl';refine⟨b,hb,?_⟩;rw[Fl vs wr b off 0 cs _ _ hh,Nat.add_zero,Dj _ _ _ hlen]
  ·have hl2:S.L[id']? = some (t',mL):=by rw[<-hl']; exact(List.getElem?_set_ne he).symm
   obtain⟨b2,bR,hh2⟩:=h.loc id' t' mL hl2;refine⟨b2,bR,?_⟩
   rw[P3 vs wr ⟨b,off,none⟩ 0 b2 (by
    show b2≠b;rintro rfl;exact he (h.Cu0 hb bR))]
   exact hh2
theorem Zm.A25{S:St}{w wr:Wo}(h:Zm S w wr){a:Addr}{n:Nat}{vs:List Va}(hb:a.block∉S.bs)(IT:a.block<w.heap.size):Zm S (eJ w a n vs) (eJ wr a n vs):=by
 obtain⟨r1,r2,r3⟩:=Dk vs wr a n;obtain⟨q1,q2,q3⟩:=Dk vs w a n;refine⟨⟨by rw[r1,q1]; exact h.ext.os,by rw[r2,q2]; exact h.ext.tape,by rw[r3,q3]; exact h.ext.output,by rw[P4,P4]; exact h.ext.size,λk hk hnb=>?_⟩,λid t cs hl=>?_,h.len,h.nM,λid b ho aW=>by rw[P4]; exact h.fresh id b ho aW⟩
 ·rw[P4] at hk;have he:=h.ext.block k hk hnb
  by_cases hka:k=a.block
  ·subst hka; exact zj6 vs wr w a n he
  ·rw[P3 vs wr a n k hka,P3 vs w a n k hka]; exact he
 ·obtain⟨b,aW,hh⟩:=h.loc id t cs hl;refine⟨b,aW,?_⟩;rw[P3 vs wr a n b]
  ·exact hh
  ·rintro rfl
   by_cases ho:S.old<=id
   ·have:=h.fresh id _ ho aW; omega
   ·refine hb (List.mem_of_getElem? (i:=id) ?_);show (S.B.take S.old)[id]? = _;rw[List.getElem?_take,C' Qo]; exact aW
theorem YK.run{P:Program}{S:St}{w wr:Wo}(h:Zm S w wr){ob:OA}{n:Nat}{vs:List Va}(hx:YK S.bs w ob n vs.length)(Bh3:0<vs.length)(h1:Zk vs=true){a:Addr}(ho:ob=some a) :
  (storeCells (a.add n) vs 0).run P wr=.ok () (eJ wr (a.add n) 0 vs)/\a.block∉S.bs/\a.block<w.heap.size:=by
 obtain⟨a',ha,hb,hc⟩:=hx;rw[ho] at ha; cases ha;obtain⟨⟨u,hu⟩,_⟩:=hc n (I7 _) Qo;have IT:a.block<w.heap.size:=by have:=World.block_lt_of_cell? w _ hu; rwa[ZK] at this
 refine⟨VX vs wr (a.add n) 0 (Uh h1) λj _ hj=>?_,hb,IT⟩;obtain⟨⟨u',hu'⟩,hf'⟩:=hc (n+j) Qo Qo;have he:=h.ext.block a.block IT hb;rw[UJ];refine⟨⟨u',?_⟩,?_⟩
 ·rw[<-hu']; exact World.cell?_of_block (w:=w) (by rw[ZK]; exact he)
 ·rw[<-hf']; exact frozen?_of_block (by rw[ZK]; exact he)
theorem zf1:∀(vs:List Va) (w:Wo) (a:Addr) (n k:Nat),eJ w (a.add n) k vs=eJ w a (n+k) vs
 | [],_,_,_,_=>rfl
 | v::r,w,a,n,k=>by
  simp only[eJ,UJ];exact zf1 r _ a n (k+1)
theorem zmr{P:Program}{T:TypeId->Option Ty}(hT:zu7 P T){t:TypeId}{ty:Ty}(ht:T t=some ty){a:Addr}{v:Va}(hl:v.cells.toList.length=ty.ks.length){w w':Wo}(h:(storeCells a v.cells.toList).run P w=.ok () w'):(storeVar t a v).run P w=.ok () w':=by
 obtain⟨i,z,hi,_,tB,_⟩:=(hT.facts ht).info;have hn:¬v.cells.size≠ty.ks.length:=by simpa using hl
 simp only[storeVar,Sem.run_bind,Ys hi,Result.andThen_ok,tB,Sem.run_ite,B' hn,Sem.run_pure,h]
theorem zui(parts:Array (Nat×Operand))(f:Operand->Va):(parts.map λ(i,x)=>(i,f x)).toList=(parts.toList.map (·.1)).zip ((parts.toList.map (·.2)).map f):=by
 have:(parts.map λ(i,x)=>(i,f x)).toList=parts.toList.map λ(i,x)=>(i,f x):=Qs
 rw[this];generalize parts.toList=q
 induction q with
 | nil=>rfl
 | cons y q ih=>simp[ih]
theorem zey{C:Uk}{S:St}{w:Wo}{o:Oper}{a:Act}{K:St->Wo->Prop}{N:Act->Wo->Prop}(hN:zu9 C S w o a K N){wr:Wo}(hw:Zm S w wr)(Wy:Gs S){t:TypeId}{cells:List Va}{e1 e2:Nat->EV}{v:Va}(h:match o.dst with
   | some d=>bif KQ C.wZ d then Af C S w o.dst t cells e1 K else ze1 C S w o.dst t cells e2 K
   | none=>False)(h1:EV.den S.cI (e1 wr.heap.size) v)(h2:EV.den { S with L:=S.L++[(t,cells)],B:=S.B++[wr.heap.size] } (e2 S.L.length) v):N (a.put o.dst v) (wr.alloc (.cells cells.toArray t)):=by
 split at h
 ·rename_i d hd
  cases hm:KQ C.wZ d with
  | true=>
   rw[hm] at h;simp only[cond_true] at h;exact zl9 hN hw Wy h h1
  | false=>
   rw[hm] at h;simp only[cond_false] at h;exact zl8 hN hw Wy h h2
 ·exact h.elim
theorem z2f{S:St}{w wr:Wo}(hw:Zm S w wr)(b:Nat):(S.B++[b])[S.L.length]? = some b:=by rw[hw.len]; simp
theorem Ks{Q:Exit->Act->Wo->Prop}{C:Uk}{S:St}{w wr:Wo}{a:Act}{K:St->Wo->Prop}{N:Act->Wo->Prop}{o:Oper}(hdn:o.dst=none)(hN:zu9 C S w o a K N)(hw:Zm S w wr)(Wy:Gs S)(hT:zu7 C.P C.T){t:TypeId}{x y:Operand}(ho:o.op=.store t x y){ty:Ty}(ht:C.T t=some ty){e:EV}(hx:EV.den S e (a.eval x)){v:Va}(hy:a.eval y=v)(h:match e with
   | .loc id off=>match S.L[id]? with
    | some (t',cs)=>bif Nat.beq v.cells.toList.length ty.ks.length&&Nat.ble (off+v.cells.toList.length) cs.length&&Zk v.cells.toList && !KQ S.lk id then
      K { S with L:=S.L.set id (t',cs.take off++v.cells.toList++cs.drop (off+v.cells.toList.length)) } w
     else False
    | none=>False
   | .le id i m=>match S.L[id]? with
    | some (t',cs)=>bif Nat.beq v.cells.toList.length ty.ks.length&&Nat.beq v.cells.toList.length 1&&Zk [v] && !KQ S.lk id then
      (i.toNat+m<cs.length)/\znj (cs.map z4j) λvs=>cs.set (i.toNat+m) v=vs/\K { S with L:=S.L.set id (t',vs) } w
     else False
    | none=>False
   | .el ob n=>bif Nat.beq v.cells.toList.length ty.ks.length&&Zk v.cells.toList && !C.pm&&Nat.blt 0 ty.ks.length then
     YK S.bs w ob n v.cells.toList.length/\K S (R5 w ob n v.cells.toList)
    else False
   | .v (.pointer ob)=>bif Nat.beq v.cells.toList.length ty.ks.length&&Zk v.cells.toList && !C.pm&&Nat.blt 0 ty.ks.length then
     YK S.bs w ob 0 v.cells.toList.length/\K S (R5 w ob 0 v.cells.toList)
    else False
   | _=>False):o.uponIn (UX C.rd) 0 C.P a N Q ((execOp a.eval o).run C.P wr):=by
 have hgo:∀(S1:St) (w' Wc:Wo),Ky S S1->S1.F=S.F->S1.r=S.r->Gs S1->Zm S1 w' Wc->(C.pm=true->w'=w/\S1.old=S.old)->K S1 w'->N (a.put o.dst undef) Wc:=λS1 w' Wc h1 h2 h3 h4 h5 h7 h6=>
  hN.go S1 w' Wc (.v undef) undef h1 h2 h3 h4 h5 h7 rfl (λx hx=>by rw[hdn] at hx; cases hx) (by rw[hdn]; exact h6)
 have Ws:∀{ad:Addr} {w':Wo},a.eval x=.pointer (some ad)->v.cells.toList.length=ty.ks.length->(storeCells ad v.cells.toList).run C.P wr=.ok () w'->(execOp a.eval o).run C.P wr=.ok .skip w':=λ{ad w'} h1 h2 h3=>by
  have:=zmr hT ht h2 h3;simp[execOp,ho,h1,hy,Instr.storeAt,Instr.sureAddr,this]
 have Sk:∀{id:Nat} {t':TypeId} {cs r:List Va},S.L[id]? = some (t',cs)->KQ S.lk id=false->Ky S { S with L:=S.L.set id (t',r) }:=λ{id t' cs r} hl hm=>
  ⟨λ_ _ h=>h,λid' t2 cs2 h2=>by
   show ∃mL,(S.L.set id (t',r))[id']? = some (t2,mL)
   by_cases he:id=id'
   ·subst he;rw[hl] at h2;cases h2;exact⟨r,List.getElem?_set_self (I8.1 hl).1⟩
   ·exact⟨cs2,by rw[List.getElem?_set_ne he]; exact h2⟩,λid' hi=>⟨hi,by
   show (S.L.set id (t',r))[id']? = _;exact List.getElem?_set_ne (by rintro rfl; exact Lh hm hi)⟩⟩
 cases e with
 | loc id off=>
  obtain⟨b,hb,hxp⟩:=hx
  dsimp only at h
  split at h
  ·rename_i t' cs hl
   cases hc:(Nat.beq v.cells.toList.length ty.ks.length&&Nat.ble (off+v.cells.toList.length) cs.length&&Zk v.cells.toList && !KQ S.lk id) with
   | false=>rw[hc] at h; exact h.elim
   | true=>
    rw[hc] at h;simp only[cond_true] at h;simp only[A',IB] at hc;obtain⟨⟨⟨c1,c2⟩,c3⟩,c4⟩:=hc;have c1:=Ib c1;have c2:=Ik c2
    have hrc:=VX (P:=C.P) v.cells.toList wr ⟨b,off,none⟩ 0 (Uh c3) (λj _ hj=>by
     rw[Addr.add_lit,Ht hw hl hb];obtain⟨b',iO,hh⟩:=hw.loc id t' cs hl;rw[hb] at iO; cases iO;have IT:off+j<cs.length:=Qo;refine⟨⟨cs[off+j],Il IT⟩,?_⟩;simp[World.frozen?,hh])
    rw[Ws hxp c1 hrc];exact hgo _ _ _ (Sk hl c4) rfl rfl ⟨Wy.old,λid hi=>by simpa using Wy.lk id hi⟩ (hw.A24 hl hb c2 Wy.old) (λ_=>⟨rfl,rfl⟩) h
  ·exact h.elim
 | le id i m=>
  obtain⟨b,hb,h0,hxp⟩:=hx
  dsimp only at h
  split at h
  ·rename_i t' cs hl
   cases hc:(Nat.beq v.cells.toList.length ty.ks.length&&Nat.beq v.cells.toList.length 1&&Zk [v] && !KQ S.lk id) with
   | false=>rw[hc] at h; exact h.elim
   | true=>
    rw[hc] at h;simp only[cond_true] at h;simp only[A',IB] at hc;obtain⟨⟨⟨c1,c2⟩,c3⟩,c4⟩:=hc;have c1:=Ib c1;have c2:=Ib c2;obtain⟨IT,h⟩:=h;obtain⟨_,_,rfl,h⟩:=PA h
    have vH:v.cells.toList=[v]:=by
     cases v with
     | agg cs=>cases c3
     | _=>rfl
    rw[<-vH] at c3
    have hrc:=VX (P:=C.P) v.cells.toList wr ⟨b,i.toNat+m,none⟩ 0 (Uh c3) (λj _ hj=>by
     rw[Addr.add_lit,Ht hw hl hb];obtain⟨b',iO,hh⟩:=hw.loc id t' cs hl;rw[hb] at iO; cases iO;have IT:i.toNat+m+j<cs.length:=Qo;refine⟨⟨cs[i.toNat+m+j],Il IT⟩,?_⟩;simp[World.frozen?,hh])
    rw[Ws hxp c1 hrc];have gX:=hw.A24 (vs:=v.cells.toList) hl hb (off:=i.toNat+m) Qo Wy.old
    have he:cs.take (i.toNat+m)++v.cells.toList++cs.drop (i.toNat+m+v.cells.toList.length)=cs.set (i.toNat+m) v:=by
     rw[<-Dj _ _ _ Qo,vH]; rfl
    rw[he] at gX;exact hgo _ _ _ (Sk hl c4) rfl rfl ⟨Wy.old,λid hi=>by simpa using Wy.lk id hi⟩ gX (λ_=>⟨rfl,rfl⟩) h
  ·exact h.elim
 | el ob n=>
  obtain⟨ad,hob,hxp⟩:=hx
  dsimp only at h
  cases hc:(Nat.beq v.cells.toList.length ty.ks.length&&Zk v.cells.toList && !C.pm&&Nat.blt 0 ty.ks.length) with
  | false=>rw[hc] at h; exact h.elim
  | true=>
   rw[hc] at h;simp only[cond_true] at h;simp only[A',IB] at hc;obtain⟨⟨⟨c1,c2⟩,c3⟩,c4⟩:=hc;have c1:=Ib c1;have c4:0<ty.ks.length:=Ik c4;obtain⟨h1,h2⟩:=h;obtain⟨hr,hbs,IT⟩:=h1.run (P:=C.P) hw Qo c2 hob;rw[Ws hxp c1 hr,zf1,Nat.add_zero];subst hob;exact hgo S _ _ (Ky.refl S) rfl rfl Wy (hw.A25 hbs IT) (λhp=>by rw[hp] at c3; cases c3) h2
 | v x0=>
  cases x0 with
  | pointer ob=>
    simp only[EV.den] at hx
    dsimp only at h
    cases hc:(Nat.beq v.cells.toList.length ty.ks.length&&Zk v.cells.toList && !C.pm&&Nat.blt 0 ty.ks.length) with
    | false=>rw[hc] at h; exact h.elim
    | true=>
     rw[hc] at h;simp only[cond_true] at h;simp only[A',IB] at hc;obtain⟨⟨⟨c1,c2⟩,c3⟩,c4⟩:=hc;have c1:=Ib c1;have c4:0<ty.ks.length:=Ik c4;obtain⟨h1,h2⟩:=h;obtain⟨ad,hob,_⟩:=id h1;obtain⟨hr,hbs,IT⟩:=h1.run (P:=C.P) hw Qo c2 hob;rw[Addr.add_zero'] at hr;rw[Ws (by rw[hx,hob]) c1 hr];subst hob;exact hgo S _ _ (Ky.refl S) rfl rfl Wy (hw.A25 hbs IT) (λhp=>by rw[hp] at c3; cases c3) h2
  | _=>exact h.elim
 | ls id len=>exact h.elim
 | no=>exact h.elim
 | kb x=>exact h.elim
theorem ztr{C:Uk}(hT:zu7 C.P C.T)(Rt:∀f ks,zpr C.ef f=some ks->Ph C.P f){S:St}{w wr:Wo}{ops:Array Oper}{D:Nat->Prop}{o:Oper}{a:Act}{pc:List (Nat×Bool)}{K:St->Wo->Prop}{N:Act->Wo->Prop}{Q:Exit->Act->Wo->Prop}(hf:Kx C.n S ops D a)(hw:Zm S w wr)(Wy:Gs S)(hp:Fg ops a pc)(hN:zu9 C S w o a K N)(h:z2y C S w o pc K)(hnd:∀t x y,o.op=.store t x y->o.dst=none):o.wpIn (UX C.rd) 0 C.P a wr N Q:=by
 refine zrc (λc hc=>by unfold z2y at h; simp[hc,zmj] at h) ?_;unfold z2y at h
 split at h
 case h_1 t ho=>
  split at h
  ·rename_i ty ht
   cases hc:ty.ks.contains .other with
   | true=>rw[hc] at h; exact h.elim
   | false=>
    rw[hc] at h;simp only[cond_false] at h;obtain⟨i,z,hi,hz,hzc⟩:=zm0 hT ht hc
    have Ws:(execOp a.eval o).run C.P wr=.ok (.value (.pointer (some ⟨wr.heap.size,0,none⟩))) (wr.alloc (.cells (ty.ks.map zv).toArray t)):=by
     simp[execOp,ho,Instr.alloc,zeroValue,Ui hi,hz,zfu,hzc]
    rw[Ws];simp only[Oper.uponIn];exact zey hN hw Wy h ⟨_,rfl,by rw[Addr.add_zero']⟩ ⟨wr.heap.size,z2f hw _,rfl⟩
  ·exact h.elim
 case h_2 t x ho=>
  split at h
  ·rename_i v hv;have hv':=QV hf.fit hp hv
   have Ws:(execOp a.eval o).run C.P wr=.ok (.value (.pointer (some ⟨wr.heap.size,0,none⟩))) (wr.alloc (.cells v.cells.toList.toArray t)):=by
    simp[execOp,ho,Instr.box,zfu,hv']
   rw[Ws];simp only[Oper.uponIn];exact zey hN hw Wy h ⟨_,rfl,by rw[Addr.add_zero']⟩ ⟨wr.heap.size,z2f hw _,rfl⟩
  ·exact h.elim
 case h_3 t n parts ho=>
  split at h
  ·rename_i ag ks e z vs ht hvs;have hv':=J6 hf.fit hp hvs
   split at h
   ·rename_i ety cells hte Cm3
    cases hb:(Nat.beq n vs.length&&Nat.blt 0 z&&Nat.blt 0 n&&Nat.blt (n*z) 16777216) with
    | false=>rw[hb] at h; exact h.elim
    | true=>
     rw[hb] at h;simp only[cond_true] at h;simp only[A'] at hb;obtain⟨⟨⟨b1,b2⟩,b3⟩,b4⟩:=hb;have b1:=Ib b1;have b2:0<z:=Ik b2;have b3:0<n:=Ik b3;have b4:n*z<16777216:=Ik b4;obtain⟨d,hu,_,oK⟩:=(hT.facts ht).desc;obtain⟨inf,rfl,oJ,Cn9⟩:=Ke oK.symm;obtain⟨i2,z2,hi2,hz2,DJ7,_⟩:=(hT.facts hte).info;rw[oJ] at hi2; cases hi2;obtain⟨_,tL,AS5⟩:=E3 b2 Cm3;have hf0:=AS5 [] Qs (((Array.range (n*z)).map (z2.cells[· % z2.cells.size]!)).toList) (by simp[b1]);simp only[List.nil_append,Array.toArray_toList] at hf0;have AI1:=zui parts a.eval;rw[hv'] at AI1
     have hn0:¬n*z=0:=by
      have:=Nat.mul_pos b3 b2;omega
     have Cl6:¬n*z>2 ^ 24:=by
      have:(2:Nat) ^ 24=16777216:=rfl;omega
     have Ws:(execOp a.eval o).run C.P wr=.ok (.value (.slice (some ⟨wr.heap.size,0,none⟩) n n)) (wr.alloc (.cells cells.toArray e)):=by
      simp only[execOp,ho,Instr.buildSlice,Sem.run_bind,run_underlying hu,Result.andThen_ok,Ys oJ,Cn9,Sem.run_ite,B' Cl6,B' hn0,zeroValue,Ui oJ,hz2,Sem.run_pure,AI1,hf0,newRow,run_newObj];rfl
     rw[Ws];simp only[Oper.uponIn];exact zey hN hw Wy h rfl ⟨wr.heap.size,z2f hw _,rfl⟩
   ·exact h.elim
  ·exact h.elim
 case h_4 t x y ho=>
  have hdn:=hnd t x y ho
  split at h
  ·rename_i ty id off v ht hx hy;exact Ks hdn hN hw Wy hT ho ht (Y4 hf.fit hp hx) (QV hf.fit hp hy) h
  ·rename_i ty id i m v ht hx hy;exact Ks hdn hN hw Wy hT ho ht (Y4 hf.fit hp hx) (QV hf.fit hp hy) h
  ·rename_i ty ob n v ht hx hy;exact Ks hdn hN hw Wy hT ho ht (Y4 hf.fit hp hx) (QV hf.fit hp hy) h
  ·rename_i ty ob v ht hx hy;exact Ks hdn hN hw Wy hT ho ht (Y4 hf.fit hp hx) (QV hf.fit hp hy) h
  ·exact h.elim
 case h_5 f args ts ho=>
  split at h
  ·rename_i rks vs hef hvs;have hv:=J6 hf.fit hp hvs;have ea:args.map a.eval=vs.toArray:=by rw[<-hv,<-Array.toList_map,Array.toArray_toList]
   have jZ:C.pm=false:=by
    cases hp:C.pm with
    | false=>rfl
    | true=>rw[hp] at h; exact h.elim
   rw[jZ] at h;simp only[cond_false] at h;rw[zou (Rt f rks hef) args ts a ho,ea];simp only[Oper.uponIn];refine⟨λhx=>(by simp[UX,Fence.wide] at hx),Mx ((JS.out hw (h wr hw.ext hw.lt)).mono λe w' he=>?_)⟩;obtain⟨r,rfl,hk,hp⟩:=V0 he;obtain⟨h1,h2⟩:=YI hp;exact hN.go S.cI _ _ (.v r) r ⟨λ_ _ h=>h,λ_ _ cs h=>⟨cs,h⟩,λid hi=>⟨hi,rfl⟩⟩ rfl rfl Wy.cI (hw.age hk) (λhp=>by rw[jZ] at hp; cases hp) rfl h2 h1
  ·exact h.elim
 case h_6 bi args ts ho=>
  split at h
  ·rename_i vs hvs;have hv:=J6 hf.fit hp hvs;have ea:args.map a.eval=vs.toArray:=by rw[<-hv,<-Array.toList_map,Array.toArray_toList]
   have jZ:C.pm=false:=by
    cases hp:C.pm with
    | false=>rfl
    | true=>rw[hp] at h; exact h.elim
   rw[jZ] at h;simp only[cond_false] at h;obtain⟨r,w',Ws,hk,hp⟩:=V0 (JS.out hw (h wr hw.ext hw.lt))
   have uJ:(execOp a.eval o).run C.P wr=.ok (.value r) w':=by
    rw[<-Ws];simp only[execOp,ho,resolve,Sem.run_bind,Sem.run_pure,Result.andThen_ok,invoke,ea];rfl
   rw[uJ];obtain⟨h1,h2⟩:=YI hp;exact hN.go S.cI _ _ (.v r) r ⟨λ_ _ h=>h,λ_ _ cs h=>⟨cs,h⟩,λid hi=>⟨hi,rfl⟩⟩ rfl rfl Wy.cI (hw.age hk) (λhp=>by rw[jZ] at hp; cases hp) rfl h2 h1
  ·exact h.elim
 case h_7 t args ts ho=>
  split at h
  ·rename_i v vs rks hv0 hvs hrk;have hv1:=QV hf.fit hp hv0;have hv:=J6 hf.fit hp hvs;have ea:args.map a.eval=vs.toArray:=by rw[<-hv,<-Array.toList_map,Array.toArray_toList]
   have jZ:C.pm=false:=by
    cases hp:C.pm with
    | false=>rfl
    | true=>rw[hp] at h; exact h.elim
   rw[jZ] at h;simp only[cond_false] at h
   have hgo:∀(e:Ending) (w':Wo),(E6 rks λr=>e=.returned r/\Q9 S.B wr w'/\Fi C S.cI o.dst (.un (.v r)) λS'=>K S' w')->(match e with
     | .returned v=>N (a.put o.dst v) w'
     | .panicked chain=>Q (.panic chain) a w'
     | .outgrown=>LetsOut Q):=λe w' he=>by
    obtain⟨r,rfl,hk,hp⟩:=V0 he;obtain⟨h1,h2⟩:=YI hp;exact hN.go S.cI _ _ (.v r) r ⟨λ_ _ h=>h,λ_ _ cs h=>⟨cs,h⟩,λid hi=>⟨hi,rfl⟩⟩ rfl rfl Wy.cI (hw.age hk) (λhp=>by rw[jZ] at hp; cases hp) rfl h2 h1
   rcases JS.out hw (h wr hw.ext hw.lt) with ⟨f,as0,Ws,hc⟩ | ⟨l,f,tmps,asg,body,Ws,hc⟩
   ·have uJ:(execOp a.eval o).run C.P wr=.ok (.enter f as0) wr:=by
     rw[<-Ws];simp only[execOp,ho,resolve,zc6,ea,hv1]
    rw[uJ];simp only[Oper.uponIn];exact⟨λhx=>(by simp[UX,Fence.wide] at hx),Mx (hc.mono λe w' he=>by have:=hgo e w' he; cases e <;> exact this)⟩
   ·have uJ:(execOp a.eval o).run C.P wr=.ok (.round l f tmps asg body) wr:=by
     rw[<-Ws];simp only[execOp,ho,resolve,zc6,ea,hv1]
    rw[uJ];simp only[Oper.uponIn];exact⟨λhx=>(by simp[UX,Fence.wide] at hx),zjb (hc.mono λe w' he=>by have:=hgo e w' he; cases e <;> exact this)⟩
  ·exact h.elim
 case h_8 rc m args ts ho=>
  split at h
  ·rename_i v vs rks hv0 hvs hrk;have hv1:=QV hf.fit hp hv0;have hv:=J6 hf.fit hp hvs;have ea:args.map a.eval=vs.toArray:=by rw[<-hv,<-Array.toList_map,Array.toArray_toList]
   have jZ:C.pm=false:=by
    cases hp:C.pm with
    | false=>rfl
    | true=>rw[hp] at h; exact h.elim
   rw[jZ] at h;simp only[cond_false] at h;obtain⟨f,as0,Ws,hc⟩:=JS.out hw (h wr hw.ext hw.lt)
   have uJ:(execOp a.eval o).run C.P wr=.ok (.enter f as0) wr:=by
    rw[<-Ws];simp only[execOp,ho,resolve,Sem.run_bind,Sem.run_pure,Result.andThen_ok,z0x,ea,hv1]
   rw[uJ];simp only[Oper.uponIn];refine⟨λhx=>(by simp[UX,Fence.wide] at hx),Mx (hc.mono λe w' he=>?_)⟩;obtain⟨r,rfl,hk,hp⟩:=V0 he;obtain⟨h1,h2⟩:=YI hp;exact hN.go S.cI _ _ (.v r) r ⟨λ_ _ h=>h,λ_ _ cs h=>⟨cs,h⟩,λid hi=>⟨hi,rfl⟩⟩ rfl rfl Wy.cI (hw.age hk) (λhp=>by rw[jZ] at hp; cases hp) rfl h2 h1
  ·exact h.elim
 case h_9 it ho=>
  split at h
  ·rename_i ob hx;have fU:=QV hf.fit hp hx
   have jZ:C.pm=false:=by
    cases hp:C.pm with
    | false=>rfl
    | true=>rw[hp] at h; exact h.elim
   rw[jZ] at h;simp only[cond_false] at h;obtain⟨b,s,pos,rfl,hb,hh,h1,h2⟩:=h wr hw.ext hw.lt;have hg:(getObj b).run C.P wr=.ok (.stringIter s pos) wr:=by simp[getObj,Sem.run,hh]
   by_cases IT:pos<s.size
   ·have Sk:(setObj b (.stringIter s (pos+(Utf8.decode s pos).2))).run C.P wr=.ok () (MZ wr b s (pos+(Utf8.decode s pos).2)):=by
     simp[setObj,Sem.run,hh,MZ]
    have Ws:(execOp a.eval o).run C.P wr=.ok (.value (.tuple #[.bool true,.int .i64 pos,.int .i32 (Utf8.decode s pos).1])) (MZ wr b s (pos+(Utf8.decode s pos).2)):=by
     simp[execOp,ho,fU,Instr.next,hg,IT,Sk,goInt]
    rw[Ws];simp only[Oper.uponIn];obtain⟨g1,g2⟩:=YI (h2 IT)
    have hk:Q9 S.B wr (MZ wr b s (pos+(Utf8.decode s pos).2)):=λx hx=>by
     have fI:b≠x:=λe=>hb (e▸hx)
     simp only[MZ];rw[Array.getElem?_setIfInBounds_ne fI]
    exact hN.go S.cI _ _ (.v _) _ ⟨λ_ _ h=>h,λ_ _ cs h=>⟨cs,h⟩,λid hi=>⟨hi,rfl⟩⟩ rfl rfl Wy.cI (hw.age hk) (λhp=>by rw[jZ] at hp; cases hp) rfl g2 g1
   ·have Ws:(execOp a.eval o).run C.P wr=.ok (.value (.tuple #[.bool false])) wr:=by
     simp[execOp,ho,fU,Instr.next,hg,IT]
    rw[Ws];simp only[Oper.uponIn];obtain⟨g1,g2⟩:=YI (h1 (Nat.le_of_not_lt IT));exact hN.go S.cI _ _ (.v _) _ ⟨λ_ _ h=>h,λ_ _ cs h=>⟨cs,h⟩,λid hi=>⟨hi,rfl⟩⟩ rfl rfl Wy.cI (hw.age λ_ _=>rfl) (λhp=>by rw[jZ] at hp; cases hp) rfl g2 g1
  ·exact h.elim
 case h_10=>
  split at h
  ·rename_i xs rk u f hpr
   split at h
   ·rename_i vs hvs;have hv:=J6 hf.fit hp hvs
    have jZ:C.pm=false:=by
     cases hp:C.pm with
     | false=>rfl
     | true=>rw[hp] at h; exact h.elim
    rw[jZ] at h;simp only[cond_false] at h;have h:=h wr hw.ext hw.lt
    cases u with
    | true=>
     simp only[cond_true] at h
     split at h
     ·rename_i hd;obtain⟨w',hr,hk,hK⟩:=h;rw[<-hv] at hr;rw[zfp hpr a.eval hr];simp only[if_true,Oper.uponIn];exact hN.go S.cI _ _ (.v undef) undef ⟨λ_ _ h=>h,λ_ _ cs h=>⟨cs,h⟩,λid hi=>⟨hi,rfl⟩⟩ rfl rfl Wy.cI (hw.age hk) (λhp=>by rw[jZ] at hp; cases hp) rfl (λx hx=>by rw[hd] at hx; cases hx) (by rw[hd]; exact hK)
     ·exact h.elim
    | false=>
     simp only[cond_false] at h;obtain⟨r,w',hr,hk,hp⟩:=V0 h;rw[<-hv] at hr;rw[zfp hpr a.eval hr];simp only[Bool.false_eq_true,if_false,Oper.uponIn];obtain⟨h1,h2⟩:=YI hp;exact hN.go S.cI _ _ (.v r) r ⟨λ_ _ h=>h,λ_ _ cs h=>⟨cs,h⟩,λid hi=>⟨hi,rfl⟩⟩ rfl rfl Wy.cI (hw.age hk) (λhp=>by rw[jZ] at hp; cases hp) rfl h2 h1
   ·exact h.elim
  ·exact h.elim
theorem zp1{G:Prop->Prop}{d:TD}{op:BinOp}{a b:Va}{K:Va->Prop}(h:zng G d op a b K):∃v,K v:=by
 have kk:∀{p:Prop} [Decidable p] {A:Prop},(bif decide p then A else False)->A:=λ{p _ A} h=>by
  by_cases hk:p
  ·simpa[hk] using h
  ·simp[hk] at h
 unfold zng at h
 split at h <;> first
  | exact h.elim
  | exact⟨_,h⟩
  | exact⟨_,h.2⟩
  | exact⟨_,(kk h).2⟩
  | exact⟨_,kk h⟩
theorem zmh{a b:Operand}{cb:Bool}{x y:Va}{K:Va->Prop}(h:BQ a b cb x y K):∃v,K v:=by
 unfold BQ at h
 split at h <;> first | exact h.elim | exact⟨_,h⟩
theorem zni{C:Uk}{S:St}{w:Wo}{ops:Array Oper}{o:Oper}{pc:List (Nat×Bool)}{K:EV->Kn->Prop}(h:z3k C S w ops o pc K):∃e fact,K e fact:=by
 unfold z3k at h
 split at h
 case h_3=>
  split at h
  ·split at h
   ·split at h
    ·exact⟨_,_,h⟩
    ·exact h.elim
   ·split at h
    ·exact⟨_,_,h⟩
    ·exact h.elim
   ·split at h
    ·obtain⟨v,h⟩:=zmh h; exact⟨_,_,h⟩
    ·exact h.elim
  ·exact h.elim
 case h_5=>
  split at h
  ·rename_i ty u v ht hu hv
   cases hb:z4f ty.d _ C.wr with
   | true=>
    rw[hb] at h;simp only[cond_true] at h;obtain⟨v,h⟩:=Ko h;exact⟨_,_,h.2⟩
   | false=>
    rw[hb] at h;simp only[cond_false] at h;obtain⟨v,h⟩:=zp1 h;exact⟨_,_,h⟩
  ·exact h.elim
 case h_14=>
  (repeat' split at h) <;> first
   | exact h.elim
   | (obtain⟨l,_,h⟩:=Ac h; obtain⟨u,_,h⟩:=ET h; exact⟨_,_,h.2⟩)
 case h_19=>
  split at h
  ·obtain⟨l,_,h⟩:=PA h
   split at h
   ·exact⟨_,_,h.2⟩
   ·exact h.elim
  ·rename_i ty ob ht hx
   cases hk:ty.ks.isEmpty with
   | true=>rw[hk] at h; exact h.elim
   | false=>
    rw[hk] at h;obtain⟨l,_,h⟩:=PA h
    split at h
    ·exact⟨_,_,h.2⟩
    ·exact h.elim
  ·(repeat' split at h) <;> first
    | exact h.elim
    | exact⟨_,_,h⟩
  ·(repeat' split at h) <;> first
    | exact h.elim
    | (obtain⟨v,h⟩:=Ko h; exact⟨_,_,h.2⟩)
  ·exact h.elim
 case h_21=>
  (repeat' split at h) <;> first
   | exact h.elim
   | (obtain⟨v,h⟩:=V0 h; exact⟨_,_,h.2⟩)
 case h_16=>
  split at h
  ·rename_i ty v ht hx
   cases ho':ty.d.AQ6 with
   | true=>rw[ho'] at h; exact h.elim
   | false=>rw[ho'] at h; exact⟨_,_,h⟩
  ·exact h.elim
 case h_17=>
  (repeat' split at h) <;> first
   | exact h.elim
   | (obtain⟨v,h⟩:=V0 h; exact⟨_,_,h.2⟩)
 all_goals
  (repeat' split at h) <;> first
   | exact h.elim
   | exact⟨_,_,h⟩
   | exact⟨_,_,h.2⟩
   | (obtain⟨v,h⟩:=Ko h; exact⟨_,_,h.2⟩)
def EE(o:Oper):Bool:=
 match o.op,o.dst with
 | .store _ _ _,some _=>true
 | .defer _,_=>true
 | _,_=>false
def z1w(dn:Nat->Bool)(o:Oper):Bool:=
 match o.guard with
 | some (j,_)=>dn j
 | none=>true
def zr1(S:St)(ops:Array Oper)(o:Oper):Bool:=match o.guard with
 | none=>false
 | some (j,_)=>match (ops[j]?).bind (·.dst) with
  | some d=>match S.F.get d with
   | some (.gd _ _ .no)=>true
   | _=>false
  | none=>false
def NJ(S:St)(ops:Array Oper)(pc:List (Nat×Bool))(o:Oper):Bool:=zr1 S ops o||o.op.operands.toList.any λx=>match zgb S pc x with
 | some .no=>true
 | _=>false
theorem EG{n:Nat}{S:St}{ops:Array Oper}{a:Act}(hf:C2 n S ops a){pc:List (Nat×Bool)}{o:Oper}(oG:zqk S ops o=some pc)(h:NJ S ops pc o=true):¬Fg ops a pc:=λhp=>by
 unfold NJ at h;rcases Bool.or_eq_true_iff.1 h with h | h
 ·unfold zr1 at h
  split at h
  ·cases h
  ·rename_i j want hg
   split at h
   ·rename_i d hd
    split at h
    ·rename_i r vX hv;unfold zqk at oG;rw[hg] at oG;simp only[hd,hv] at oG
     cases hr:Nat.beq r S.r with
     | false=>rw[hr] at oG; cases oG
     | true=>
      rw[hr] at oG;simp only[cond_true,I0] at oG;subst oG;exact((hf.fits d _ hv (Ib hr)).1 λp hm=>hp p (I1 _ hm)).elim
    ·cases h
   ·cases h
 ·obtain⟨x,_,hx⟩:=List.any_eq_true.1 h
  split at hx
  ·rename_i hv;exact(Y4 hf hp hv).elim
  ·cases hx
def zdm(C:Uk)(ops:Array Oper)(dn:Nat->Bool)(o:Oper)(S:St)(w:Wo)(K:Kn->St->Wo->Prop):Prop:=
 bif z1w dn o && !EE o then
  match zqk S ops o with
  | none=>False
  | some pc=>bif NJ S ops pc o then Fi C S o.dst (ziw S pc .no) λS'=>K none S' w else bif Bl C o.op then (match pc with
   | []=>z2y C S w o [] (K none)
   | pc=>bif zuk S ops pc then DO S ops pc (z2y C S w o pc (K none))/\(DO S ops pc False->Fi C S o.dst (ziw S pc .no) λS'=>K none S' w) else False)
   else z3k C S w ops o pc λe f=>Fi C S o.dst (ziw S pc e) λS'=>K f S' w
 else False
structure z0v (C:Uk) (S:St) (w:Wo) (ops:Array Oper) (D:Nat->Prop) (o:Oper) (a:Act) (S':St) (w':Wo) (a':Act) (Wc:Wo):Prop where
 fit:Kx C.n S' ops D a'
 rel:Zm S' w' Wc
 wf:Gs S'
 fr:Ky S S'
 r:S'.r=S.r
 put:∃v,a'=a.put o.dst v
 pm:C.pm=true->w'=w/\S'.old=S.old
theorem zql{S:St}{ops:Array Oper}{D:Nat->Prop}{n:Nat}{a:Act}(hf:Kx n S ops D a){o:Oper}{pc:List (Nat×Bool)}(h:zqk S ops o=some pc)(hg:∀j b,o.guard=some (j,b)->D j):∀p∈pc,D p.1:=by
 unfold zqk at h
 split at h
 ·simp only[I0] at h; subst h; intro p hp; cases hp
 ·rename_i j want hgd
  split at h
  ·rename_i d hd
   split at h
   ·simp only[I0] at h; subst h;intro p hp;simp only[Iz] at hp;subst hp;exact hg j want hgd
   ·rename_i r vX b hv
    cases hr:Nat.beq r S.r with
    | false=>rw[hr] at h; cases h
    | true=>
     rw[hr] at h;simp only[cond_true,I0] at h; subst h;intro p hp;rcases Ii.1 hp with rfl | hp
     ·exact hg j want hgd
     ·have:=Ib hr;subst this;exact hf.dn d vX _ hv p hp
   ·rename_i r vX hv
    cases hr:Nat.beq r S.r with
    | false=>rw[hr] at h; cases h
    | true=>
     rw[hr] at h;simp only[cond_true,I0] at h; subst h;intro p hp;rcases Ii.1 hp with rfl | hp
     ·exact hg j want hgd
     ·have:=Ib hr;subst this;exact hf.dn d vX _ hv p hp
   ·cases h
  ·cases h
structure zrg (C:Uk):Prop where
 T:zu7 C.P C.T
 pf:∀f ks,zpr C.pf f=some ks->Ph C.P f
 ef:∀f ks,zpr C.ef f=some ks->Ph C.P f
 mixed:C.P.follows .mixedOrders=true
theorem zdn{C:Uk}(E:zrg C){ops:Array Oper}{D D':Nat->Prop}{dn:Nat->Bool}{i:Nat}{o:Oper}{S:St}{w wr:Wo}{a:Act}{K:Kn->St->Wo->Prop}{N:Act->Wo->Prop}{Q:Exit->Act->Wo->Prop}(hu:N8 ops=true)(ho:ops[i]? = some o)(hi:¬D i)(hD:∀j,D j->zu8 ops j)(hDD:∀j,D j->D' j)(hdn:∀j,dn j=true->zu8 ops j->D j)(hf:Kx C.n S ops D a)(hw:Zm S w wr)(Wy:Gs S)(hN:∀f S' w' a' Wc,K f S' w'->z0v C S w ops D' o a S' w' a' Wc->N a' Wc)(h:zdm C ops dn o S w K) :
  if Region.wanted o (yielded ops a.tmps) then o.wpIn (UX C.rd) 0 C.P a wr N Q else N (a.put o.dst undef) wr:=by
 unfold zdm at h
 cases hb:(z1w dn o && !EE o) with
 | false=>rw[hb] at h; exact h.elim
 | true=>
  rw[hb] at h;simp only[cond_true] at h;simp only[A',IB] at hb
  have hg:∀j b,o.guard=some (j,b)->D j:=λj b hgd=>by
   refine hdn j ?_ ⟨o,by rw[Array.mem_toList_iff]; exact Array.mem_of_getElem? ho,b,hgd⟩;have:=hb.1;unfold z1w at this;rw[hgd] at this;exact this
  split at h
  ·exact h.elim
  ·rename_i pc oG;have AS9:=zql hf oG hg;have oM:=HA hf.fit oG
   cases hdd:NJ S ops pc o with
   | true=>
    rw[hdd] at h;simp only[cond_true] at h;have hp:=EG hf.fit oG hdd;rw[B' (λwR=>hp (oM.1 wR))];obtain⟨h1,h2⟩:=YI h;exact hN _ _ _ _ _ h1 ⟨hf.put hu ho hi hD hDD AS9 h2 ⟨λhp'=>Ir hp' hp,λ_=>rfl⟩,hw.bV _ _,Wy.bV _ _,(Ky.refl S).bV _ _,by cases o.dst <;> rfl,⟨undef,rfl⟩,λ_=>⟨rfl,by cases o.dst <;> rfl⟩⟩
   | false=>
   rw[hdd] at h;simp only[cond_false] at h
   cases he:Bl C o.op with
   | true=>
    rw[he] at h;simp only[cond_true] at h
    have run:Fg ops a pc->z2y C S w o pc (K none)->o.wpIn (UX C.rd) 0 C.P a wr N Q:=λCq1 h=>by
     refine ztr E.T E.ef hf hw Wy Cq1 ⟨λS1 w' Wc e v h1 h2 h3 h4 h5 h9 h6 h7 h8=>?_⟩ h (λt x y hs=>?_)
     ·refine hN none _ _ _ _ h8 ⟨?_,h5.bV _ _,h4.bV _ _,h1.bV _ _,by cases o.dst <;> exact h3,⟨v,rfl⟩,λhp=>by cases o.dst <;> exact h9 hp⟩;have hf1:Kx C.n S1 ops D a:=hf.mono h1.B h2 h3;exact hf1.put (pc:=[]) hu ho hi hD hDD (λp hp=>by cases hp) h7 ⟨λ_=>h6,λhn=>Ir (λp hp=>by cases hp) hn⟩
     ·have:=hb.2;unfold EE at this;rw[hs] at this
      cases hd:o.dst with
      | none=>rfl
      | some d=>rw[hd] at this; cases this
    split at h
    ·have wR:Region.wanted o (yielded ops a.tmps)=true:=oM.2 (λp hp=>by cases hp);rw[C' wR];exact run (λp hp=>by cases hp) h
    ·cases hpo:zuk S ops pc with
     | false=>rw[hpo] at h; exact h.elim
     | true=>
      rw[hpo] at h;simp only[cond_true] at h
      by_cases hp:Fg ops a pc
      ·rw[C' (oM.2 hp)];exact run hp (zbq hf.fit hp h.1)
      ·rw[B' (λwR=>hp (oM.1 wR))];obtain⟨h1,h2⟩:=YI (h.2 (zlm hf.fit hpo hp));exact hN _ _ _ _ _ h1 ⟨hf.put hu ho hi hD hDD AS9 h2 ⟨λhp'=>Ir hp' hp,λ_=>rfl⟩,hw.bV _ _,Wy.bV _ _,(Ky.refl S).bV _ _,by cases o.dst <;> rfl,⟨undef,rfl⟩,λ_=>⟨rfl,by cases o.dst <;> rfl⟩⟩
   | false=>
    rw[he] at h;simp only[cond_false] at h
    by_cases hp:Fg ops a pc
    ·rw[C' (oM.2 hp)];obtain⟨e,fact,v,hK,B85,kE,hq⟩:=zi9 E.T E.pf hf.fit hp h;obtain⟨h1,h2⟩:=YI hK;refine Nb (C:=Zm S w) (K:=λa'=>a'=a.put o.dst v) hw (λa' w' hw' ha'=>?_) ⟨v,λWc hw'=>hq S w a rfl (λ_ _ h=>h) kE Wc hw',rfl⟩;subst ha';exact hN _ _ _ _ _ h1 ⟨hf.put hu ho hi hD hDD AS9 h2 ⟨λ_=>B85,λhn=>Ir hp hn⟩,hw'.bV _ _,Wy.bV _ _,(Ky.refl S).bV _ _,by cases o.dst <;> rfl,⟨v,rfl⟩,λ_=>⟨rfl,by cases o.dst <;> rfl⟩⟩
    ·rw[B' (λwR=>hp (oM.1 wR))];obtain⟨e,fact,hK⟩:=zni h;obtain⟨h1,h2⟩:=YI hK;exact hN _ _ _ _ _ h1 ⟨hf.put hu ho hi hD hDD AS9 h2 ⟨λhp'=>Ir hp' hp,λ_=>rfl⟩,hw.bV _ _,Wy.bV _ _,(Ky.refl S).bV _ _,by cases o.dst <;> rfl,⟨undef,rfl⟩,λ_=>⟨rfl,by cases o.dst <;> rfl⟩⟩
def zv8(C:Uk)(ops:Array Oper):List Oper->Nat->St->Wo->(St->Wo->Prop)->Prop
 | [],_,S,w,K=>K S w
 | o::rest,k,S,w,K=>zdm C ops (λj=>Nat.blt j k) o S w λ_ S' w'=>zv8 C ops rest (k+1) S' w' K
def H4:List Oper->List Nat
 | []=>[]
 | o::r=>match o.dst with
  | some d=>d::H4 r
  | none=>H4 r
def En(ds:List Nat)(a a':Act):Prop:=a'.defers=a.defers/\a'.tmps.size=a.tmps.size/\∀i,i∉ds->a'.tmps.getD i undef=a.tmps.getD i undef
theorem En.refl(ds:List Nat)(a:Act):En ds a a:=⟨rfl,rfl,λ_ _=>rfl⟩
theorem En.trans{ds:List Nat}{a b c:Act}(h:En ds a b)(k:En ds b c):En ds a c:=⟨k.1.trans h.1,k.2.1.trans h.2.1,λi hi=>(k.2.2 i hi).trans (h.2.2 i hi)⟩
theorem En.mono{ds es:List Nat}{a b:Act}(h:En ds a b)(hs:∀x∈ds,x∈es):En es a b:=⟨h.1,h.2.1,λi hi=>h.2.2 i (λhx=>hi (hs i hx))⟩
theorem En.put(a:Act)(d:Option Tmp)(v:Va)(ds:List Nat)(h:∀x,d=some x->x∈ds):En ds a (a.put d v):=by
 cases d with
 | none=>exact En.refl _ _
 | some d=>
  refine⟨rfl,by simp[Act.put],λi hi=>?_⟩;have:d≠i:=λe=>hi (e▸h d rfl)
  simp only[Act.put,Array.getD_eq_getD_getElem?];rw[Array.getElem?_setIfInBounds_ne this]
theorem AO{C:Uk}(E:zrg C){ops:Array Oper}(hu:N8 ops=true){K:St->Wo->Prop}{Q:Exit->Act->Wo->Prop}{ds:List Nat}{S0:St}{w0:Wo}{a0:Act}(hds:∀x∈H4 ops.toList,x∈ds)(hQ:∀S' w' a' Wc,K S' w'->Kx C.n S' ops (λj=>j<ops.size/\zu8 ops j) a'->Zm S' w' Wc->Gs S'->Ky S0 S'->S'.r=S0.r->En ds a0 a'->(C.pm=true->w'=w0/\S'.old=S0.old)->Q .normal a' Wc) :
  ∀(l:List Oper) (k:Nat) (S:St) (w wr:Wo) (a:Act),(∀j,l[j]? = ops[k+j]?)->k+l.length=ops.size->zv8 C ops l k S w K->Kx C.n S ops (λj=>j<k/\zu8 ops j) a->Zm S w wr->Gs S->Ky S0 S->S.r=S0.r->En ds a0 a->(C.pm=true->w=w0/\S.old=S0.old)->
   wpListIn (UX C.rd) 0 C.P ops Q l a wr
 | [],k,S,w,wr,a,_,hk,h,hf,hw,Wy,wD,hr,hfa,jZ=>by
  have:k=ops.size:=by simpa using hk
  subst this;exact hQ S w a wr h hf hw Wy wD hr hfa jZ
 | o::rest,k,S,w,wr,a,hl,hk,h,hf,hw,Wy,wD,hr,hfa,jZ=>by
  have ho:ops[k]? = some o:=by simpa using (hl 0).symm
  have hod:∀x,o.dst=some x->x∈ds:=λx hx=>by
   refine hds x ?_;have hm:o∈ops.toList:=by rw[Array.mem_toList_iff]; exact Array.mem_of_getElem? ho
   clear hk hl h;generalize ops.toList=q at hm
   induction q with
   | nil=>cases hm
   | cons y q ih=>
    simp only[H4];rcases Ii.1 hm with rfl | hm
    ·rw[hx]; exact I9 ..
    ·split
     ·exact I1 _ (ih hm)
     ·exact ih hm
  have cX:=zdn E (i:=k) (D':=λj=>j<k+1/\zu8 ops j) (N:=λa' w'=>wpListIn (UX C.rd) 0 C.P ops Q rest a' w') (Q:=Q) hu ho (λhd=>Nat.lt_irrefl _ hd.1) (λj hj=>hj.2) (λj hj=>⟨Nat.lt_succ_of_lt hj.1,hj.2⟩)
   (λj h1 h2=>⟨Ik h1,h2⟩) hf hw Wy (λf S' w' a' Wc hK hL=>by
    obtain⟨v,rfl⟩:=hL.put;exact AO E hu hds hQ rest (k+1) S' w' Wc _ (λj=>by have:=hl (j+1); simpa[Nat.add_assoc,Nat.add_comm 1 j] using this) (by simp at hk; omega) hK hL.fit hL.rel hL.wf (wD.trans hL.fr) (hL.r.trans hr) (hfa.trans (En.put a o.dst v ds hod)) (λhp=>⟨(hL.pm hp).1.trans (jZ hp).1,(hL.pm hp).2.trans (jZ hp).2⟩)) h
  unfold wpListIn
  by_cases hwt:Region.wanted o (yielded ops a.tmps)=true
  ·rw[C' hwt] at cX ⊢;exact cX
  ·rw[B' hwt] at cX ⊢;exact⟨λ_ _=>trivial,cX⟩
theorem zza{C:Uk}{ops:Array Oper}{dn:Nat->Bool}{o:Oper}{S:St}{w:Wo}{K:Kn->St->Wo->Prop}(h:zdm C ops dn o S w K):∀c,o.op≠.defer c:=λc hc=>by
 unfold zdm at h;have:EE o=true:=by simp[EE,hc]
 rw[this] at h;simp at h
def Vk(ops:Array Oper)(o:Oper)(a:Act):Option (Sem Next):=if Region.wanted o (yielded ops a.tmps) then some (execOp a.eval o) else none
def YS(P:Program)(R:Wo->Prop)(s:Option (Sem Next))(v:Va):Prop:=
 match s with
 | some s=>∀w,R w->Oper.quietUpon P R w v (s.run P w)
 | none=>v=undef
def zaa(P:Program)(o:Oper)(a:Act)(w:Wo)(N:Va->Wo->Prop):Prop:=
 match (execOp a.eval o).run P w with
 | .ok (.value v) w'=>N v w'
 | .ok .skip w'=>N undef w'
 | .ok (.enter f args) w'=>Calls P f args w' λe kG=>∃v,e=.returned v/\N v kG
 | .ok (.row row args) w'=>Rows P row args w' λv kG=>N v kG
 | .ok (.round l f tmps asg body) w'=>RoundIn Fence.wide 0 P l f tmps asg body w' λe kG=>∃v,e=.returned v/\N v kG
 | _=>False
def Tw:List Oper->List Nat->List Nat
 | [],acc=>acc
 | o::r,acc=>Tw r (acc++[o.after.toList.foldl (λs e=>if Region.binds .any e then s ||| 2 ^ e.on ||| acc.getD e.on 0 else s) 0])
def zke(M:List Nat)(i j:Nat):Bool := !(M.getD j 0).testBit i
def D3(P:Program)(ops:Array Oper)(un:Nat->Nat->Bool)(Q:Act->(Wo->Prop)->Prop):Nat->Array Bool->List (Nat×Option (Sem Next)×Va)->Act->(Wo->Prop)->Prop
 | 0,Rl,_,a,R=>Region.ready .any ops Rl=[]/\Q a R
 | n+1,Rl,Pd,a,R=>(Region.ready .any ops Rl=[]->Q a R)/\∀i∈Region.ready .any ops Rl,∀o,ops[i]? = some o->
   (∃v,YS P R (Vk ops o a) v/\D3 P ops un Q n (Rl.setIfInBounds i true) ((i,Vk ops o a,v)::Pd) (a.put o.dst v) R) \/
   (Region.wanted o (yielded ops a.tmps)=true/\∀w,R w->zaa P o a w λv w'=>∃R':Wo->Prop,R' w'/\(∀p∈Pd,un p.1 i=true->YS P R' p.2.1 p.2.2)/\
    D3 P ops un Q n (Rl.setIfInBounds i true) Pd (a.put o.dst v) R')
section
variable {P:Program}{ops:Array Oper}{un:Nat->Nat->Bool}{Q:Act->(Wo->Prop)->Prop}
theorem NU{o:Oper}{a:Act}{w:Wo}{N N':Va->Wo->Prop}(h:∀v w,N v w->N' v w)(hh:zaa P o a w N):zaa P o a w N':=by
 unfold zaa at *;generalize (execOp a.eval o).run P w=r at *
 cases r with
 | ok n w'=>
  cases n <;> dsimp only at hh ⊢
  case value v=>exact h _ _ hh
  case skip=>exact h _ _ hh
  case enter f args=>exact hh.mono λe kG ⟨v,he,hn⟩=>⟨v,he,h _ _ hn⟩
  case row row args=>exact hh.mono λv kG hn=>h _ _ hn
  case round l f tmps asg body=>exact hh.mono λe kG ⟨v,he,hn⟩=>⟨v,he,h _ _ hn⟩
  all_goals exact hh
 | halt x w'=>exact hh
theorem zy8{o:Oper}{a:Act}{w:Wo}{N:Va->Wo->Prop}{K:Act->Wo->Prop}{Q':Exit->Act->Wo->Prop}{r:Option Nat}(hh:zaa P o a w N)(h:∀v w',N v w'->K (a.put o.dst v) w'):o.wpIn (UX r) 0 P a w K Q':=by
 refine zrc (λc hc=>by unfold zaa at hh; rcases zjy (P:=P) (ρ:=a.eval) hc w with ⟨d,w',hr⟩ | ⟨x,w',hr⟩ <;> (rw[hr] at hh; exact hh)) ?_;unfold zaa at hh;generalize (execOp a.eval o).run P w=r at *
 cases r with
 | ok n w'=>
  cases n <;> dsimp only at hh <;> simp only[Oper.uponIn]
  case value v=>exact h _ _ hh
  case skip=>exact h _ _ hh
  case enter f args=>exact⟨λhx=>(by simp[UX,Fence.wide] at hx),Mx (hh.mono λe kG ⟨v,he,hn⟩=>by subst he; exact h _ _ hn)⟩
  case row row args=>exact⟨λhx=>(by simp[UX,Fence.wide] at hx),zwa (hh.mono λv kG hn=>h _ _ hn)⟩
  case round l f tmps asg body=>exact⟨λhx=>(by simp[UX,Fence.wide] at hx),zjb (hh.mono λe kG ⟨v,he,hn⟩=>by subst he; exact h _ _ hn)⟩
 | halt x w'=>exact hh.elim
theorem zp0{o:Oper}{a:Act}{w:Wo}{K:Act->Wo->Prop}{r:Option Nat}(hd:∀c,o.op≠.defer c)(hh:o.wpIn (UX r) 0 P a w K λ_ _ _=>False)(hp:∀a' w',K a' w'->∃v,a'=a.put o.dst v):zaa P o a w λv w'=>K (a.put o.dst v) w':=by
 have hh:=z2u hd hh;unfold zaa;generalize (execOp a.eval o).run P w=r at *
 cases r with
 | ok n w'=>
  cases n <;> simp only[Oper.uponIn] at hh ⊢
  case value v=>exact hh
  case skip=>exact hh
  case defer d=>
   obtain⟨v,hv⟩:=hp _ _ hh;have h1:(({ a with defers:=d::a.defers }:Act).put o.dst undef).defers=(a.put o.dst v).defers:=by rw[hv]
   have h2:∀(b:Act) (x:Option Tmp) (u:Va),(b.put x u).defers=b.defers:=λb x u=>by cases x <;> rfl
   rw[h2,h2] at h1;have:=congrArg List.length h1;simp at this
  case enter f args=>
   exact(zrz hh.2).mono λe kG he=>by
    cases e with
    | returned v=>exact⟨v,rfl,he⟩
    | panicked c=>exact he.elim
    | outgrown=>obtain⟨_,_,he⟩:=he; exact he.elim
  case row row args=>exact λc cs=>(let ⟨v,w1,h1,h2⟩:=hh.2 c cs (zds _ _); ⟨v,w1,h1,StepsIn.steps h2⟩)
  case round l f tmps asg body=>
   refine⟨trivial,λc cs _=>?_⟩;obtain⟨e,kG,he,hs⟩:=hh.2.2 c cs (zds _ _);refine⟨e,kG,?_,hs⟩
   cases e with
   | returned v=>exact⟨v,rfl,he⟩
   | panicked c=>exact he.elim
   | outgrown=>obtain⟨_,_,he⟩:=he; exact he.elim
 | halt x w'=>cases x <;> simp only[Oper.uponIn] at hh
theorem Fq:∀{n:Nat} {Rl:Array Bool} {Pd Pd':List (Nat×Option (Sem Next)×Va)} {a:Act} {R:Wo->Prop},(∀p∈Pd',p∈Pd)->D3 P ops un Q n Rl Pd a R->D3 P ops un Q n Rl Pd' a R
 | 0,_,_,_,_,_,_,h=>h
 | n+1,Rl,Pd,Pd',a,R,hs,h=>⟨h.1,λi hi o ho=>by
  rcases h.2 i hi o ho with ⟨v,h1,h2⟩ | ⟨h1,h2⟩
  ·refine .inl ⟨v,h1,Fq (λp hp=>?_) h2⟩;rcases Ii.1 hp with rfl | hp
   ·exact I9 ..
   ·exact I1 _ (hs p hp)
  ·exact .inr ⟨h1,λw hw=>NU (λv w' ⟨R',h3,h4,h5⟩=>⟨R',h3,λp hp=>h4 p (hs p hp),Fq hs h5⟩) (h2 w hw)⟩⟩
theorem G8{r:Option Nat}{Q':Exit->Act->Wo->Prop}(hQ:∀a R w,Q a R->R w->Q' .normal a w):∀(n:Nat) (Rl:Array Bool) (Pd:List (Nat×Option (Sem Next)×Va)) (a:Act) (R:Wo->Prop) (w:Wo),R w->D3 P ops un Q n Rl Pd a R->wpAnyIn (UX r) 0 P .any ops Q' n Rl a w
 | 0,_,_,_,_,_,hw,h=>⟨h.1,hQ _ _ _ h.2 hw⟩
 | n+1,Rl,Pd,a,R,w,hw,h=>⟨λh0=>hQ _ _ _ (h.1 h0) hw,λi hi=>by
  obtain⟨_,o,ho,_⟩:=mem_ready.1 hi;unfold wpOpIn;simp only[ho];rcases h.2 i hi o ho with ⟨v,h1,h2⟩ | ⟨h1,h2⟩
  ·unfold Vk at h1
   by_cases hwt:Region.wanted o (yielded ops a.tmps)=true
   ·rw[C' hwt] at h1 ⊢;exact Nb (C:=R) (K:=λa'=>a'=a.put o.dst v) hw (λa' w' hw' ha'=>by subst ha'; exact G8 hQ n _ _ _ R w' hw' h2) ⟨v,λw' hw'=>h1 w' hw',rfl⟩
   ·rw[B' hwt] at h1 ⊢;rw[show v=undef from h1] at h2;exact⟨λ_ _=>trivial,G8 hQ n _ _ _ R w hw h2⟩
  ·rw[C' h1];exact(zy8 (h2 w hw) λv w' ⟨R',h3,_,h5⟩=>G8 hQ n _ _ _ R' w' h3 h5)⟩
theorem zuq{oi oj:Oper}{a:Act}{v:Va}(hap:oi.apart ops oj=true)(hsj:∀cs b,oj.op≠.select cs b):Vk ops oj (a.put oi.dst v)=Vk ops oj a:=by
 obtain⟨h1,_,_⟩:=Oper.apart_spec hap;unfold Vk;rw[wanted_put oj a oi.dst v h1,execOp_put oj hsj a oi.dst v h1]
theorem zv5{oi oj:Oper}{a:Act}{v:Va}{w:Wo}{N:Va->Wo->Prop}(hap:oi.apart ops oj=true)(hsj:∀cs b,oj.op≠.select cs b)(h:zaa P oj (a.put oi.dst v) w N):zaa P oj a w N:=by
 obtain⟨h1,_,_⟩:=Oper.apart_spec hap;unfold zaa at *;rw[execOp_put oj hsj a oi.dst v h1] at h;exact h
theorem zc1{x y:Oper}(h:x.apart ops y=true):∀d,y.dst=some d->d∉x.looksAt ops:=(Oper.apart_spec h).2.2
def El(ops:Array Oper)(Rl:Array Bool):Prop:=∀j o,ops[j]? = some o->Rl.getD j true=true->∀e∈o.after,Region.binds .any e=true->Rl.getD e.on false=true
theorem zq7(BB5:∀(j:Nat) (o:Oper) cs b,ops[j]? = some o->o.op≠.select cs b)(hun:∀Rl i j,El ops Rl->i∈Region.ready .any ops Rl->j∈Region.ready .any ops Rl->i≠j->un i j=true){i:Nat}{oi:Oper}{v:Va}(hi:ops[i]? = some oi) :
  ∀(n:Nat) (Rl:Array Bool) (Pd:List (Nat×Option (Sem Next)×Va)) (a:Act) (R:Wo->Prop),El ops Rl->
   (∀j oj,ops[j]? = some oj->j≠i->Rl.getD j true=false->(∀e∈oj.after,Region.binds .any e=true->e.on≠i)->oi.apart ops oj=true)->
   i∈Region.ready .any ops Rl->YS P R (Vk ops oi a) v->
   D3 P ops un Q n (Rl.setIfInBounds i true) ((i,Vk ops oi a,v)::Pd) (a.put oi.dst v) R->D3 P ops un Q (n+1) Rl Pd a R:=by
 intro n
 induction n with
 | zero=>
  intro Rl Pd a R tL uI hr hy H;refine⟨λh=>(by rw[h] at hr; cases hr),λj hj oj hoj=>?_⟩
  by_cases hji:j=i
  ·subst hji; rw[hi] at hoj; cases hoj; exact .inl ⟨v,hy,H⟩
  ·have:=ready_mono hj hji;rw[H.1] at this;cases this
 | succ n ih=>
  intro Rl Pd a R tL uI hr hy H;refine⟨λh=>(by rw[h] at hr; cases hr),λj hj oj hoj=>?_⟩
  by_cases hji:j=i
  ·subst hji; rw[hi] at hoj; cases hoj; exact .inl ⟨v,hy,H⟩
  ·obtain⟨Bs9,oj',CQ1,oI⟩:=mem_ready.1 hj;rw[hoj] at CQ1; cases CQ1
   have Cp6:∀e∈oj.after,Region.binds .any e=true->e.on≠i:=λe he hb heq=>by
    have h1:=oI e he hb;have h0:=(mem_ready.1 hr).1;rw[heq] at h1;rcases Nat.lt_or_ge i Rl.size with h' | h'
    ·simp[h'] at h0 h1; rw[h0] at h1; cases h1
    ·simp[Array.getElem?_eq_none h'] at h1
   have hap:=uI j oj hoj hji Bs9 Cp6;have hsj:=λcs b=>BB5 j oj cs b hoj
   have hsi:=λcs b=>BB5 i oi cs b hi
   have BA1:El ops (Rl.setIfInBounds j true):=λk ok hk tY e he hb=>by
    by_cases gZ:j=k
    ·subst gZ; rw[hoj] at hk; cases hk;exact getD_set_true (oI e he hb)
    ·rw[getD_set_ne true gZ] at tY;exact getD_set_true (tL k ok hk tY e he hb)
   have Bg1:∀k ok,ops[k]? = some ok->k≠i->(Rl.setIfInBounds j true).getD k true=false->
     (∀e∈ok.after,Region.binds .any e=true->e.on≠i)->oi.apart ops ok=true:=λk ok hk hki hun iQ=>by
    refine uI k ok hk hki ?_ iQ
    by_cases gZ:j=k
    ·subst gZ; exact Bs9
    ·rw[getD_set_ne true gZ] at hun; exact hun
   have hr':=ready_mono hr (Ne.symm hji)
   have Bt7:∀u,Vk ops oi (a.put oj.dst u)=Vk ops oi a:=λu=>by
    unfold Vk;rw[wanted_put oi a oj.dst u (zc1 hap),execOp_put oi hsi a oj.dst u (zc1 hap)]
   have Bz4:∀u,(a.put oi.dst v).put oj.dst u=(a.put oj.dst u).put oi.dst v:=λu=>Act.put_comm a v u (Oper.apart_spec hap).2.1
   rcases H.2 j (ready_mono hj hji) oj hoj with ⟨u,h1,h2⟩ | ⟨h1,h2⟩
   ·rw[zuq hap hsj] at h1 h2;refine .inl ⟨u,h1,ih _ _ _ R BA1 Bg1 hr' (by rw[Bt7 u]; exact hy) ?_⟩;rw[Bt7 u,<-Bz4 u,Array.setIfInBounds_comm _ _ hji]
    exact Fq (λp hp=>by
     simp only[Ii] at hp ⊢;rcases hp with h | h | h
     ·exact .inr (.inl h)
     ·exact .inl h
     ·exact .inr (.inr h)) h2
   ·refine .inr ⟨?_,λw hw=>zv5 hap hsj (NU (λu w' ⟨R',h3,h4,h5⟩=>⟨R',h3,λp hp=>h4 p (I1 _ hp),?_⟩) (h2 w hw))⟩
    ·rw[wanted_put oj a oi.dst v (Oper.apart_spec hap).1] at h1; exact h1
    ·have hyi:YS P R' (Vk ops oi a) v:=h4 _ (I9 ..) (hun Rl i j tL hr hj (Ne.symm hji));refine ih _ _ _ R' BA1 Bg1 hr' (by rw[Bt7 u]; exact hyi) ?_;rw[Bt7 u,<-Bz4 u,Array.setIfInBounds_comm _ _ hji];exact h5
end
theorem zdu{acc:List Nat}{i:Nat}:∀(l:List Edge) (s:Nat),(l.foldl (λs e=>if Region.binds .any e then s ||| 2 ^ e.on ||| acc.getD e.on 0 else s) s).testBit i=true->
  s.testBit i=true\/∃e∈l,Region.binds .any e=true/\(e.on=i\/(acc.getD e.on 0).testBit i=true)
 | [],s,h=>.inl h
 | e::l,s,h=>by
  rcases zdu l _ h with h1 | ⟨e',he',hb,h2⟩
  ·by_cases hb:Region.binds .any e=true
   ·simp only[C' hb] at h1;simp only[Nat.testBit_or,Iu] at h1;rcases h1 with (h1 | h1) | h1
    ·exact .inl h1
    ·refine .inr ⟨e,I9 ..,hb,.inl ?_⟩;rw[Nat.testBit_two_pow] at h1
     simpa using h1
    ·exact .inr ⟨e,I9 ..,hb,.inr h1⟩
   ·simp only[B' hb] at h1;exact .inl h1
  ·exact .inr ⟨e',I1 _ he',hb,h2⟩
theorem FV:∀(l:List Oper) (acc:List Nat) (pre:List Oper),acc.length=pre.length->
  (∀(j:Nat) (o:Oper),pre[j]? = some o->∀i,(acc.getD j 0).testBit i=true->∃e∈o.after.toList,Region.binds .any e=true/\(e.on=i\/(e.on<j/\(acc.getD e.on 0).testBit i=true)))->
  ∀(j:Nat) (o:Oper),(pre++l)[j]? = some o->∀i,((Tw l acc).getD j 0).testBit i=true->∃e∈o.after.toList,Region.binds .any e=true/\(e.on=i\/(e.on<j/\((Tw l acc).getD e.on 0).testBit i=true))
 | [],acc,pre,hl,h,j,o,ho,i,hb=>by
  simp only[List.append_nil] at ho;exact h j o ho i hb
 | o'::l,acc,pre,hl,h,j,o,ho,i,hb=>by
  have Ck8:pre++o'::l=(pre++[o'])++l:=Qs;rw[Ck8] at ho;simp only[Tw] at hb ⊢;refine FV l _ (pre++[o']) (by simp[hl]) (λj o ho i hb=>?_) j o ho i hb
  by_cases hj:j<pre.length
  ·rw[Ip hj] at ho;rw[List.getD_eq_getElem?_getD,Ip Qo,<-List.getD_eq_getElem?_getD] at hb;obtain⟨e,he,fR,h2⟩:=h j o ho i hb;refine⟨e,he,fR,?_⟩;rcases h2 with h2 | ⟨h2,h3⟩
   ·exact .inl h2
   ·refine .inr ⟨h2,?_⟩;rw[List.getD_eq_getElem?_getD,Ip Qo,<-List.getD_eq_getElem?_getD];exact h3
  ·have hj':j=pre.length:=by
    have:j<(pre++[o']).length:=(I8.1 ho).1;simp at this; omega
   subst hj';simp only[List.getElem?_concat_length,I0] at ho;subst ho;rw[<-hl] at hb;rw[List.getD_eq_getElem?_getD,List.getElem?_concat_length] at hb;simp only[Option.getD_some] at hb;rcases zdu _ _ hb with h1 | ⟨e,he,fR,h2⟩
   ·simp at h1
   ·refine⟨e,he,fR,?_⟩;rcases h2 with h2 | h2
    ·exact .inl h2
    ·have IT:e.on<acc.length:=by
      rcases Nat.lt_or_ge e.on acc.length with h' | h'
      ·exact h'
      ·rw[List.getD_eq_getElem?_getD,List.getElem?_eq_none h'] at h2; simp at h2
     refine .inr ⟨Qo,?_⟩;rw[List.getD_eq_getElem?_getD,Ip IT,<-List.getD_eq_getElem?_getD];exact h2
theorem zo8{ops:Array Oper}(Rl:Array Bool)(i j:Nat)(tL:El ops Rl)(hi:i∈Region.ready .any ops Rl)(hj:j∈Region.ready .any ops Rl)(_:i≠j):zke (Tw ops.toList []) i j=true:=by
 unfold zke;rw[IB];rw[Bool.eq_false_iff];intro hb;have B17:=FV ops.toList [] [] rfl (λj o ho=>by simp at ho);simp only[List.nil_append] at B17;have mG:=(mem_ready.1 hi).1
 have no:Rl.getD i false≠true:=λh=>by
  rcases Nat.lt_or_ge i Rl.size with h' | h'
  ·simp[h'] at h mG; rw[h] at mG; cases mG
  ·simp[Array.getElem?_eq_none h'] at h
 have key:∀k:Nat,∀o,ops[k]? = some o->(∀e∈o.after,Region.binds .any e=true->Rl.getD e.on false=true)->((Tw ops.toList []).getD k 0).testBit i=true->False:=by
  intro k
  induction k using Nat.strongRecOn with
  | _ k ih=>
   intro o ho oI hb;obtain⟨e,he,fR,h2⟩:=B17 k o (by simpa using ho) i hb;have he':e∈o.after:=by rw[<-Array.mem_toList_iff]; exact he
   have hl:=oI e he' fR;rcases h2 with h2 | ⟨h2,h3⟩
   ·rw[h2] at hl; exact no hl
   ·have IT:e.on<ops.size:=Nat.lt_trans h2 (Array.getElem?_eq_some_iff.1 ho).1;have hoe:ops[e.on]? = some ops[e.on]:=Array.getElem?_eq_getElem IT;refine ih e.on h2 _ hoe (tL e.on _ hoe ?_) h3;rcases Nat.lt_or_ge e.on Rl.size with h' | h'
    ·simp[h'] at hl ⊢; exact hl
    ·simp[Array.getElem?_eq_none h'] at hl
 obtain⟨_,o,ho,oI⟩:=mem_ready.1 hj;exact key j o ho oI hb
def EQ(C:Uk)(ops:Array Oper):List Nat->Option Nat
 | []=>none
 | i::r=>match ops[i]? with
  | some o=>bif Bl C o.op then EQ C ops r else some i
  | none=>EQ C ops r
theorem H8{C:Uk}{ops:Array Oper}:∀{l:List Nat} {i:Nat},EQ C ops l=some i->i∈l/\∃o,ops[i]? = some o/\Bl C o.op=false
 | [],_,h=>by cases h
 | j::r,i,h=>by
  simp only[EQ] at h
  split at h
  ·rename_i o ho
   cases he:Bl C o.op with
   | true=>
    rw[he] at h;obtain⟨h1,h2⟩:=H8 h;exact⟨I1 _ h1,h2⟩
   | false=>
    rw[he] at h;simp only[cond_false,I0] at h;subst h;exact⟨I9 ..,o,ho,he⟩
  ·obtain⟨h1,h2⟩:=H8 h;exact⟨I1 _ h1,h2⟩
def Aw(M:List Nat)(i:Nat)(S:St)(w:Wo):List (Nat×zgc)->Prop->Prop
 | [],A=>A
 | (j,f)::r,A=>bif zke M j i then f S w/\Aw M i S w r A else Aw M i S w r A
theorem G3{M:List Nat}{i:Nat}{S:St}{w:Wo}:∀{l:List (Nat×zgc)} {A:Prop},Aw M i S w l A->A/\∀p∈l,zke M p.1 i=true->p.2 S w
 | [],A,h=>⟨h,λp hp=>by cases hp⟩
 | (j,f)::r,A,h=>by
  simp only[Aw] at h
  cases hu:zke M j i with
  | true=>
   rw[hu] at h;obtain⟨h1,h2⟩:=h;obtain⟨h3,h4⟩:=G3 h2;refine⟨h3,λp hp hpu=>?_⟩;rcases Ii.1 hp with rfl | hp
   ·exact h1
   ·exact h4 p hp hpu
  | false=>
   rw[hu] at h;obtain⟨h3,h4⟩:=G3 (A:=A) h;refine⟨h3,λp hp hpu=>?_⟩;rcases Ii.1 hp with rfl | hp
   ·rw[hu] at hpu; cases hpu
   ·exact h4 p hp hpu
def zpz(l:List Nat)(A:Nat->Prop):Prop:=
 match l with
 | []=>True
 | [i]=>A i
 | i::r=>A i/\zpz r A
theorem zdk:∀{l:List Nat} {A:Nat->Prop},zpz l A->∀i∈l,A i
 | [],_,_,_,hi=>by cases hi
 | [j],A,h,i,hi=>by simp only[Iz] at hi; subst hi; exact h
 | j::k::r,A,h,i,hi=>by
  rcases Ii.1 hi with rfl | hi
  ·exact h.1
  ·exact zdk h.2 i hi
def zsh(i:Nat)(f:Kn)(vY:List (Nat×zgc)):List (Nat×zgc):=
 match f with
 | some f=>(i,f)::vY
 | none=>vY
def EP(C:Uk)(ops:Array Oper)(M:List Nat):Nat->Array Bool->List (Nat×zgc)->St->Wo->(St->Wo->Prop)->Prop
 | 0,Rl,_,S,w,K=>match Region.ready .any ops Rl with
  | []=>K S w
  | _=>False
 | n+1,Rl,vY,S,w,K=>match Region.ready .any ops Rl with
  | []=>K S w
  | rs=>match EQ C ops rs with
   | some i=>match ops[i]? with
    | some o=>bif Region.free .any ops Rl i then zdm C ops (λj=>Rl.getD j false) o S w λf S' w'=>EP C ops M n (Rl.setIfInBounds i true) (zsh i f vY) S' w' K else False
    | none=>False
   | none=>zpz rs λi=>match ops[i]? with
    | some o=>zdm C ops (λj=>Rl.getD j false) o S w λ_ S' w'=>Aw M i S' w' vY (EP C ops M n (Rl.setIfInBounds i true) vY S' w' K)
    | none=>False
theorem zp2{C:Uk}(E:zrg C){ops:Array Oper}{D D':Nat->Prop}{dn:Nat->Bool}{i:Nat}{o:Oper}{S:St}{w:Wo}{a:Act}{K:Kn->St->Wo->Prop}(hu:N8 ops=true)(ho:ops[i]? = some o)(hi:¬D i)(hD:∀j,D j->zu8 ops j)(hDD:∀j,D j->D' j)(hdn:∀j,dn j=true->zu8 ops j->D j)(hf:Kx C.n S ops D a)(Wy:Gs S)(he:Bl C o.op=false)(h:zdm C ops dn o S w K) :
  ∃f v S',K f S' w/\Kx C.n S' ops D' (a.put o.dst v)/\Gs S'/\Ky S S'/\S'.r=S.r/\S'.old=S.old/\(∀w wr,Zm S w wr↔Zm S' w wr)/\YS C.P (Zm S w) (Vk ops o a) v/\
   (∀(vG:St) (kG:Wo),Ky S vG->zqb f vG kG->YS C.P (Zm vG kG) (Vk ops o a) v):=by
 unfold zdm at h
 cases hb:(z1w dn o && !EE o) with
 | false=>rw[hb] at h; exact h.elim
 | true=>
  rw[hb] at h;simp only[cond_true] at h;simp only[A',IB] at hb
  have hg:∀j b,o.guard=some (j,b)->D j:=λj b hgd=>by
   refine hdn j ?_ ⟨o,by rw[Array.mem_toList_iff]; exact Array.mem_of_getElem? ho,b,hgd⟩;have:=hb.1;unfold z1w at this;rw[hgd] at this;exact this
  split at h
  ·exact h.elim
  ·rename_i pc oG;have AS9:=zql hf oG hg;have oM:=HA hf.fit oG
   have vU:∀{sv:SV} (w wr:Wo),Zm S w wr↔Zm (S.bV o.dst sv) w wr:=λ{sv} w wr=>by
    cases o.dst
    ·exact Iff.rfl
    ·exact⟨λh=>⟨h.ext,h.loc,h.len,h.nM,h.fresh⟩,λh=>⟨h.ext,h.loc,h.len,h.nM,h.fresh⟩⟩
   cases hdd:NJ S ops pc o with
   | true=>
    rw[hdd] at h;simp only[cond_true] at h;have hp:=EG hf.fit oG hdd;have wR:¬Region.wanted o (yielded ops a.tmps)=true:=λwR=>hp (oM.1 wR)
    obtain⟨h1,h2⟩:=YI h;have hs:Vk ops o a=none:=by unfold Vk; rw[B' wR]
    refine⟨none,undef,_,h1,hf.put hu ho hi hD hDD AS9 h2 ⟨λhp'=>Ir hp' hp,λ_=>rfl⟩,Wy.bV _ _,(Ky.refl S).bV _ _,by cases o.dst <;> rfl,by cases o.dst <;> rfl,vU,?_,λvG kG wD hfc=>?_⟩ <;> (rw[hs]; rfl)
   | false=>
   rw[hdd] at h;rw[he] at h;simp only[cond_false] at h
   by_cases hp:Fg ops a pc
   ·have wR:=oM.2 hp;obtain⟨e,fact,v,hK,B85,kE,hq⟩:=zi9 E.T E.pf hf.fit hp h;obtain⟨h1,h2⟩:=YI hK;refine⟨fact,v,_,h1,hf.put hu ho hi hD hDD AS9 h2 ⟨λ_=>B85,λhn=>Ir hp hn⟩,Wy.bV _ _,(Ky.refl S).bV _ _,by cases o.dst <;> rfl,by cases o.dst <;> rfl,vU,?_,λvG kG wD hfc=>?_⟩
    ·unfold Vk; rw[C' wR]; exact λwr hw=>hq S w a rfl (λ_ _ h=>h) kE wr hw
    ·unfold Vk; rw[C' wR]; exact λwr hw=>hq vG kG a rfl wD.B hfc wr hw
   ·have wR:¬Region.wanted o (yielded ops a.tmps)=true:=λwR=>hp (oM.1 wR)
    obtain⟨e,fact,hK⟩:=zni h;obtain⟨h1,h2⟩:=YI hK;have hs:Vk ops o a=none:=by unfold Vk; rw[B' wR]
    refine⟨fact,undef,_,h1,hf.put hu ho hi hD hDD AS9 h2 ⟨λhp'=>Ir hp' hp,λ_=>rfl⟩,Wy.bV _ _,(Ky.refl S).bV _ _,by cases o.dst <;> rfl,by cases o.dst <;> rfl,vU,?_,λvG kG wD hfc=>?_⟩ <;> (rw[hs]; rfl)
def zv7(C:Uk)(ops:Array Oper)(draw:Bool)(S:St)(w:Wo)(K:St->Wo->Prop):Prop:=
 bif N8 ops then
  (bif draw then
   (bif Region.noSelect ops then EP C ops (Tw ops.toList []) ops.size (Array.replicate ops.size false) [] { S with r:=S.r+1 } w λS' w'=>K { S' with r:=S'.r+1 } w' else False)
  else zv8 C ops ops.toList 0 { S with r:=S.r+1 } w λS' w'=>K { S' with r:=S'.r+1 } w')
 else False
structure Oa (n:Nat) (S:St) (a:Act):Prop where
 size:a.tmps.size=n
 fits:∀i x,S.F.get i=some (.un x)->EV.den S x (a.tmps.getD i undef)
 old:∀i r pc x,S.F.get i=some (.gd r pc x)->r<S.r
theorem Oa.enter{n:Nat}{S:St}{a:Act}(h:Oa n S a)(ops:Array Oper)(D:Nat->Prop):Kx n { S with r:=S.r+1 } ops D a:=
 ⟨⟨h.size,λi s hs=>by
  cases s with
  | un x=>exact EV.gY (S:=S) (λ_ _ h=>h) (h.fits i x hs)
  | gd r pc x=>intro hr; have:=h.old i r pc x hs; simp only at hr; omega⟩,λi pc x hx=>by have:=h.old i _ pc x hx; simp only at this; omega,λi r pc x hx=>by have:=h.old i r pc x hx; show r<=S.r+1; omega⟩
theorem Kx.leave{n:Nat}{S:St}{ops:Array Oper}{D:Nat->Prop}{a:Act}(h:Kx n S ops D a):Oa n { S with r:=S.r+1 } a:=
 ⟨h.fit.size,λi x hx=>EV.gY (S:=S) (λ_ _ h=>h) (h.fit.fits i (.un x) hx),λi r pc x hx=>Nat.lt_succ_of_le (h.st i r pc x hx)⟩
theorem zts{C:Uk}{ops:Array Oper}{D D':Nat->Prop}{dn:Nat->Bool}{i:Nat}{o:Oper}{S:St}{w:Wo}{a:Act}{K:Kn->St->Wo->Prop}(hu:N8 ops=true)(ho:ops[i]? = some o)(hi:¬D i)(hD:∀j,D j->zu8 ops j)(hDD:∀j,D j->D' j)(hdn:∀j,dn j=true->zu8 ops j->D j)(hf:Kx C.n S ops D a)(Wy:Gs S)(he:Bl C o.op=true)(wR:¬Region.wanted o (yielded ops a.tmps)=true)(h:zdm C ops dn o S w K) :
  ∃S',K none S' w/\Kx C.n S' ops D' (a.put o.dst undef)/\Gs S'/\Ky S S'/\S'.r=S.r/\S'.old=S.old/\(∀w wr,Zm S w wr↔Zm S' w wr):=by
 unfold zdm at h
 cases hb:(z1w dn o && !EE o) with
 | false=>rw[hb] at h; exact h.elim
 | true=>
  rw[hb] at h;simp only[cond_true] at h;simp only[A',IB] at hb
  have hg:∀j b,o.guard=some (j,b)->D j:=λj b hgd=>by
   refine hdn j ?_ ⟨o,by rw[Array.mem_toList_iff]; exact Array.mem_of_getElem? ho,b,hgd⟩;have:=hb.1;unfold z1w at this;rw[hgd] at this;exact this
  split at h
  ·exact h.elim
  ·rename_i pc oG;have AS9:=zql hf oG hg;have oM:=HA hf.fit oG
   have vU:∀{sv:SV} (w wr:Wo),Zm S w wr↔Zm (S.bV o.dst sv) w wr:=λ{sv} w wr=>by
    cases o.dst
    ·exact Iff.rfl
    ·exact⟨λh=>⟨h.ext,h.loc,h.len,h.nM,h.fresh⟩,λh=>⟨h.ext,h.loc,h.len,h.nM,h.fresh⟩⟩
   cases hdd:NJ S ops pc o with
   | true=>
    rw[hdd] at h;simp only[cond_true] at h;have hp:=EG hf.fit oG hdd;obtain⟨h1,h2⟩:=YI h;exact⟨_,h1,hf.put hu ho hi hD hDD AS9 h2 ⟨λhp'=>Ir hp' hp,λ_=>rfl⟩,Wy.bV _ _,(Ky.refl S).bV _ _,by cases o.dst <;> rfl,by cases o.dst <;> rfl,vU⟩
   | false=>
   rw[hdd] at h;simp only[cond_false] at h;rw[he] at h;simp only[cond_true] at h
   split at h
   ·exact Ir (oM.2 (λp hp=>by cases hp)) wR
   ·cases hpo:zuk S ops pc with
    | false=>rw[hpo] at h; exact h.elim
    | true=>
     rw[hpo] at h;simp only[cond_true] at h;have hp:¬Fg ops a pc:=λhp=>wR (oM.2 hp)
     obtain⟨h1,h2⟩:=YI (h.2 (zlm hf.fit hpo hp));exact⟨_,h1,hf.put hu ho hi hD hDD AS9 h2 ⟨λhp'=>Ir hp' hp,λ_=>rfl⟩,Wy.bV _ _,(Ky.refl S).bV _ _,by cases o.dst <;> rfl,by cases o.dst <;> rfl,vU⟩
theorem H7{C:Uk}{ops:Array Oper}:∀{l:List Nat},EQ C ops l=none->∀i∈l,∀o,ops[i]? = some o->Bl C o.op=true
 | [],_,i,hi,_,_=>by cases hi
 | j::r,h,i,hi,o,ho=>by
  simp only[EQ] at h
  split at h
  ·rename_i o' ho'
   cases he:Bl C o'.op with
   | false=>rw[he] at h; cases h
   | true=>
    rw[he] at h;rcases Ii.1 hi with rfl | hi
    ·rw[ho'] at ho; cases ho; exact he
    ·exact H7 h i hi o ho
  ·rename_i ho';rcases Ii.1 hi with rfl | hi
   ·rw[ho'] at ho; cases ho
   ·exact H7 h i hi o ho
theorem zlc{ops:Array Oper}{i:Nat}{o:Oper}(ho:ops[i]? = some o):∀x,o.dst=some x->x∈H4 ops.toList:=λx hx=>by
 have hm:o∈ops.toList:=by rw[Array.mem_toList_iff]; exact Array.mem_of_getElem? ho
 generalize ops.toList=q at hm
 induction q with
 | nil=>cases hm
 | cons y q ih=>
  simp only[H4];rcases Ii.1 hm with rfl | hm
  ·rw[hx]; exact I9 ..
  ·split
   ·exact I1 _ (ih hm)
   ·exact ih hm
def DL(ops:Array Oper)(Rl:Array Bool)(j:Nat):Prop:=Rl.getD j false=true/\zu8 ops j
def PQ(C:Uk)(ops:Array Oper)(K:St->Wo->Prop)(S0:St)(w0:Wo)(a0:Act)(ds:List Nat)(a:Act)(R:Wo->Prop):Prop:=
 ∃S' w',K S' w'/\Oa C.n { S' with r:=S'.r+1 } a/\Gs S'/\Ky S0 S'/\S'.r=S0.r/\En ds a0 a/\(C.pm=true->w'=w0/\S'.old=S0.old)/\R=Zm S' w'
theorem Ml{C:Uk}(E:zrg C){ops:Array Oper}(hu:N8 ops=true)(BB5:Region.noSelect ops=true){K:St->Wo->Prop}{S0:St}{w0:Wo}{a0:Act}{ds:List Nat}(hds:∀x∈H4 ops.toList,x∈ds) :
  ∀(n:Nat) (Rl:Array Bool) (vY:List (Nat×zgc)) (Pd:List (Nat×Option (Sem Next)×Va)) (S:St) (w:Wo) (a:Act),EP C ops (Tw ops.toList []) n Rl vY S w K->El ops Rl->
   Kx C.n S ops (DL ops Rl) a->Gs S->Ky S0 S->S.r=S0.r->En ds a0 a->(C.pm=true->w=w0/\S.old=S0.old)->
   (∀p∈Pd,(∃f:zgc,(p.1,f)∈vY/\∀(vG:St) (kG:Wo),Ky S vG->f vG kG->YS C.P (Zm vG kG) p.2.1 p.2.2)\/(∀(vG:St) (kG:Wo),Ky S vG->YS C.P (Zm vG kG) p.2.1 p.2.2))->
   D3 C.P ops (zke (Tw ops.toList [])) (PQ C ops K S0 w0 a0 ds) n Rl Pd a (Zm S w)
 | 0,Rl,vY,Pd,S,w,a,h,tL,hf,Wy,wD,hr,hfa,jZ,hpd=>by
  simp only[EP] at h
  split at h
  ·rename_i hrd;exact⟨hrd,S,w,h,hf.leave,Wy,wD,hr,hfa,jZ,rfl⟩
  ·exact h.elim
 | n+1,Rl,vY,Pd,S,w,a,h,tL,hf,Wy,wD,hr,hfa,jZ,hpd=>by
  simp only[EP] at h
  split at h
  ·rename_i hrd;exact⟨λ_=>⟨S,w,h,hf.leave,Wy,wD,hr,hfa,jZ,rfl⟩,λi hi=>by rw[hrd] at hi; cases hi⟩
  ·rename_i hrd
   split at h
   ·rename_i i hi;obtain⟨him,o',ho',he⟩:=H8 hi
    split at h
    ·rename_i o ho;rw[ho] at ho'; cases ho'
     cases uI:Region.free .any ops Rl i with
     | false=>rw[uI] at h; exact h.elim
     | true=>
      rw[uI] at h;simp only[cond_true] at h;obtain⟨hun,_,_,oI⟩:=mem_ready.1 him
      have hni:¬DL ops Rl i:=λhd=>by
       have h1:=hd.1;rcases Nat.lt_or_ge i Rl.size with h' | h'
       ·simp[h'] at h1 hun; rw[h1] at hun; cases hun
       ·simp[Array.getElem?_eq_none h'] at h1
      obtain⟨f,v,S',hK,hf',Ar6,sB,hr',Bg9,vU,hys,hyf⟩:=zp2 E (i:=i) (D':=DL ops (Rl.setIfInBounds i true)) hu ho hni (λj hj=>hj.2) (λj hj=>⟨getD_set_true hj.1,hj.2⟩) (λj h1 h2=>⟨h1,h2⟩) hf Wy he h
      have BA1:El ops (Rl.setIfInBounds i true):=λk ok hk tY e he hb=>by
       by_cases hik:i=k
       ·subst hik;rw[ho] at hk; cases hk;obtain⟨_,o2,ho2,CL5⟩:=mem_ready.1 him;rw[ho] at ho2; cases ho2;exact getD_set_true (CL5 e he hb)
       ·rw[getD_set_ne true hik] at tY;exact getD_set_true (tL k ok hk tY e he hb)
      have heq:Zm S w=Zm S' w:=funext λwr=>propext (vU w wr)
      refine zq7 (λj o cs b hj=>Region.noSelect_spec BB5 j o cs b hj) (λRl i j h1 h2 h3 h4=>zo8 Rl i j h1 h2 h3 h4) ho n Rl Pd a (Zm S w) tL (λj oj hj hji Bs9 iQ=>Region.free_spec ho uI j oj hj hji Bs9 iQ) him hys ?_;rw[heq];refine Ml E hu BB5 hds n _ (zsh i f vY) _ S' w _ hK BA1 hf' Ar6 (wD.trans sB) (hr'.trans hr) (hfa.trans (En.put a _ v ds λx hx=>hds x (zlc ho x hx))) (λhp=>⟨(jZ hp).1,Bg9.trans (jZ hp).2⟩) λp hp=>?_
      rcases Ii.1 hp with rfl | hp
      ·cases f with
       | none=>exact .inr λvG kG hs=>hyf vG kG (sB.trans hs) trivial
       | some f=>exact .inl ⟨f,I9 ..,λvG kG hs hfc=>hyf vG kG (sB.trans hs) hfc⟩
      ·rcases hpd p hp with ⟨f',hm,hs'⟩ | hs'
       ·refine .inl ⟨f',?_,λvG kG hs hfc=>hs' vG kG (sB.trans hs) hfc⟩
        cases f with
        | none=>exact hm
        | some f=>exact I1 _ hm
       ·exact .inr λvG kG hs=>hs' vG kG (sB.trans hs)
    ·exact h.elim
   ·rename_i AS8;refine⟨λh0=>Ir h0 (by assumption),λi hi o ho=>?_⟩;have h1:=zdk h i hi;rw[ho] at h1;simp only at h1;have he:=H7 AS8 i hi o ho;obtain⟨hun,o2,ho2,oI⟩:=mem_ready.1 hi;rw[ho] at ho2; cases ho2
    have hni:¬DL ops Rl i:=λhd=>by
     have h1:=hd.1;rcases Nat.lt_or_ge i Rl.size with h' | h'
     ·simp[h'] at h1 hun; rw[h1] at hun; cases hun
     ·simp[Array.getElem?_eq_none h'] at h1
    have BA1:El ops (Rl.setIfInBounds i true):=λk ok hk tY e he hb=>by
     by_cases hik:i=k
     ·subst hik;rw[ho] at hk; cases hk;exact getD_set_true (oI e he hb)
     ·rw[getD_set_ne true hik] at tY;exact getD_set_true (tL k ok hk tY e he hb)
    by_cases wR:Region.wanted o (yielded ops a.tmps)=true
    case neg=>
     obtain⟨S',hK,hf',Ar6,sB,hr',Bg9,vU⟩:=zts (i:=i) (D':=DL ops (Rl.setIfInBounds i true)) hu ho hni (λj hj=>hj.2) (λj hj=>⟨getD_set_true hj.1,hj.2⟩) (λj h1 h2=>⟨h1,h2⟩) hf Wy he wR h1;obtain⟨hev,_⟩:=G3 hK;have heq:Zm S w=Zm S' w:=funext λwr=>propext (vU w wr)
     have hs0:Vk ops o a=none:=by unfold Vk; rw[B' wR]
     refine .inl ⟨undef,by rw[hs0]; rfl,?_⟩;rw[heq];refine Ml E hu BB5 hds n _ vY _ S' w _ hev BA1 hf' Ar6 (wD.trans sB) (hr'.trans hr) (hfa.trans (En.put a _ _ ds λx hx=>hds x (zlc ho x hx))) (λhp=>⟨(jZ hp).1,Bg9.trans (jZ hp).2⟩) λp hp=>?_
     rcases Ii.1 hp with rfl | hp
     ·exact .inr λvG kG hs=>by rw[hs0]; rfl
     ·rcases hpd p hp with ⟨f',hm,hs'⟩ | hs'
      ·exact .inl ⟨f',hm,λvG kG hs hfc=>hs' vG kG (sB.trans hs) hfc⟩
      ·exact .inr λvG kG hs=>hs' vG kG (sB.trans hs)
    refine .inr ⟨wR,λwr vV=>?_⟩
    have cX:=zdn E (i:=i) (D':=DL ops (Rl.setIfInBounds i true))
     (N:=λa' w'=>(∃v,a'=a.put o.dst v)/\∃S' kG,Aw (Tw ops.toList []) i S' kG vY (EP C ops (Tw ops.toList []) n (Rl.setIfInBounds i true) vY S' kG K)/\z0v C S w ops (DL ops (Rl.setIfInBounds i true)) o a S' kG a' w') (Q:=λ_ _ _=>False)
     hu ho hni (λj hj=>hj.2) (λj hj=>⟨getD_set_true hj.1,hj.2⟩) (λj h1 h2=>⟨h1,h2⟩) hf vV Wy (λf S' w' a' Wc hK hL=>⟨hL.put,S',w',hK,hL⟩) h1
    rw[C' wR] at cX;refine NU (λv w' hN=>?_) (zp0 (zza h1) cX λa' w' hN=>hN.1);obtain⟨_,S',kG,hpo,hL⟩:=hN;obtain⟨hev,B87⟩:=G3 hpo;refine⟨Zm S' kG,hL.rel,λp hp hpu=>?_,Ml E hu BB5 hds n _ vY Pd S' kG _ hev BA1 hL.fit hL.wf (wD.trans hL.fr) (hL.r.trans hr) (hfa.trans (En.put a o.dst v ds λx hx=>hds x (zlc ho x hx))) (λhp=>⟨(hL.pm hp).1.trans (jZ hp).1,(hL.pm hp).2.trans (jZ hp).2⟩) λp hp=>?_⟩
    ·rcases hpd p hp with ⟨f',hm,hs'⟩ | hs'
     ·exact hs' S' kG hL.fr (B87 _ hm hpu)
     ·exact hs' S' kG hL.fr
    ·rcases hpd p hp with ⟨f',hm,hs'⟩ | hs'
     ·exact .inl ⟨f',hm,λvG w3 hs hfc=>hs' vG w3 (hL.fr.trans hs) hfc⟩
     ·exact .inr λvG w3 hs=>hs' vG w3 (hL.fr.trans hs)
structure ZD where
 vQ:List (Nat×CK)
 Wq:List (Nat×List CK)
 nR:List Nat
 aS:List (TypeId×List CK):=[]
 ptr:List (Nat×Nat):=[]
def YA:Code->List Nat
 | .region _ ops _=>H4 ops.toList
 | .seq a b=>YA a++YA b
 | .cond _ a b=>YA a++YA b
 | .block _ b=>YA b
 | .loop b=>YA b
 | .scope b=>YA b
 | _=>[]
def Bw:Code->Option Nat
 | .region id _ _=>some id
 | .seq a b=>match Bw a with
  | some k=>some k
  | none=>Bw b
 | .cond _ a b=>match Bw a with
  | some k=>some k
  | none=>Bw b
 | .block _ b=>Bw b
 | .loop b=>Bw b
 | .scope b=>Bw b
 | _=>none
def zqe:CK->Va->Bool
 | .int k,.int k' _=>decide (k=k')
 | .bool,.bool _=>true
 | .str,.string _=>true
 | .slice,.slice _ _ _=>true
 | .ptr,.pointer _=>true
 | .fn,.func _ _ _=>true
 | .iface,_=>true
 | .map,_=>true
 | .other,_=>true
 | _,_=>false
def z3a:CK->(Va->Prop)->Prop
 | .int k,K=>∀n:Int,K (.int k n)
 | .bool,K=>∀b:Bool,K (.bool b)
 | .str,K=>∀s:ByteArray,K (.string s)
 | .slice,K=>∀(o:OA) (l c:Nat),K (.slice o l c)
 | .ptr,K=>∀o:OA,K (.pointer o)
 | .fn,K=>∀(f:Fn) (a c:Array Va),K (.func f a c)
 | _,K=>∀v:Va,K v
def FU:List CK->(List Va->Prop)->Prop
 | [],K=>K []
 | k::r,K=>z3a k λv=>FU r λl=>K (v::l)
theorem zvg{k:CK}{K:Va->Prop}(h:z3a k K){v:Va}(hv:zqe k v=true):K v:=by
 cases k <;> cases v <;> simp only[zqe] at hv <;> first
  | exact h _
  | exact h _ _ _
  | (cases hv; done)
  | (simp only[Ij] at hv; subst hv; exact h _)
def Uz:List CK->List Va->Bool
 | [],[]=>true
 | k::r,v::l=>zqe k v&&Uz r l
 | _,_=>false
theorem Ox:∀{ks:List CK} {K:List Va->Prop} {vs:List Va},FU ks K->Uz ks vs=true->K vs
 | [],_,[],h,_=>h
 | k::r,K,v::l,h,hk=>by
  simp only[Uz,A'] at hk;exact Ox (K:=λl=>K (v::l)) (zvg (K:=λv=>FU r λl=>K (v::l)) h hk.1) hk.2
 | [],_,_::_,_,hk=>by simp[Uz] at hk
 | _::_,_,[],_,hk=>by simp[Uz] at hk
def D0(S:St):List (Nat×CK)->Option (List Va)
 | []=>some []
 | (i,_)::r=>match S.F.get i with
  | some (.un e)=>match z0w S e,D0 S r with
   | some x,some l=>some (x::l)
   | _,_=>none
  | _=>none
def Lw(S:St):List (Nat×List CK)->Option (List Va)
 | []=>some []
 | (id,ks)::r=>match S.L[id]?,Lw S r with
  | some (_,cs),some l=>bif Nat.beq cs.length ks.length then some (cs++l) else none
  | _,_=>none
def ZD.ks(sp:ZD):List CK:=sp.vQ.map (·.2)++sp.Wq.flatMap (·.2)
def zd1(S:St)(sp:ZD)(K:List Va->Prop):Prop:=
 match D0 S sp.vQ,Lw S sp.Wq with
 | some xs,some ys=>bif Uz sp.ks (xs++ys) then K (xs++ys) else False
 | _,_=>False
def zjf(F:PT SV):List Nat->PT SV
 | []=>.leaf
 | i::r=>match F.get i with
  | some (.un e)=>PT.set 12 (zjf F r) i (.un e)
  | _=>zjf F r
def zss(F:PT SV):List (Nat×CK)->List Va->PT SV
 | (i,_)::r,v::vs=>PT.set 12 (zss F r vs) i (.un (.v v))
 | _,_=>F
def VF(L:List (TypeId×List Va)):List (Nat×List CK)->List Va->List (TypeId×List Va)
 | [],_=>L
 | (id,ks)::r,vs=>match L[id]? with
  | some (t,_)=>VF (L.set id (t,vs.take ks.length)) r (vs.drop ks.length)
  | none=>VF L r (vs.drop ks.length)
def Ei(S:St)(sp:ZD):List Nat:=(List.range S.L.length).filter λid => !KQ (sp.Wq.map (·.1)) id
def YH(S:St)(sp:ZD)(vs:List Va):St:=
 { S with F:=zss (zjf S.F sp.nR) sp.vQ (vs.take sp.vQ.length),L:=VF S.L sp.Wq (vs.drop sp.vQ.length),lk:=Ei S sp }
def ze2:List Nat->Bool
 | []=>true
 | x::r => !KQ r x&&ze2 r
def zuw(S:St)(sp:ZD)(ds:List Nat):Bool:=
 (sp.nR.all λi => !KQ ds i&&Nat.blt i 4000)&&(sp.vQ.all λp=>Nat.blt p.1 4000 && !KQ sp.nR p.1)&&ze2 (sp.vQ.map (·.1))&&ze2 (sp.Wq.map (·.1))&&(sp.Wq.all λp=>match S.L[p.1]? with
  | some (_,cs)=>Nat.beq cs.length p.2.length && !KQ S.lk p.1
  | none=>false)
def ZD.nks(sp:ZD):List CK:=sp.aS.flatMap (·.2)
def zrk:Nat->(List Nat->Prop)->Prop
 | 0,K=>K []
 | n+1,K=>∀b:Nat,zrk n λl=>K (b::l)
theorem NE:∀{n:Nat} {K:List Nat->Prop} {bs:List Nat},zrk n K->bs.length=n->K bs
 | 0,_,[],h,_=>h
 | n+1,K,b::l,h,hl=>NE (K:=λl=>K (b::l)) (h b) (by simpa using hl)
 | 0,_,_::_,_,hl=>by simp at hl
 | _+1,_,[],_,hl=>by simp at hl
def Hw:List (TypeId×List CK)->List Va->List (TypeId×List Va)
 | [],_=>[]
 | (t,ks)::r,vs=>(t,vs.take ks.length)::Hw r (vs.drop ks.length)
def zjm(S:St):Nat->List (TypeId×List CK)->Option (List Va)
 | _,[]=>some []
 | n,(t,ks)::r=>match S.L[n]?,zjm S (n+1) r with
  | some (t',cs),some l=>bif Nat.beq t' t&&Nat.beq cs.length ks.length then some (cs++l) else none
  | _,_=>none
def zjt(S:St)(n k:Nat)(l:List (Nat×Nat)):Bool:=l.all λp=>Nat.blt p.1 4000&&Nat.blt p.2 k&&match S.F.get p.1 with
 | some (.un (.loc id 0))=>Nat.beq id (n+p.2)
 | _=>false
def zsr(F:PT SV)(n:Nat):List (Nat×Nat)->PT SV
 | []=>F
 | (i,j)::r=>PT.set 12 (zsr F n r) i (.un (.loc (n+j) 0))
def E9(S:St)(sp:ZD)(vs zs:List Va)(bs:List Nat):St:=
 { F:=zsr (YH S sp vs).F S.L.length sp.ptr,L:=(YH S sp vs).L++Hw sp.aS zs,B:=S.B++bs,old:=S.old,lk:=S.lk,r:=S.r }
def zr5(S S':St)(sp:ZD)(K:List Va->List Nat->Prop):Prop:=
 match zjm S' S.L.length sp.aS with
 | some zs=>bif Uz sp.nks zs&&zjt S' S.L.length sp.aS.length sp.ptr then zd1 S' sp λvs=>K (vs++zs) ((S'.B.drop S.B.length).take sp.aS.length) else False
 | none=>False
def z3m(sps:List (Nat×ZD))(b:Code):Option ZD:=match sps with
 | []=>none
 | _=>match Bw b with
  | some k=>zpr sps (k+1000000)
  | none=>none
def tR(S:St)(c:Operand)(x:Bool):St:=
 match c with
 | .tmp t=>bif Nat.blt t 4000 then { S with F:=PT.set 12 S.F t (.un (.kb x)) } else S
 | _=>S
def E5(C:Uk)(sps:List (Nat×ZD)):Code->St->Wo->(Exit->St->Wo->Prop)->Prop
 | .skip,S,w,K=>K .normal S w
 | .label _,S,w,K=>K .normal S w
 | .region _ ops d,S,w,K=>zv7 C ops d S w (K .normal)
 | .seq a b,S,w,K=>match z3m sps b with
  | none=>E5 C sps a S w λe S' w'=>match e with
   | .normal=>E5 C sps b S' w' K
   | e=>K e S' w'
  | some sp=>bif zuw S sp (YA a) then
    bif C.pm then
     ∃vF:List Va->List Nat->Prop,(E5 C sps a { S with lk:=Ei S sp } w λe S' w'=>match e with
       | .normal=>zr5 S S' sp vF
       | e=>K e { S' with lk:=S.lk } w')/\
      FU sp.ks λvs=>FU sp.nks λzs=>zrk sp.aS.length λbs=>vF (vs++zs) bs->E5 C sps b (E9 S sp vs zs bs) w K
    else
     ∃vF:List Va->List Nat->Wo->Prop,(E5 C sps a { S with lk:=Ei S sp } w λe S' w'=>match e with
       | .normal=>∀wr,Q0 S'.bs w' wr->(∀b∈S'.B,b<wr.heap.size)->zr5 S S' sp λvs bs=>vF vs bs wr
       | e=>K e { S' with lk:=S.lk } w')/\
      FU sp.ks λvs=>FU sp.nks λzs=>zrk sp.aS.length λbs=>∀w1,(∀b∈S.B++bs,b<w1.heap.size)->vF (vs++zs) bs w1->E5 C sps b (E9 S sp vs zs bs).cI w1 K
   else False
 | .cond c a b,S,w,K=>match zgb S [] c with
  | some (.kb true)=>E5 C sps a S w K
  | some (.kb false)=>E5 C sps b S w K
  | some (.v (.bool x))=>(x=true->E5 C sps a (tR S c true) w K)/\(x=false->E5 C sps b (tR S c false) w K)
  | _=>False
 | .block id b,S,w,K=>E5 C sps b S w λe S' w'=>match e with
  | .exit id'=>bif Nat.beq id' id then K .normal S' w' else K e S' w'
  | e=>K e S' w'
 | .scope b,S,w,K=>E5 C sps b S w λe S' w'=>match e with
  | .goto _=>False
  | e=>K e S' w'
 | .exit id,S,w,K=>K (.exit id) S w
 | .ret,S,w,K=>K .ret S w
 | .loop b,S,w,K=>match Bw b with
  | none=>False
  | some key=>match zpr sps key with
   | none=>False
   | some sp=>bif zuw S sp (YA b) then
     bif C.pm then
      ∃(Jw:List Va->Prop) (μ:List Va->Nat),zd1 S sp Jw/\FU sp.ks λvs=>Jw vs->E5 C sps b (YH S sp vs) w λe S' w'=>match e with
       | .normal=>zd1 S' sp λvs'=>Jw vs'/\μ vs'<μ vs
       | e=>K e { S' with lk:=S.lk } w'
     else
      ∃(Jw:List Va->Wo->Prop) (μ:List Va->Wo->Nat),(∀wr,Q0 S.bs w wr->(∀b∈S.B,b<wr.heap.size)->zd1 S sp λvs=>Jw vs wr)/\
       FU sp.ks λvs=>∀w1,(∀b∈S.B,b<w1.heap.size)->Jw vs w1->E5 C sps b (YH S.cI sp vs) w1 λe S' w'=>match e with
       | .normal=>∀wr,Q0 S'.bs w' wr->(∀b∈S'.B,b<wr.heap.size)->zd1 S' sp λvs'=>Jw vs' wr/\μ vs' wr<μ vs w1
       | e=>K e { S' with lk:=S.lk } w'
    else False
 | _,_,_,_=>False
structure MA (C:Uk) (S:St) (w:Wo) (ds:List Nat) (a:Act) (S':St) (w':Wo) (a':Act) (Wc:Wo):Prop where
 fit:Oa C.n S' a'
 rel:Zm S' w' Wc
 wf:Gs S'
 fr:Ky S S'
 fra:En ds a a'
 pm:C.pm=true->w'=w/\S'.old=S.old
theorem MA.refl{C:Uk}{S:St}{w wr:Wo}{a:Act}(ds:List Nat)(h1:Oa C.n S a)(h2:Zm S w wr)(h3:Gs S):MA C S w ds a S w a wr:=⟨h1,h2,h3,Ky.refl S,En.refl _ _,λ_=>⟨rfl,rfl⟩⟩
theorem MA.trans{C:Uk}{S S1 S2:St}{w w1 w2 I' O':Wo}{ds es fs:List Nat}{a a1 a2:Act}(h:MA C S w ds a S1 w1 a1 I')(k:MA C S1 w1 es a1 S2 w2 a2 O')(hd:∀x∈ds,x∈fs)(he:∀x∈es,x∈fs):MA C S w fs a S2 w2 a2 O':=
 ⟨k.fit,k.rel,k.wf,h.fr.trans k.fr,(h.fra.mono hd).trans (k.fra.mono he),λhp=>⟨(k.pm hp).1.trans (h.pm hp).1,(k.pm hp).2.trans (h.pm hp).2⟩⟩
theorem MA.mono{C:Uk}{S S1:St}{w w1 I':Wo}{ds fs:List Nat}{a a1:Act}(h:MA C S w ds a S1 w1 a1 I')(hd:∀x∈ds,x∈fs):MA C S w fs a S1 w1 a1 I':=
 ⟨h.fit,h.rel,h.wf,h.fr,h.fra.mono hd,h.pm⟩
theorem znh{C:Uk}(E:zrg C){id:Nat}{ops:Array Oper}{d:Bool}{S:St}{w wr:Wo}{a:Act}{K:St->Wo->Prop}{Q:Exit->Act->Wo->Prop}(h:zv7 C ops d S w K)(hf:Oa C.n S a)(hw:Zm S w wr)(Wy:Gs S)(hQ:∀S' w' a' Wc,K S' w'->MA C S w (H4 ops.toList) a S' w' a' Wc->Q .normal a' Wc):(Code.region id ops d).wpIn (UX C.rd) 0 C.P Q a wr:=by
 unfold zv7 at h
 cases hu:N8 ops with
 | false=>rw[hu] at h; exact h.elim
 | true=>
  rw[hu] at h;simp only[cond_true] at h;have vU:∀{S1:St} {w1 I':Wo},Zm S1 w1 I'->Zm { S1 with r:=S1.r+1 } w1 I':=λh=>⟨h.ext,h.loc,h.len,h.nM,h.fresh⟩
  have CS4:Gs { S with r:=S.r+1 }:=⟨Wy.old,Wy.lk⟩
  cases d with
  | false=>
   simp only[cond_false] at h;refine wpIn_region_list ?_
   refine AO E hu (S0:={ S with r:=S.r+1 }) (w0:=w) (a0:=a) (ds:=H4 ops.toList) (λx hx=>hx) (λS' w' a' Wc hK hf' hw' Ar6 sB hr' B86 CA0=>?_) ops.toList 0 _ w wr a (λj=>by simp) Qs h
    (hf.enter ops _) (vU hw) CS4 (Ky.refl _) rfl (En.refl _ _) (λ_=>⟨rfl,rfl⟩)
   exact hQ _ _ _ _ hK ⟨hf'.leave,vU hw',⟨Ar6.old,Ar6.lk⟩,⟨sB.B,sB.ty,sB.lk⟩,B86,CA0⟩
  | true=>
   simp only[cond_true] at h
   cases hs:Region.noSelect ops with
   | false=>rw[hs] at h; exact h.elim
   | true=>
    rw[hs] at h;simp only[cond_true] at h
    have hp:=Ml E hu hs (S0:={ S with r:=S.r+1 }) (w0:=w) (a0:=a) (ds:=H4 ops.toList) (λx hx=>hx) ops.size (Array.replicate ops.size false) [] [] _ w a h
     (λj o _ hl=>by
      rcases Nat.lt_or_ge j ops.size with h' | h'
      ·simp[h'] at hl
      ·rename_i ho; rw[Array.getElem?_eq_none h'] at ho; cases ho)
     (hf.enter ops _) CS4 (Ky.refl _) rfl (En.refl _ _) (λ_=>⟨rfl,rfl⟩) (λp hp=>by cases hp)
    refine wpIn_region_any E.mixed (G8 (λa' R w' hPQ hR=>?_) ops.size _ [] a (Zm { S with r:=S.r+1 } w) { wr with drawn:=wr.drawn+1 } ?_ hp)
    ·obtain⟨S',w1,hK,hf',Ar6,sB,hr',B86,CA0,rfl⟩:=hPQ;exact hQ _ _ _ _ hK ⟨hf',vU hR,⟨Ar6.old,Ar6.lk⟩,⟨sB.B,sB.ty,sB.lk⟩,B86,CA0⟩
    ·exact⟨hw.ext.drawn _,hw.loc,hw.len,hw.nM,hw.fresh⟩
theorem Ab{F:PT SV}:∀{l:List Nat} {i:Nat} {sv:SV},(∀x∈l,x<4000)->(zjf F l).get i=some sv->i∈l/\F.get i=some sv/\∃e,sv=.un e
 | [],i,sv,_,h=>by simp[zjf,PT.get] at h
 | k::r,i,sv,hl,h=>by
  have hr:∀x∈r,x<4000:=λx hx=>hl x (I1 _ hx)
  simp only[zjf] at h
  split at h
  ·rename_i e he;rw[PT.kK _ 12 _ _ _ (by have h1:=hl k (I9 ..); show @LT.lt Nat _ (k+1) (2 ^ 12); omega)] at h
   by_cases hk:k=i
   ·subst hk;rw[C' rfl] at h;simp only[I0] at h;subst h;exact⟨I9 ..,he,e,rfl⟩
   ·rw[B' hk] at h;obtain⟨h1,h2,h3⟩:=Ab hr h;exact⟨I1 _ h1,h2,h3⟩
  ·obtain⟨h1,h2,h3⟩:=Ab hr h;exact⟨I1 _ h1,h2,h3⟩
theorem zj3{F:PT SV}:∀{vQ:List (Nat×CK)} {vs:List Va} {i:Nat} {sv:SV},(∀p∈vQ,p.1<4000)->(zss F vQ vs).get i=some sv->
  (∃(j:Nat) (k:CK) (v:Va),vQ[j]? = some (i,k)/\vs[j]? = some v/\sv=.un (.v v))\/F.get i=some sv
 | [],vs,i,sv,_,h=>.inr h
 | (a,k)::r,[],i,sv,_,h=>.inr h
 | (a,k)::r,v::vs,i,sv,hl,h=>by
  have hr:∀p∈r,p.1<4000:=λx hx=>hl x (I1 _ hx)
  simp only[zss] at h;rw[PT.kK _ 12 _ _ _ (by have h1:=hl (a,k) (I9 ..); show @LT.lt Nat _ (a+1) (2 ^ 12); simp only at h1; omega)] at h
  by_cases hk:a=i
  ·subst hk;rw[C' rfl] at h;simp only[I0] at h;exact .inl ⟨0,k,v,rfl,rfl,h.symm⟩
  ·rw[B' hk] at h;rcases zj3 hr h with ⟨j,k',v',h1,h2,h3⟩ | h1
   ·exact .inl ⟨j+1,k',v',by simpa using h1,by simpa using h2,h3⟩
   ·exact .inr h1
theorem Vh{S:St}:∀{vQ:List (Nat×CK)} {xs:List Va},D0 S vQ=some xs->xs.length=vQ.length/\∀(j i:Nat) (k:CK) (v:Va),vQ[j]? = some (i,k)->xs[j]? = some v->∃e,S.F.get i=some (.un e)/\z0w S e=some v
 | [],xs,h=>by simp only[D0,I0] at h; subst h; exact⟨rfl,λj i k v hj=>by simp at hj⟩
 | (a,k)::r,xs,h=>by
  simp only[D0] at h
  split at h
  ·rename_i e he
   split at h
   ·rename_i x l hx hl;simp only[I0] at h; subst h;obtain⟨h1,h2⟩:=Vh hl;refine⟨by simp[h1],λj i k' v hj hv=>?_⟩
    cases j with
    | zero=>
     simp only[Ie,I0,Prod.mk.injEq] at hj hv;obtain⟨rfl,rfl⟩:=hj;subst hv;exact⟨e,he,hx⟩
    | succ j=>exact h2 j i k' v (by simpa using hj) (by simpa using hv)
   ·cases h
  ·cases h
theorem AW:∀{l:List Nat},ze2 l=true->l.Nodup
 | [],_=>List.nodup_nil
 | x::r,h=>by
  simp only[ze2,A',IB] at h;exact List.nodup_cons.2 ⟨Lh h.1,AW h.2⟩
theorem Lr{S':St}:∀{Wq:List (Nat×List CK)} {L:List (TypeId×List Va)} {ys:List Va},(Wq.map (·.1)).Nodup->Lw S' Wq=some ys->(∀(id:Nat) (t:TypeId) (cs:List Va),L[id]? = some (t,cs)->∃mL,S'.L[id]? = some (t,mL))->
  (VF L Wq ys).length=L.length/\
  (∀(id:Nat),id∉Wq.map (·.1)->(VF L Wq ys)[id]? = L[id]?)/\
  (∀(id:Nat) (t:TypeId) (cs:List Va),id∈Wq.map (·.1)->(VF L Wq ys)[id]? = some (t,cs)->S'.L[id]? = some (t,cs))
 | [],L,ys,_,_,_=>⟨rfl,λ_ _=>rfl,λid t cs h=>by cases h⟩
 | (a,ks)::r,L,ys,hnd,hv,hty=>by
  have Bt4:=List.nodup_cons.1 (by simpa using hnd:(a::r.map (·.1)).Nodup);simp only[Lw] at hv
  split at hv
  ·rename_i t' mL l ha hl
   cases hb:Nat.beq mL.length ks.length with
   | false=>rw[hb] at hv; cases hv
   | true=>
    rw[hb] at hv;simp only[cond_true,I0] at hv;subst hv;have hlen:mL.length=ks.length:=Ib hb;have ht:(mL++l).take ks.length=mL:=by rw[<-hlen]; exact List.take_left
    have hdr:(mL++l).drop ks.length=l:=by rw[<-hlen]; exact List.drop_left
    simp only[VF]
    cases hLa:L[a]? with
    | none=>
     simp only[hdr];obtain⟨h1,h2,h3⟩:=Lr (L:=L) Bt4.2 hl hty;refine⟨h1,λid aW=>h2 id (λh=>aW (I1 _ h)),λid t cs aW hc=>?_⟩;rcases Ii.1 aW with rfl | aW
     ·rw[h2 _ Bt4.1] at hc;rw[hLa] at hc; cases hc
     ·exact h3 id t cs aW hc
    | some q=>
     obtain⟨t0,c0⟩:=q;simp only[ht,hdr];have IT:a<L.length:=(I8.1 hLa).1;obtain⟨cs1,dZ⟩:=hty a t0 c0 hLa;rw[ha] at dZ;simp only[I0,Prod.mk.injEq] at dZ;obtain⟨rfl,rfl⟩:=dZ
     obtain⟨h1,h2,h3⟩:=Lr (L:=L.set a (t',mL)) Bt4.2 hl (λid t cs hc=>by
      by_cases he:a=id
      ·subst he;rw[List.getElem?_set_self IT] at hc;cases hc;exact⟨_,ha⟩
      ·rw[List.getElem?_set_ne he] at hc;exact hty id t cs hc)
     refine⟨by rw[h1]; simp,λid aW=>?_,λid t cs aW hc=>?_⟩
     ·rw[h2 id (λh=>aW (I1 _ h))];exact List.getElem?_set_ne (λe=>aW (by subst e; exact I9 ..))
     ·rcases Ii.1 aW with rfl | aW
      ·rw[h2 _ Bt4.1] at hc;rw[List.getElem?_set_self IT] at hc;cases hc;exact ha
      ·exact h3 id t cs aW hc
  ·cases hv
structure Fv (S:St) (sp:ZD) (ds:List Nat):Prop where
 nR:∀i∈sp.nR,i∉ds/\i<4000
 vQ:∀p∈sp.vQ,p.1<4000
 nd:(sp.Wq.map (·.1)).Nodup
 Wq:∀id∈sp.Wq.map (·.1),id∉S.lk
theorem zfy{S:St}{sp:ZD}{ds:List Nat}(h:zuw S sp ds=true):Fv S sp ds:=by
 simp only[zuw,A',List.all_eq_true,IB] at h;obtain⟨⟨⟨⟨h1,h2⟩,_⟩,h4⟩,h5⟩:=h;refine⟨λi hi=>⟨Lh (h1 i hi).1,Ik (h1 i hi).2⟩,λp hp=>Ik (h2 p hp).1,AW h4,λid aW=>?_⟩;obtain⟨p,hp,rfl⟩:=List.mem_map.1 aW;have:=h5 p hp
 split at this
 ·simp only[A',IB] at this;exact Lh this.2
 ·cases this
theorem My{S:St}{sp:ZD}{id:Nat}:id∈Ei S sp↔id<S.L.length/\id∉sp.Wq.map (·.1):=by
 unfold Ei;simp only[List.mem_filter,List.mem_range,IB];refine and_congr_right λ_=>?_
 constructor
 ·exact Lh
 ·intro h;rw[Bool.eq_false_iff];intro hb;simp only[KQ,List.any_eq_true] at hb;obtain⟨y,hy,he⟩:=hb;exact h (Ib he▸hy)
theorem zdy{n:Nat}{S S':St}{sp:ZD}{ds:List Nat}(hs:Fv S sp ds){a a':Act}(hf:Oa n S a)(hf':Oa n S' a')(hfa:En ds a a'){xs ys:List Va}(hx:D0 S' sp.vQ=some xs):Oa n (YH S sp (xs++ys)) a':=by
 obtain⟨hxl,hxg⟩:=Vh hx;have htk:(xs++ys).take sp.vQ.length=xs:=by rw[<-hxl]; exact List.take_left
 have AN7:∀i sv,(YH S sp (xs++ys)).F.get i=some sv->(∃(j:Nat) (k:CK) (v:Va),sp.vQ[j]? = some (i,k)/\xs[j]? = some v/\sv=.un (.v v))\/(i∈sp.nR/\S.F.get i=some sv/\∃e,sv=.un e):=λi sv h=>by
  simp only[YH,htk] at h;rcases zj3 (λp hp=>hs.vQ p hp) h with h1 | h1
  ·exact .inl h1
  ·exact .inr (Ab (λx hx=>(hs.nR x hx).2) h1)
 refine⟨hf'.size,λi x h=>?_,λi r pc x h=>?_⟩
 ·rcases AN7 i _ h with ⟨j,k,v,h1,h2,h3⟩ | ⟨h1,h2,_⟩
  ·obtain⟨e,he,hv⟩:=hxg j i k v h1 h2;have:=zbm hv (hf'.fits i e he);cases h3;exact this
  ·have h3:=hf.fits i x h2;rw[<-hfa.2.2 i (hs.nR i h1).1] at h3;exact EV.gY (S:=S) (λ_ _ h=>h) h3
 ·rcases AN7 i _ h with ⟨j,k,v,h1,h2,h3⟩ | ⟨h1,h2,e,h3⟩ <;> cases h3
theorem zj9{l m:List Nat}{k:Nat}(hk:k<=l.length)(h:∀(i b:Nat),l[i]? = some b->m[i]? = some b):m.take k=l.take k:=by
 apply List.ext_getElem?
 intro i;rw[List.getElem?_take,List.getElem?_take]
 by_cases hi:i<k
 ·rw[C' hi,C' hi];have hl:i<l.length:=Nat.lt_of_lt_of_le hi hk;rw[h i l[i] (Il hl),Il hl]
 ·rw[B' hi,B' hi]
theorem zdz{S S':St}{sp:ZD}{w w' wr Wc:Wo}{ds:List Nat}(hs:Fv S sp ds)(hw:Zm S w wr)(hw':Zm S' w' Wc)(hB:∀(id b:Nat),S.B[id]? = some b->S'.B[id]? = some b)(hty:∀(id:Nat) (t:TypeId) (cs:List Va),S.L[id]? = some (t,cs)->∃mL,S'.L[id]? = some (t,mL))(hlk:∀id,id<S.L.length->id∉sp.Wq.map (·.1)->S'.L[id]? = S.L[id]?){xs ys:List Va}(hxl:xs.length=sp.vQ.length)(hy:Lw S' sp.Wq=some ys) :
  (YH S sp (xs++ys)).L.length=S.L.length/\∀(id:Nat) (t:TypeId) (cs:List Va),(YH S sp (xs++ys)).L[id]? = some (t,cs)->∃b,S.B[id]? = some b/\Wc.heap[b]? = some (Obj.cells cs.toArray t (0,0)):=by
 have hdr:(xs++ys).drop sp.vQ.length=ys:=by rw[<-hxl]; exact List.drop_left
 obtain⟨h1,h2,h3⟩:=Lr (L:=S.L) hs.nd hy hty;have hL:(YH S sp (xs++ys)).L=VF S.L sp.Wq ys:=by simp only[YH,hdr]
 rw[hL];refine⟨h1,λid t cs hc=>?_⟩;have aW:id<S.L.length:=by rw[<-h1]; exact(I8.1 hc).1
 have hb:S.B[id]? = some (S.B[id]'(by rw[<-hw.len]; exact aW)):=Il _
 have hS':S'.L[id]? = some (t,cs):=by
  by_cases hm:id∈sp.Wq.map (·.1)
  ·exact h3 id t cs hm hc
  ·rw[h2 id hm] at hc;rw[hlk id aW hm]; exact hc
 obtain⟨b',iO,hh⟩:=hw'.loc id t cs hS';rw[hB _ _ hb] at iO;cases iO;exact⟨_,hb,hh⟩
theorem L6{S:St}{sp:ZD}{K:List Va->Prop}(h:zd1 S sp K):∃xs ys,D0 S sp.vQ=some xs/\Lw S sp.Wq=some ys/\Uz sp.ks (xs++ys)=true/\K (xs++ys):=by
 unfold zd1 at h
 split at h
 ·rename_i xs ys hx hy
  cases hk:Uz sp.ks (xs++ys) with
  | false=>rw[hk] at h; exact h.elim
  | true=>rw[hk] at h; exact⟨xs,ys,hx,hy,hk,h⟩
 ·exact h.elim
theorem znu{S S':St}{sp:ZD}{ds:List Nat}(hs:Fv S sp ds)(Wy:Gs S){vs:List Va}(hL:(YH S sp vs).L.length=S.L.length)(hLt:∀(id:Nat) (t:TypeId) (cs:List Va),S.L[id]? = some (t,cs)->∃mL,(YH S sp vs).L[id]? = some (t,mL))(hLk:∀id,id∉sp.Wq.map (·.1)->(YH S sp vs).L[id]? = S.L[id]?)(wD:Ky (YH S sp vs) S'):Ky S { S' with lk:=S.lk }/\(∀id,id<S.L.length->id∉sp.Wq.map (·.1)->S'.L[id]? = S.L[id]?):=by
 have h2:∀id,id<S.L.length->id∉sp.Wq.map (·.1)->S'.L[id]? = S.L[id]? := λid aW hm=>by
  have:=wD.lk id (My.2 ⟨aW,hm⟩);rw[this.2,hLk id hm]
 refine⟨⟨λid b hb=>wD.B id b hb,λid t cs hc=>?_,λid aW=>⟨aW,h2 id (Wy.lk id aW) (λhm=>hs.Wq id hm aW)⟩⟩,h2⟩;obtain⟨cs1,h1⟩:=hLt id t cs hc;exact wD.ty id t cs1 h1
theorem zjn{S:St}:∀{l:List (TypeId×List CK)} {n:Nat} {zs:List Va},zjm S n l=some zs->(Hw l zs).length=l.length/\(∀j,j<l.length->n+j<S.L.length)/\∀j,(Hw l zs)[j]? = if j<l.length then S.L[n+j]? else none
 | [],n,zs,h=>⟨rfl,λj hj=>Ir hj (Nat.not_lt_zero j),λj=>by simp[Hw]⟩
 | (t,ks)::r,n,zs,h=>by
  simp only[zjm] at h
  split at h
  ·rename_i t' cs l hL hl
   cases hb:Nat.beq t' t&&Nat.beq cs.length ks.length with
   | false=>rw[hb] at h; cases h
   | true=>
    rw[hb] at h;simp only[cond_true,I0] at h;subst h;simp only[A'] at hb;have h1:=Ib hb.1;have h2:=Ib hb.2;subst h1;obtain⟨g1,g2,g3⟩:=zjn hl;have ht:(cs++l).take ks.length=cs:=by rw[<-h2]; exact List.take_left
    have hdr:(cs++l).drop ks.length=l:=by rw[<-h2]; exact List.drop_left
    simp only[Hw,ht,hdr];refine⟨by simp[g1],λj hj=>?_,λj=>?_⟩
    ·cases j with
     | zero=>exact(I8.1 hL).1
     | succ j=>have:=g2 j (by simpa using hj); omega
    ·cases j with
     | zero=>simp[hL]
     | succ j=>
      have:=g3 j;simp only[List.getElem?_cons_succ,List.length_cons];rw[this];have e:n+1+j=n+(j+1):=Qo;rw[e]
      by_cases hj:j<r.length
      ·rw[C' hj,C' Qo]
      ·rw[B' hj,B' Qo]
  ·cases h
theorem zqq{S:St}{n k:Nat}{l:List (Nat×Nat)}(h:zjt S n k l=true):∀p∈l,p.1<4000/\p.2<k/\S.F.get p.1=some (.un (.loc (n+p.2) 0)):=λp hp=>by
 simp only[zjt,List.all_eq_true,A'] at h;obtain⟨⟨h1,h2⟩,h3⟩:=h p hp;refine⟨Ik h1,Ik h2,?_⟩
 split at h3
 ·rename_i id aW;rw[aW,Ib h3]
 ·cases h3
theorem Ay{F:PT SV}{n:Nat}:∀{l:List (Nat×Nat)} {i:Nat} {sv:SV},(∀p∈l,p.1<4000)->(zsr F n l).get i=some sv->(∃j,(i,j)∈l/\sv=.un (.loc (n+j) 0))\/F.get i=some sv
 | [],i,sv,_,h=>.inr h
 | (a,j)::r,i,sv,hl,h=>by
  have hr:∀p∈r,p.1<4000:=λx hx=>hl x (I1 _ hx)
  simp only[zsr] at h;rw[PT.kK _ 12 _ _ _ (by have h1:=hl (a,j) (I9 ..); show @LT.lt Nat _ (a+1) (2 ^ 12); simp only at h1; omega)] at h
  by_cases hk:a=i
  ·subst hk;rw[C' rfl] at h;simp only[I0] at h;exact .inl ⟨j,I9 ..,h.symm⟩
  ·rw[B' hk] at h;rcases Ay hr h with ⟨q,h1,h2⟩ | h1
   ·exact .inl ⟨q,I1 _ h1,h2⟩
   ·exact .inr h1
theorem zje{S S':St}{sp:ZD}{K:List Va->List Nat->Prop}(h:zr5 S S' sp K):∃xs ys zs,D0 S' sp.vQ=some xs/\Lw S' sp.Wq=some ys/\zjm S' S.L.length sp.aS=some zs/\Uz sp.ks (xs++ys)=true/\Uz sp.nks zs=true/\zjt S' S.L.length sp.aS.length sp.ptr=true/\
  K (xs++ys++zs) ((S'.B.drop S.B.length).take sp.aS.length):=by
 unfold zr5 at h
 split at h
 ·rename_i zs hz
  cases hb:Uz sp.nks zs&&zjt S' S.L.length sp.aS.length sp.ptr with
  | false=>rw[hb] at h; exact h.elim
  | true=>
   rw[hb] at h;simp only[cond_true] at h;simp only[A'] at hb;obtain⟨xs,ys,h1,h2,h3,h4⟩:=L6 h;exact⟨xs,ys,zs,h1,h2,hz,h3,hb.1,hb.2,h4⟩
 ·exact h.elim
theorem zun{l m:List Nat}(h:∀(i b:Nat),l[i]? = some b->m[i]? = some b):m.take l.length=l:=by
 have:=zj9 (I7 l.length) h;rw[this,List.take_length]
theorem zr6{n:Nat}{S S':St}{sp:ZD}{w w' wr Wc:Wo}{ds:List Nat}{a a':Act}(hs:Fv S sp ds)(hf:Oa n S a)(hw:Zm S w wr)(Wy:Gs S)(hf':Oa n S' a')(hw':Zm S' w' Wc)(hfa:En ds a a')(wD:Ky { S with lk:=Ei S sp } S'){xs ys zs:List Va}(hx:D0 S' sp.vQ=some xs)(hy:Lw S' sp.Wq=some ys)(hz:zjm S' S.L.length sp.aS=some zs)(hp:zjt S' S.L.length sp.aS.length sp.ptr=true) :
  ((S'.B.drop S.B.length).take sp.aS.length).length=sp.aS.length/\(∀b∈S.B++(S'.B.drop S.B.length).take sp.aS.length,b∈S'.B)/\
  Oa n (E9 S sp (xs++ys) zs ((S'.B.drop S.B.length).take sp.aS.length)) a'/\Gs (E9 S sp (xs++ys) zs ((S'.B.drop S.B.length).take sp.aS.length))/\Ky S (E9 S sp (xs++ys) zs ((S'.B.drop S.B.length).take sp.aS.length))/\
  Zm (E9 S sp (xs++ys) zs ((S'.B.drop S.B.length).take sp.aS.length)).cI Wc Wc/\(w'=w->S'.old=S.old->Zm (E9 S sp (xs++ys) zs ((S'.B.drop S.B.length).take sp.aS.length)) w Wc):=by
 obtain⟨n1,n2,n3⟩:=zjn hz;have hB:∀(id b:Nat),S.B[id]? = some b->S'.B[id]? = some b:=wD.B;have CQ5:=zun hB;have CO8:=hw.len;have Co8:=hw'.len
 have hk:S.B.length+sp.aS.length<=S'.B.length:=by
  rcases Nat.eq_zero_or_pos sp.aS.length with h0 | h0
  ·have:S.B.length<=S'.B.length:=by
    have:=congrArg List.length CQ5;rw[List.length_take] at this;omega
   omega
  ·have:=n2 (sp.aS.length-1) Qo;omega
 have hbl:((S'.B.drop S.B.length).take sp.aS.length).length=sp.aS.length:=by rw[List.length_take,List.length_drop]; omega
 have hGB:S.B++(S'.B.drop S.B.length).take sp.aS.length=S'.B.take (S.B.length+sp.aS.length):=by
  rw[List.take_add,CQ5]
 have Ax0:∀(id b:Nat),id<S.B.length+sp.aS.length->S'.B[id]? = some b->(S.B++(S'.B.drop S.B.length).take sp.aS.length)[id]? = some b:=λid b aW hb=>by
  rw[hGB,List.getElem?_take,C' aW]; exact hb
 have B69:∀(id b:Nat),(S.B++(S'.B.drop S.B.length).take sp.aS.length)[id]? = some b->S'.B[id]? = some b:=λid b hb=>by
  rw[hGB,List.getElem?_take] at hb
  split at hb
  ·exact hb
  ·cases hb
 obtain⟨t1,t2⟩:=Lr (L:=S.L) hs.nd hy wD.ty;have hlk:∀id,id<S.L.length->id∉sp.Wq.map (·.1)->S'.L[id]? = S.L[id]? := λid aW hm=>(wD.lk id (My.2 ⟨aW,hm⟩)).2
 have hxl:=(Vh hx).1;obtain⟨g1,g2⟩:=zdz hs hw hw' hB wD.ty hlk hxl hy;have hhf:=zdy (ys:=ys) hs hf hf' hfa hx;have hdr:(xs++ys).drop sp.vQ.length=ys:=by rw[<-hxl]; exact List.drop_left
 have hL:(YH S sp (xs++ys)).L=VF S.L sp.Wq ys:=by simp only[YH,hdr]
 have hpp:=zqq hp
 have B88:Oa n (E9 S sp (xs++ys) zs ((S'.B.drop S.B.length).take sp.aS.length)) a':=by
  have CP5:∀(id b:Nat),(YH S sp (xs++ys)).B[id]? = some b->(E9 S sp (xs++ys) zs ((S'.B.drop S.B.length).take sp.aS.length)).B[id]? = some b:=λid b hb=>by
   have iO:S.B[id]? = some b:=hb;exact Ax0 id b (by have:=(I8.1 iO).1; omega) (hB id b iO)
  refine⟨hhf.size,λi x h=>?_,λi r pc x h=>?_⟩
  ·rcases Ay (λp hp=>(hpp p hp).1) h with ⟨j,h1,h2⟩ | h1
   ·obtain⟨_,hj,hF⟩:=hpp (i,j) h1;have hd:=hf'.fits i _ hF;cases h2;obtain⟨b,hb,hv⟩:=hd;exact⟨b,Ax0 _ _ (by simp only at hj; omega) hb,hv⟩
   ·exact EV.gY (S:=YH S sp (xs++ys)) CP5 (hhf.fits i x h1)
  ·rcases Ay (λp hp=>(hpp p hp).1) h with ⟨j,h1,h2⟩ | h1
   ·cases h2
   ·exact hhf.old i r pc x h1
 have sD:∀(id:Nat) (t:TypeId) (cs:List Va),((YH S sp (xs++ys)).L++Hw sp.aS zs)[id]? = some (t,cs)->∃b,(S.B++(S'.B.drop S.B.length).take sp.aS.length)[id]? = some b/\Wc.heap[b]? = some (Obj.cells cs.toArray t (0,0)):=λid t cs hc=>by
  by_cases aW:id<S.L.length
  ·rw[Ip (by rw[g1]; exact aW)] at hc;obtain⟨b,h1,h2⟩:=g2 id t cs hc;exact⟨b,Ax0 id b Qo (hB id b h1),h2⟩
  ·rw[List.getElem?_append_right (by rw[g1]; omega),g1,n3] at hc
   split at hc
   ·rename_i IT;have e:S.L.length+(id-S.L.length)=id:=Qo;rw[e] at hc;obtain⟨b,h1,h2⟩:=hw'.loc id t cs hc;exact⟨b,Ax0 id b Qo h1,h2⟩
   ·cases hc
 have hlen:((YH S sp (xs++ys)).L++Hw sp.aS zs).length=(S.B++(S'.B.drop S.B.length).take sp.aS.length).length:=by
  rw[Io,Io,g1,n1,hbl,CO8]
 have hnd:(S.B++(S'.B.drop S.B.length).take sp.aS.length).Nodup:=by
  rw[hGB]; exact hw'.nM.sublist (List.take_sublist _ _)
 refine⟨hbl,λb hb=>by rw[hGB] at hb; exact List.mem_of_mem_take hb,B88,⟨?_,λid aW=>?_⟩,⟨λid b hb=>?_,λid t cs hc=>?_,λid aW=>⟨aW,?_⟩⟩,⟨?_,sD,hlen,hnd,λid b aW hb=>?_⟩,λe1 e2=>⟨?_,sD,hlen,hnd,λid b aW hb=>?_⟩⟩
 ·show S.old<=(S.B++(S'.B.drop S.B.length).take sp.aS.length).length;have:=Wy.old;rw[Io]; omega
 ·show id<((YH S sp (xs++ys)).L++Hw sp.aS zs).length;have:=Wy.lk id aW;rw[Io,g1]; omega
 ·exact Ax0 id b (by have:=(I8.1 hb).1; omega) (hB id b hb)
 ·have aW:id<S.L.length:=(I8.1 hc).1;obtain⟨u1,u2⟩:(∀(id:Nat) (t:TypeId) (cs:List Va),id∈sp.Wq.map (·.1)->(VF S.L sp.Wq ys)[id]? = some (t,cs)->S'.L[id]? = some (t,cs))/\True:=⟨t2.2,trivial⟩;have IT:id<(VF S.L sp.Wq ys).length:=by rw[t1]; exact aW
  have hg:(VF S.L sp.Wq ys)[id]? = some (((VF S.L sp.Wq ys)[id]).1,((VF S.L sp.Wq ys)[id]).2):=Il IT;show ∃mL,((YH S sp (xs++ys)).L++Hw sp.aS zs)[id]? = some (t,mL);rw[Ip (by rw[g1]; exact aW),hL]
  by_cases hm:id∈sp.Wq.map (·.1)
  ·have h4:=u1 id _ _ hm hg;obtain⟨mL,h5⟩:=wD.ty id t cs hc;rw[h5] at h4;simp only[I0,Prod.mk.injEq] at h4;exact⟨((VF S.L sp.Wq ys)[id]).2,by rw[hg,<-h4.1]⟩
  ·exact⟨cs,by rw[t2.1 id hm]; exact hc⟩
 ·have IT:=Wy.lk id aW;show ((YH S sp (xs++ys)).L++Hw sp.aS zs)[id]? = S.L[id]?;rw[Ip (by rw[g1]; exact IT),hL,t2.1 id λhm=>hs.Wq id hm aW]
 ·exact Q0.refl _ _
 ·have h1:id<(S.B++(S'.B.drop S.B.length).take sp.aS.length).length:=(I8.1 hb).1;have h2:(S.B++(S'.B.drop S.B.length).take sp.aS.length).length<=id:=aW;omega
 ·have hbs:(E9 S sp (xs++ys) zs ((S'.B.drop S.B.length).take sp.aS.length)).bs=S'.bs:=by
   show (S.B++(S'.B.drop S.B.length).take sp.aS.length).take S.old=S'.B.take S'.old;rw[e2];have h1:=Wy.old;rw[hGB,List.take_take,Nat.min_eq_left Qo]
  rw[hbs,<-e1]; exact hw'.ext
 ·have h1:S'.B[id]? = some b:=B69 id b hb;have:=hw'.fresh id b (by rw[e2]; exact aW) h1;rw[e1] at this;exact this
structure zys (C:Uk) (S:St) (w:Wo) (ds:List Nat) (a:Act) (sp:ZD) (vs:List Va) (w1:Wo) (a':Act) (Wc:Wo):Prop where
 fit:Oa C.n (YH S sp vs) a'
 rel:Zm (YH S sp vs) w1 Wc
 wf:Gs (YH S sp vs)
 fra:En ds a a'
theorem zd0{S S':St}{sp:ZD}(hnd:(sp.Wq.map (·.1)).Nodup)(hty:∀(id:Nat) (t:TypeId) (cs:List Va),S.L[id]? = some (t,cs)->∃mL,S'.L[id]? = some (t,mL)){xs ys:List Va}(hxl:xs.length=sp.vQ.length)(hy:Lw S' sp.Wq=some ys) :
  (∀(id:Nat) (t:TypeId) (cs:List Va),S.L[id]? = some (t,cs)->∃mL,(YH S sp (xs++ys)).L[id]? = some (t,mL))/\(∀id,id∉sp.Wq.map (·.1)->(YH S sp (xs++ys)).L[id]? = S.L[id]?):=by
 have hdr:(xs++ys).drop sp.vQ.length=ys:=by rw[<-hxl]; exact List.drop_left
 obtain⟨h1,h2,h3⟩:=Lr (L:=S.L) hnd hy hty;have hL:(YH S sp (xs++ys)).L=VF S.L sp.Wq ys:=by simp only[YH,hdr]
 rw[hL];refine⟨λid t cs hc=>?_,h2⟩;have aW:id<(VF S.L sp.Wq ys).length:=by rw[h1]; exact(I8.1 hc).1
 by_cases hm:id∈sp.Wq.map (·.1)
 ·have hg:(VF S.L sp.Wq ys)[id]? = some (((VF S.L sp.Wq ys)[id]).1,((VF S.L sp.Wq ys)[id]).2):=Il aW;have h4:=h3 id _ _ hm hg;obtain⟨mL,h5⟩:=hty id t cs hc;rw[h5] at h4;simp only[I0,Prod.mk.injEq] at h4;exact⟨((VF S.L sp.Wq ys)[id]).2,by rw[hg,<-h4.1]⟩
 ·exact⟨cs,by rw[h2 id hm]; exact hc⟩
theorem BG{n:Nat}{S:St}{a:Act}(hf:Oa n S a){x:Operand}{e:EV}(hb:zgb S [] x=some e):EV.den S e (a.eval x):=by
 have:=Y4 (ops:=#[]) (hf.enter #[] (λ_=>False)).fit (pc:=[]) (λp hp=>by cases hp) (S:={ S with r:=S.r+1 }) (x:=x) (e:=e) (by
  cases x with
  | tmp t=>
   simp only[zgb] at hb ⊢
   split at hb
   ·exact hb
   ·rename_i r vX y hg
    cases bR:Nat.beq r S.r&&zfk vX [] with
    | false=>rw[bR] at hb; cases hb
    | true=>
     simp only[A'] at bR;have:=Ib bR.1;have h2:=hf.old t r vX y hg;omega
   ·cases hb
  | const v=>exact hb
  | global g=>exact hb
  | func f=>exact hb)
 exact EV.gY (S:={ S with r:=S.r+1 }) (λ_ _ h=>h) this
theorem zmo(S:St)(c:Operand)(x:Bool):(tR S c x).L=S.L/\(tR S c x).B=S.B/\(tR S c x).old=S.old/\(tR S c x).lk=S.lk/\(tR S c x).r=S.r:=by
 unfold tR;split
 ·cases Nat.blt _ 4000 <;> exact⟨rfl,rfl,rfl,rfl,rfl⟩
 ·exact⟨rfl,rfl,rfl,rfl,rfl⟩
theorem Oa.tR{n:Nat}{S:St}{a:Act}(hf:Oa n S a){c:Operand}{x:Bool}(hc:a.eval c=.bool x):Oa n (tR S c x) a:=by
 unfold YtnclplgaicdapaaGreatDoor.tR;split
 ·rename_i t
  cases hl:Nat.blt t 4000 with
  | false=>exact hf
  | true=>
   have IT:t<4000:=Ik hl;have hg:∀i,(PT.set 12 S.F t (.un (.kb x))).get i=if t=i then some (.un (.kb x)) else S.F.get i:=λi=>PT.kK _ 12 S.F t i (by have h1 : @LT.lt Nat _ t 4000:=IT; show @LT.lt Nat _ (t+1) (2 ^ 12); omega)
   refine⟨hf.size,λi y hy=>?_,λi r pc y hy=>?_⟩
   ·have hy:(PT.set 12 S.F t (.un (.kb x))).get i=some (.un y):=hy;rw[hg i] at hy
    by_cases hti:t=i
    ·subst hti;rw[C' rfl] at hy;simp only[I0,SV.un.injEq] at hy;subst hy;exact hc
    ·rw[B' hti] at hy;exact EV.gY (S:=S) (λ_ _ h=>h) (hf.fits i y hy)
   ·have hy:(PT.set 12 S.F t (.un (.kb x))).get i=some (.gd r pc y):=hy;rw[hg i] at hy
    by_cases hti:t=i
    ·rw[C' hti] at hy; cases hy
    ·rw[B' hti] at hy; exact hf.old i r pc y hy
 ·exact hf
theorem zox{S:St}{w wr:Wo}{c:Operand}{x:Bool}(h:Zm S w wr):Zm (tR S c x) w wr:=by
 obtain⟨h1,h2,h3,h4,h5⟩:=zmo S c x;refine⟨?_,?_,?_,?_,?_⟩
 ·unfold St.bs; rw[h2,h3]; exact h.ext
 ·rw[h1,h2]; exact h.loc
 ·rw[h1,h2]; exact h.len
 ·rw[h2]; exact h.nM
 ·rw[h2,h3]; exact h.fresh
theorem zsq{S:St}{c:Operand}{x:Bool}(h:Gs S):Gs (tR S c x):=by
 obtain⟨h1,h2,h3,h4,h5⟩:=zmo S c x;exact⟨by rw[h2,h3]; exact h.old,by rw[h1,h4]; exact h.lk⟩
theorem zow{C:Uk}{S:St}{w:Wo}{ds:List Nat}{a:Act}{S':St}{w':Wo}{a':Act}{Wc:Wo}{c:Operand}{x:Bool}(h:MA C (tR S c x) w ds a S' w' a' Wc):MA C S w ds a S' w' a' Wc:=by
 obtain⟨h1,h2,h3,h4,h5⟩:=zmo S c x;refine⟨h.fit,h.rel,h.wf,⟨?_,?_,?_⟩,h.fra,?_⟩
 ·have:=h.fr.B; rw[h2] at this; exact this
 ·have:=h.fr.ty; rw[h1] at this; exact this
 ·have:=h.fr.lk; rw[h1,h4] at this; exact this
 ·have:=h.pm; rw[h3] at this; exact this
theorem Yn{C:Uk}(E:zrg C){sps:List (Nat×ZD)}:∀(c:Code) (S:St) (w wr:Wo) (a:Act) (K:Exit->St->Wo->Prop) (Q:Exit->Act->Wo->Prop),E5 C sps c S w K->Oa C.n S a->Zm S w wr->Gs S->
  (∀e S' w' a' Wc,K e S' w'->MA C S w (YA c) a S' w' a' Wc->Q e a' Wc)->c.wpIn (UX C.rd) 0 C.P Q a wr
 | .skip,S,w,wr,a,K,Q,h,hf,hw,Wy,hQ=>wpIn_skip (hQ _ _ _ _ _ h (MA.refl _ hf hw Wy))
 | .label _,S,w,wr,a,K,Q,h,hf,hw,Wy,hQ=>wpIn_label (hQ _ _ _ _ _ h (MA.refl _ hf hw Wy))
 | .exit _,S,w,wr,a,K,Q,h,hf,hw,Wy,hQ=>wpIn_exit (hQ _ _ _ _ _ h (MA.refl _ hf hw Wy))
 | .ret,S,w,wr,a,K,Q,h,hf,hw,Wy,hQ=>wpIn_ret (hQ _ _ _ _ _ h (MA.refl _ hf hw Wy))
 | .region _ ops d,S,w,wr,a,K,Q,h,hf,hw,Wy,hQ=>znh E h hf hw Wy λS' w' a' Wc hK he=>hQ _ _ _ _ _ hK he
 | .seq x y,S,w,wr,a,K,Q,h,hf,hw,Wy,hQ=>by
  have At7:∀z∈YA x,z∈YA (.seq x y):=λz hz=>Ia _ hz
  have BT3:∀z∈YA y,z∈YA (.seq x y):=λz hz=>Iw _ hz
  simp only[E5] at h
  split at h
  ·refine wpIn_seq (Yn E x S w wr a _ _ h hf hw Wy λe S' w' a' Wc hK he=>?_)
   cases e with
   | normal=>exact Yn E y S' w' Wc a' _ _ hK he.fit he.rel he.wf λe2 S2 w2 a2 O' gV aM=>hQ _ _ _ _ _ gV (he.trans aM At7 BT3)
   | _=>exact hQ _ _ _ _ _ hK (he.mono At7)
  ·rename_i sp _
   cases hok:zuw S sp (YA x) with
   | false=>rw[hok] at h; exact h.elim
   | true=>
    rw[hok] at h;simp only[cond_true] at h;have hs:=zfy hok;have hf0:Oa C.n { S with lk:=Ei S sp } a:=⟨hf.size,hf.fits,hf.old⟩;have hw0:Zm { S with lk:=Ei S sp } w wr:=⟨hw.ext,hw.loc,hw.len,hw.nM,hw.fresh⟩;have CS3:Gs { S with lk:=Ei S sp }:=⟨Wy.old,λid aW=>(My.1 aW).1⟩
    have out:∀{S':St} {w':Wo} {a':Act} {Wc:Wo},MA C { S with lk:=Ei S sp } w (YA x) a S' w' a' Wc->MA C S w (YA (.seq x y)) a { S' with lk:=S.lk } w' a' Wc:=λ{S' w' a' Wc} he=>by
     have f1:Ky S { S' with lk:=S.lk }:=⟨he.fr.B,he.fr.ty,λid aW=>⟨aW,(he.fr.lk id (My.2 ⟨Wy.lk id aW,λhm=>hs.Wq id hm aW⟩)).2⟩⟩
     exact⟨⟨he.fit.size,he.fit.fits,he.fit.old⟩,⟨he.rel.ext,he.rel.loc,he.rel.len,he.rel.nM,he.rel.fresh⟩,⟨he.wf.old,λid aW=>by
      obtain⟨mL,hc'⟩:=f1.ty id (S.L[id]'(Wy.lk id aW)).1 (S.L[id]'(Wy.lk id aW)).2 (Il _);exact(I8.1 hc').1⟩,f1,he.fra.mono At7,he.pm⟩
    cases jZ:C.pm with
    | true=>
     rw[jZ] at h;simp only[cond_true] at h;obtain⟨vF,h1,h2⟩:=h;refine wpIn_seq (Yn E x _ w wr a _ _ h1 hf0 hw0 CS3 λe S' w' a' Wc hK he=>?_)
     cases e with
     | normal=>
      obtain⟨xs,ys,zs,g1,g2,g3,g4,g5,g6,g7⟩:=zje hK;obtain⟨j1,j2,j3,j4,j5,j6,j7⟩:=zr6 hs hf hw Wy he.fit he.rel he.fra he.fr g1 g2 g3 g6;obtain⟨p1,p2⟩:=he.pm jZ;refine Yn E y _ w Wc a' _ _ (NE (Ox (Ox h2 g4) g5) j1 g7) j3 (j7 p1 p2) j4 λe2 S2 w2 a2 O' gV aM=>hQ _ _ _ _ _ gV ⟨aM.fit,aM.rel,aM.wf,j5.trans aM.fr,(he.fra.mono At7).trans (aM.fra.mono BT3),λhp=>aM.pm hp⟩
     | _=>exact hQ _ _ _ _ _ hK (out he)
    | false=>
     rw[jZ] at h;simp only[cond_false] at h;obtain⟨vF,h1,h2⟩:=h;refine wpIn_seq (Yn E x _ w wr a _ _ h1 hf0 hw0 CS3 λe S' w' a' Wc hK he=>?_)
     cases e with
     | normal=>
      obtain⟨xs,ys,zs,g1,g2,g3,g4,g5,g6,g7⟩:=zje (hK Wc he.rel.ext he.rel.lt);obtain⟨j1,j2,j3,j4,j5,j6,j7⟩:=zr6 hs hf hw Wy he.fit he.rel he.fra he.fr g1 g2 g3 g6;refine Yn E y _ Wc Wc a' _ _ (NE (Ox (Ox h2 g4) g5) j1 Wc (λb hb=>he.rel.lt b (j2 b hb)) g7) ⟨j3.size,j3.fits,j3.old⟩ j6 ⟨I7 _,j4.lk⟩ λe2 S2 w2 a2 O' gV aM=>hQ _ _ _ _ _ gV ⟨aM.fit,aM.rel,aM.wf,j5.trans ⟨aM.fr.B,aM.fr.ty,aM.fr.lk⟩,(he.fra.mono At7).trans (aM.fra.mono BT3),λhp=>by rw[jZ] at hp; cases hp⟩
     | _=>exact hQ _ _ _ _ _ hK (out he)
 | .cond c x y,S,w,wr,a,K,Q,h,hf,hw,Wy,hQ=>by
  simp only[E5] at h
  split at h
  ·rename_i hb;have hc:a.eval c=.bool true:=BG hf hb;refine wpIn_cond_split hc (λhb=>?_) (λhb=>by cases hb);exact Yn E x S w wr a _ _ h hf hw Wy λe S' w' a' Wc hK he=>hQ _ _ _ _ _ hK (he.mono λz hz=>Ia _ hz)
  ·rename_i hb;have hc:a.eval c=.bool false:=BG hf hb;refine wpIn_cond_split hc (λhb=>by cases hb) (λhb=>?_);exact Yn E y S w wr a _ _ h hf hw Wy λe S' w' a' Wc hK he=>hQ _ _ _ _ _ hK (he.mono λz hz=>Iw _ hz)
  ·rename_i b hb;have hc:a.eval c=.bool b:=BG hf hb;refine wpIn_cond_split hc (λhb=>?_) (λhb=>?_)
   ·subst hb;exact Yn E x (tR S c true) w wr a _ _ (h.1 rfl) (hf.tR hc) (zox hw) (zsq Wy) λe S' w' a' Wc hK he=>hQ _ _ _ _ _ hK ((zow he).mono λz hz=>Ia _ hz)
   ·subst hb;exact Yn E y (tR S c false) w wr a _ _ (h.2 rfl) (hf.tR hc) (zox hw) (zsq Wy) λe S' w' a' Wc hK he=>hQ _ _ _ _ _ hK ((zow he).mono λz hz=>Iw _ hz)
  ·exact h.elim
 | .scope b,S,w,wr,a,K,Q,h,hf,hw,Wy,hQ=>by
  refine E1 (Yn E b S w wr a _ _ h hf hw Wy λe S' w' a' Wc hK he=>?_)
  cases e with
  | goto l=>exact hK.elim
  | _=>exact hQ _ _ _ _ _ hK he
 | .block id b,S,w,wr,a,K,Q,h,hf,hw,Wy,hQ=>by
  refine wpIn_block (Yn E b S w wr a _ _ h hf hw Wy λe S' w' a' Wc hK he=>?_)
  cases e with
  | exit id'=>
   simp only[Exit.inBlock]
   dsimp only at hK
   cases hb:Nat.beq id' id with
   | true=>
    rw[hb] at hK;rw[C' (Ib hb)];exact hQ _ _ _ _ _ hK he
   | false=>
    rw[hb] at hK;rw[B' (λe=>by rw[e,Nat.beq_refl] at hb; cases hb)];exact hQ _ _ _ _ _ hK he
  | _=>exact hQ _ _ _ _ _ hK he
 | .loop b,S,w,wr,a,K,Q,h,hf,hw,Wy,hQ=>by
  simp only[E5] at h
  split at h
  ·exact h.elim
  ·rename_i key DH6
   split at h
   ·exact h.elim
   ·rename_i sp hsp
    cases hok:zuw S sp (YA b) with
    | false=>rw[hok] at h; exact h.elim
    | true=>
     rw[hok] at h;simp only[cond_true] at h;have hs:=zfy hok
     cases jZ:C.pm with
     | true=>
      rw[jZ] at h;simp only[cond_true] at h;obtain⟨Jw,μ,Bg4,oI⟩:=h
      have mk:∀(S':St) (a':Act) (Wc:Wo) (xs ys:List Va),Oa C.n S' a'->Zm S' w Wc->S'.old=S.old->En (YA b) a a'->(∀(id b:Nat),S.B[id]? = some b->S'.B[id]? = some b)->
        (∀(id:Nat) (t:TypeId) (cs:List Va),S.L[id]? = some (t,cs)->∃mL,S'.L[id]? = some (t,mL))->(∀id,id<S.L.length->id∉sp.Wq.map (·.1)->S'.L[id]? = S.L[id]?)->
        D0 S' sp.vQ=some xs->Lw S' sp.Wq=some ys->zys C S w (YA b) a sp (xs++ys) w a' Wc:=by
       intro S' a' Wc xs ys h1 h2 h3 h4 h5 h6 h7 h8 h9;obtain⟨g1,g2⟩:=zdz hs hw h2 h5 h6 h7 (Vh h8).1 h9;refine⟨zdy hs hf h1 h4 h8,⟨?_,g2,by rw[g1]; exact hw.len,hw.nM,hw.fresh⟩,⟨Wy.old,λid aW=>by rw[g1]; exact(My.1 aW).1⟩,h4⟩;have hbs:S'.bs=S.bs:=by unfold St.bs; rw[h3]; exact zj9 Wy.old h5
       have:=h2.ext;rw[hbs] at this;exact this
      obtain⟨xs,ys,hx,hy,hk,hI⟩:=L6 Bg4
      refine Na (λn a' Wc=>∃xs ys S',μ (xs++ys)=n/\Jw (xs++ys)/\Uz sp.ks (xs++ys)=true/\xs.length=sp.vQ.length/\Lw S' sp.Wq=some ys/\(∀(id:Nat) (t:TypeId) (cs:List Va),S.L[id]? = some (t,cs)->∃mL,S'.L[id]? = some (t,mL))/\zys C S w (YA b) a sp (xs++ys) w a' Wc)
       (m:=μ (xs++ys)) ⟨xs,ys,S,rfl,hI,hk,(Vh hx).1,hy,λ_ _ cs h=>⟨cs,h⟩,mk S a wr xs ys hf hw rfl (En.refl _ _) (λ_ _ h=>h) (λ_ _ cs h=>⟨cs,h⟩) (λ_ _ _=>rfl) hx hy⟩ ?_
      rintro n a' Wc ⟨xs,ys,S',rfl,hI,hk,hxl,hyl,hty,hH⟩;obtain⟨t1,t2⟩:=zd0 hs.nd hty hxl hyl
      have hlen:(YH S sp (xs++ys)).L.length=S.L.length:=by
       have:=hH.rel.len;rw[this]; exact hw.len.symm
      refine Yn E b _ w Wc a' _ _ (Ox oI hk hI) hH.fit hH.rel hH.wf λe S2 w2 a2 O' hK he=>?_
      obtain⟨f1,f2⟩:=znu hs Wy hlen t1 t2 he.fr;obtain⟨p1,p2⟩:=he.pm jZ;subst p1
      cases e with
      | normal=>
       obtain⟨xs',ys',fU,hy',hk',hI',IT⟩:=L6 hK;refine⟨μ (xs'++ys'),IT,xs',ys',S2,rfl,hI',hk',(Vh fU).1,hy',f1.ty,?_⟩;exact mk S2 a2 O' xs' ys' he.fit he.rel p2 (hH.fra.trans he.fra) f1.B f1.ty f2 fU hy'
      | _=>
       exact hQ _ _ _ _ _ hK ⟨⟨he.fit.size,he.fit.fits,he.fit.old⟩,⟨he.rel.ext,he.rel.loc,he.rel.len,he.rel.nM,he.rel.fresh⟩,
        ⟨he.wf.old,λid aW=>by
         obtain⟨mL,hc'⟩:=f1.ty id (S.L[id]'(Wy.lk id aW)).1 (S.L[id]'(Wy.lk id aW)).2 (Il _);exact(I8.1 hc').1⟩,f1,hH.fra.trans he.fra,λ_=>⟨rfl,p2⟩⟩
     | false=>
      rw[jZ] at h;simp only[cond_false] at h;obtain⟨Jw,μ,Bg4,oI⟩:=h
      have mk:∀(S':St) (w':Wo) (a':Act) (Wc:Wo) (xs ys:List Va),Oa C.n S' a'->Zm S' w' Wc->En (YA b) a a'->(∀(id b:Nat),S.B[id]? = some b->S'.B[id]? = some b)->
        (∀(id:Nat) (t:TypeId) (cs:List Va),S.L[id]? = some (t,cs)->∃mL,S'.L[id]? = some (t,mL))->(∀id,id<S.L.length->id∉sp.Wq.map (·.1)->S'.L[id]? = S.L[id]?)->
        D0 S' sp.vQ=some xs->Lw S' sp.Wq=some ys->zys C S.cI Wc (YA b) a sp (xs++ys) Wc a' Wc:=by
       intro S' w' a' Wc xs ys h1 h2 h4 h5 h6 h7 h8 h9;obtain⟨g1,g2⟩:=zdz hs hw h2 h5 h6 h7 (Vh h8).1 h9;have hf1:=zdy (ys:=ys) hs hf h1 h4 h8;refine⟨⟨hf1.size,hf1.fits,hf1.old⟩,⟨Q0.refl _ _,g2,by show (YH S sp (xs++ys)).L.length=_; rw[g1]; exact hw.len,hw.nM,λid b aW hb=>?_⟩,⟨I7 _,λid aW=>by show id<(YH S sp (xs++ys)).L.length; rw[g1]; exact(My.1 aW).1⟩,h4⟩;have:id<S.B.length:=(I8.1 hb).1;have DH0:S.B.length<=id:=aW;omega
      obtain⟨xs,ys,hx,hy,hk,hI⟩:=L6 (Bg4 wr hw.ext hw.lt)
      refine Na (λn a' Wc=>∃xs ys S',μ (xs++ys) Wc=n/\Jw (xs++ys) Wc/\Uz sp.ks (xs++ys)=true/\xs.length=sp.vQ.length/\Lw S' sp.Wq=some ys/\(∀(id:Nat) (t:TypeId) (cs:List Va),S.L[id]? = some (t,cs)->∃mL,S'.L[id]? = some (t,mL))/\zys C S.cI Wc (YA b) a sp (xs++ys) Wc a' Wc)
       (m:=μ (xs++ys) wr) ⟨xs,ys,S,rfl,hI,hk,(Vh hx).1,hy,λ_ _ cs h=>⟨cs,h⟩,mk S w a wr xs ys hf hw (En.refl _ _) (λ_ _ h=>h) (λ_ _ cs h=>⟨cs,h⟩) (λ_ _ _=>rfl) hx hy⟩ ?_
      rintro n a' Wc ⟨xs,ys,S',rfl,hI,hk,hxl,hyl,hty,hH⟩;obtain⟨t1,t2⟩:=zd0 hs.nd hty hxl hyl
      have hlen:(YH S sp (xs++ys)).L.length=S.L.length:=by
       have:(YH S.cI sp (xs++ys)).L.length=S.B.length:=hH.rel.len;rw[<-hw.len] at this;exact this
      refine Yn E b _ Wc Wc a' _ _ (Ox oI hk Wc hH.rel.lt hI) hH.fit hH.rel hH.wf λe S2 w2 a2 O' hK he=>?_
      have sB:Ky (YH S sp (xs++ys)) S2:=⟨he.fr.B,he.fr.ty,he.fr.lk⟩;obtain⟨f1,f2⟩:=znu hs Wy hlen t1 t2 sB
      cases e with
      | normal=>
       obtain⟨xs',ys',fU,hy',hk',hI',IT⟩:=L6 (hK O' he.rel.ext he.rel.lt);refine⟨μ (xs'++ys') O',IT,xs',ys',S2,rfl,hI',hk',(Vh fU).1,hy',f1.ty,?_⟩;exact mk S2 w2 a2 O' xs' ys' he.fit he.rel (hH.fra.trans he.fra) f1.B f1.ty f2 fU hy'
      | _=>
       exact hQ _ _ _ _ _ hK ⟨⟨he.fit.size,he.fit.fits,he.fit.old⟩,⟨he.rel.ext,he.rel.loc,he.rel.len,he.rel.nM,he.rel.fresh⟩,
        ⟨he.wf.old,λid aW=>by
         obtain⟨mL,hc'⟩:=f1.ty id (S.L[id]'(Wy.lk id aW)).1 (S.L[id]'(Wy.lk id aW)).2 (Il _);exact(I8.1 hc').1⟩,f1,hH.fra.trans he.fra,λhp=>by rw[jZ] at hp; cases hp⟩
 | .rangeFunc _ _ _ _,_,_,_,_,_,_,h,_,_,_,_=>h.elim
 | .goto _,_,_,_,_,_,_,h,_,_,_,_=>h.elim
 | .refuse _,_,_,_,_,_,_,h,_,_,_,_=>h.elim
def znw:List Va->Nat->PT SV
 | [],_=>.leaf
 | v::r,i=>PT.set 12 (znw r (i+1)) i (.un (.v v))
theorem zjc:∀{l:List Va} {k i:Nat} {sv:SV},k+l.length<=4000->(znw l k).get i=some sv->∃v,l[i-k]? = some v/\k<=i/\sv=.un (.v v)
 | [],k,i,sv,_,h=>by simp[znw,PT.get] at h
 | v::r,k,i,sv,hl,h=>by
  simp only[znw] at h;simp only[List.length_cons] at hl;rw[PT.kK _ 12 _ _ _ (by show @LT.lt Nat _ (k+1) (2 ^ 12); have e:(2:Nat) ^ 12=4096:=rfl; omega)] at h
  by_cases hk:k=i
  ·subst hk;rw[C' rfl] at h;simp only[I0] at h;exact⟨v,Qs,I7 _,h.symm⟩
  ·rw[B' hk] at h;obtain⟨u,h1,h2,h3⟩:=zjc Qo h;refine⟨u,?_,Qo,h3⟩;have:i-k=(i-(k+1))+1:=Qo;rw[this]; simpa using h1
def EU(args:List Va):St:={ F:=znw args 0,L:=[],B:=[],old:=0,lk:=[],r:=1 }
def zoq(C:Uk)(S:St)(w:Wo):List ResultVar->(List Va->Prop)->Prop
 | [],K=>K []
 | .tmp t::r,K=>match HB S [] (.tmp t) with
  | some v=>zoq C S w r λl=>K (v::l)
  | none=>False
 | .cell p t::r,K=>match C.T t,zgb S [] (.tmp p) with
  | some ty,some (.loc id 0)=>match S.L[id]? with
   | some (_,cs)=>bif Nat.beq cs.length ty.ks.length then
     (match ty.val cs with
      | some v=>zoq C S w r λl=>K (v::l)
      | none=>False)
    else False
   | none=>False
  | some ty,some (.el o n)=>znj ty.ks λvs=>match ty.val vs with
   | some v=>Q1 S.bs w o n vs/\zoq C S w r λl=>K (v::l)
   | none=>False
  | _,_=>False
def zq8:List Va->Va
 | [v]=>v
 | l=>.tuple l.toArray
def zv6(C:Uk)(sps:List (Nat×ZD))(args:List Va)(body:Code)(res:List ResultVar)(w:Wo)(R:Va->Wo->Prop):Prop:=
 E5 C sps body (EU args) w λe S w'=>match e with
  | .normal | .ret=>zoq C S w' res λl=>bif C.pm then R (zq8 l) w' else ∀wr,Q0 S.bs w' wr->R (zq8 l) wr
  | _=>False
theorem zxm{C:Uk}(E:zrg C){S:St}{w wr:Wo}{a:Act}(hf:Oa C.n S a)(hw:Zm S w wr):∀{res:List ResultVar} {K:List Va->Prop},zoq C S w res K->
  ∃l,K l/\l.length=res.length/\(res.mapM (m:=Sem) fun
   | .tmp t=>pure (a.tmps.getD t undef)
   | .cell p t=>do loadVar t (<-asAddr (a.tmps.getD p undef))).run C.P wr=.ok l wr:=by
 have hd:∀{x:Operand} {e:EV},zgb S [] x=some e->EV.den S e (a.eval x):=λ{x e} hb=>by
  have:=Y4 (ops:=#[]) (hf.enter #[] (λ_=>False)).fit (pc:=[]) (λp hp=>by cases hp) (S:={ S with r:=S.r+1 }) (x:=x) (e:=e) (by
   cases x with
   | tmp t=>
    simp only[zgb] at hb ⊢
    split at hb
    ·exact hb
    ·rename_i r vX y hg
     cases bR:Nat.beq r S.r&&zfk vX [] with
     | false=>rw[bR] at hb; cases hb
     | true=>
      simp only[A'] at bR;have:=Ib bR.1;have h2:=hf.old t r vX y hg;omega
    ·cases hb
   | const v=>exact hb
   | global g=>exact hb
   | func f=>exact hb)
  exact EV.gY (S:={ S with r:=S.r+1 }) (λ_ _ h=>h) this
 intro res
 induction res with
 | nil=>intro K h; exact⟨[],h,rfl,Qs⟩
 | cons x r ih=>
  intro K h
  cases x with
  | tmp t=>
   simp only[zoq] at h
   split at h
   ·rename_i v hv;obtain⟨l,h1,h2,h3⟩:=ih h
    have hv':a.tmps.getD t undef=v:=by
     unfold HB at hv
     split at hv
     ·rename_i e he;exact zbm hv (hd he)
     ·cases hv
    refine⟨v::l,h1,by simp[h2],?_⟩;simp only[List.mapM_cons,Sem.run_bind,Sem.run_pure,Result.andThen_ok,h3,hv']
   ·exact h.elim
  | cell p t=>
   simp only[zoq] at h
   split at h
   ·rename_i ty id ht he;obtain⟨b,hb,hx⟩:=hd he;simp only[Act.eval] at hx
    split at h
    ·rename_i t' cs hl
     cases hc:Nat.beq cs.length ty.ks.length with
     | false=>rw[hc] at h; exact h.elim
     | true=>
      rw[hc] at h;simp only[cond_true] at h
      split at h
      ·rename_i v hv;obtain⟨l,h1,h2,h3⟩:=ih h
       have hl2:=Tc E.T ht hv (Ib hc) (a:=⟨b,0,none⟩) (w:=wr) (λj y hy=>by
        rw[Addr.add_lit,Ht hw hl hb,Nat.zero_add]; exact hy)
       refine⟨v::l,h1,by simp[h2],?_⟩;have ha:(asAddr (a.tmps.getD p undef)).run C.P wr=.ok ⟨b,0,none⟩ wr:=by rw[hx]; rfl
       simp only[List.mapM_cons,Sem.run_bind,ha,Sem.run_pure,Result.andThen_ok,hl2,h3]
      ·exact h.elim
    ·exact h.elim
   ·rename_i ty o n ht he;obtain⟨ad,ho,hx⟩:=hd he;simp only[Act.eval] at hx;obtain⟨vs,hlen,h⟩:=PA h
    split at h
    ·rename_i v hv;obtain⟨hcx,h⟩:=h;obtain⟨l,h1,h2,h3⟩:=ih h;have hl2:=Tc E.T ht hv hlen (a:=ad.add n) (w:=wr) (hcx.cells hw.ext ho);refine⟨v::l,h1,by simp[h2],?_⟩;have ha:(asAddr (a.tmps.getD p undef)).run C.P wr=.ok (ad.add n) wr:=by rw[hx]; rfl
     simp only[List.mapM_cons,Sem.run_bind,ha,Sem.run_pure,Result.andThen_ok,hl2,h3]
    ·exact h.elim
   ·exact h.elim
theorem AL{C:Uk}(E:zrg C){sps:List (Nat×ZD)}{f:FuncId}{fn:Func}{body:Code}{args:List Va}{w:Wo}{R:Va->Wo->Prop}(hf:C.P.funcs[f]? = some fn)(hb:fn.body=some body)(hn:fn.ntmps=C.n)(hargs:args.length<=C.n)(hn4:C.n<=4000)(hrd:C.rd=none)(h:zv6 C sps args body fn.results.toList w R):Calls C.P f args.toArray w λe w'=>∃v wv,e=.returned v/\(C.pm=true->wv=w/\Q0 [] w w')/\(C.pm=true->R v wv)/\(C.pm=false->R v w'):=by
 refine(callsIn_wide (n:=0)).1 (callsIn_of_wp hf hb trivial ?_);have hF:UX C.rd=Fence.wide:=by rw[hrd]; rfl
 rw[<-hF]
 have B88:Oa C.n (EU args) { tmps:=args.toArray++Array.replicate (fn.ntmps-args.toArray.size) undef,defers:=[] }:=by
  have AN7:∀i sv,(EU args).F.get i=some sv->∃v,args[i]? = some v/\sv=.un (.v v):=λi sv hs=>by
   obtain⟨v,h1,_,h3⟩:=zjc Qo hs;exact⟨v,by simpa using h1,h3⟩
  refine⟨by simp[hn]; omega,λi x hx=>?_,λi r pc x hx=>?_⟩
  ·obtain⟨v,h1,h2⟩:=AN7 i _ hx;cases h2;show _=v;rw[Array.getD_eq_getD_getElem?,Array.getElem?_append_left (by simpa using (I8.1 h1).1)];simp[h1]
  ·obtain⟨v,h1,h2⟩:=AN7 i _ hx;cases h2
 have vU:Zm (EU args) w w:=⟨Q0.refl _ _,λid t cs hl=>by simp[EU] at hl,rfl,List.nodup_nil,λid b _ hb=>by simp[EU] at hb⟩;refine Yn E body (EU args) w w _ _ _ h B88 vU ⟨Ic _,λid aW=>by cases aW⟩ λe S w' a' Wc hK he=>?_
 have fin:zoq C S w' fn.results.toList (λl=>bif C.pm then R (zq8 l) w' else ∀wr,Q0 S.bs w' wr->R (zq8 l) wr)->a'.defers=[]/\∃v,(results fn a'.tmps).run C.P Wc=.ok v Wc/\∃v' wv,Ending.returned v=.returned v'/\(C.pm=true->wv=w/\Q0 [] w Wc)/\(C.pm=true->R v' wv)/\(C.pm=false->R v' Wc):=λhr=>by
  obtain⟨l,h1,h2,h3⟩:=zxm E he.fit he.rel hr;refine⟨he.fra.1,zq8 l,?_,zq8 l,w',rfl,λhp=>?_,λhp=>?_,λhp=>?_⟩
  ·simp only[results,Sem.run_bind,Array.mapM_eq_mapM_toList,Sem.run_map];refine(congrArg (λr:Result (List Va)=>(r.andThen λa w'=>Result.ok a.toArray w').andThen λvs w'=>(Pure.pure (if h:vs.size=1 then vs[0] else .tuple vs):Sem Va).run C.P w') h3).trans ?_;simp only[Result.andThen_ok,Sem.run_pure]
   congr 1
   cases l with
   | nil=>rfl
   | cons x r=>
    cases r with
    | nil=>rfl
    | cons y q=>simp[zq8]
  ·obtain⟨p1,p2⟩:=he.pm hp;refine⟨p1,?_⟩;have hx:=he.rel.ext;rw[<-p1];have hbs:S.bs=[]:=by unfold St.bs; rw[p2]; rfl
   rw[hbs] at hx;exact hx
  ·rw[hp] at h1; exact h1
  ·rw[hp] at h1; exact h1 Wc he.rel.ext
 cases e with
 | normal=>exact fin hK
 | ret=>exact fin hK
 | _=>exact hK.elim
theorem zqs{C:Uk}(E:zrg C){sps:List (Nat×ZD)}{f:FuncId}{fn:Func}{body:Code}{args:List Va}{w:Wo}{bs:List Nat}{r:Va}(hf:C.P.funcs[f]? = some fn)(hb:fn.body=some body)(hn:fn.ntmps=C.n)(hargs:args.length<=C.n)(hn4:C.n<=4000)(jZ:C.pm=true)(hrd:C.rd=none)(h:∀wr,Q0 bs w wr->zv6 C sps args body fn.results.toList wr λv _=>v=r):Q2 bs C.P f args.toArray w r:=λwr hx=>
 (AL E hf hb hn hargs hn4 hrd (h wr hx)).mono λe w' ⟨v,_,he,h1,h2,_⟩=>by
  have:=h2 jZ;subst this;exact⟨he,(h1 jZ).2⟩
theorem ztn{C:Uk}(E:zrg C){sps:List (Nat×ZD)}{f:FuncId}{fn:Func}{body:Code}{args:List Va}{w:Wo}{R:Va->Wo->Prop}(hf:C.P.funcs[f]? = some fn)(hb:fn.body=some body)(hn:fn.ntmps=C.n)(hargs:args.length<=C.n)(hn4:C.n<=4000)(jZ:C.pm=false)(hrd:C.rd=none)(h:zv6 C sps args body fn.results.toList w R):Calls C.P f args.toArray w λe w'=>∃v,e=.returned v/\R v w':=
 (AL E hf hb hn hargs hn4 hrd h).mono λe w' ⟨v,_,he,_,_,h3⟩=>⟨v,he,h3 jZ⟩
theorem Vx{w:Wo}{b:Nat}{cs:Array Va}{t:TypeId}{fz:Nat×Nat}(h:w.heap[b]? = some (.cells cs t fz))(k:Nat):w.cell? ⟨b,k,none⟩=cs[k]? := by
 simp[World.cell?,h]
theorem Yt{w:Wo}{b:Nat}{o:Obj}(h:w.heap[b]? = some o):b<w.heap.size:=by
 rcases Nat.lt_or_ge b w.heap.size with hl | hl
 ·exact hl
 ·rw[Array.getElem?_eq_none_iff.2 hl] at h; cases h
theorem Ym{bs:List Nat}{w:Wo}{b k0:Nat}{cs:List Va}{t:TypeId}{fz:Nat×Nat}(h:w.heap[b]? = some (.cells cs.toArray t fz))(hb:b∉bs){k:Nat}{v:Va}(hk:cs[k0+k]? = some v):JO bs w (some ⟨b,k0,none⟩) k v:=
 ⟨⟨b,k0,none⟩,rfl,hb,by rw[Addr.add_lit,Vx h]; simpa using hk⟩
theorem XG{bs:List Nat}{w:Wo}{o:OA}{n:Nat}{v:Va}(h:JO bs w o n v):Q1 bs w o n [v]:=h
theorem Mt{bs:List Nat}{w:Wo}{o:OA}:∀{n:Nat} {vs:List Va},(∀j v,vs[j]? = some v->JO bs w o (n+j) v)->Q1 bs w o n vs
 | _,[],_=>trivial
 | n,[v],h=>h 0 v rfl
 | n,v::u::r,h=>⟨h 0 v rfl,Mt (vs:=u::r) λj x hj=>by
   have:=h (j+1) x (by simpa using hj);rw[show n+1+j=n+(j+1) by omega]; exact this⟩
theorem MC{bs:List Nat}{w:Wo}{b k0:Nat}{cs:List Va}{t:TypeId}{fz:Nat×Nat}(h:w.heap[b]? = some (.cells cs.toArray t fz))(hb:b∉bs){n:Nat}{vs:List Va}(hk:∀j v,vs[j]? = some v->cs[k0+(n+j)]? = some v):Q1 bs w (some ⟨b,k0,none⟩) n vs:=
 Mt λj v hj=>Ym h hb (hk j v hj)
theorem Q1.ext{bs:List Nat}{w w':Wo}{o:OA}{n:Nat}{vs:List Va}(h:Q1 bs w o n vs)(hx:Q0 bs w w'):Q1 bs w' o n vs:=
 Mt λj v hj=>(h.get j v hj).ext hx
theorem Q1.less{bs cs:List Nat}{w:Wo}{o:OA}{n:Nat}{vs:List Va}(h:Q1 bs w o n vs)(hs:∀x∈cs,x∈bs):Q1 cs w o n vs:=
 Mt λj v hj=>(h.get j v hj).less hs
theorem Qg{bs:List Nat}{w w':Wo}{b:Nat}{o:Obj}(h:w.heap[b]? = some o)(hx:Q0 bs w w')(hb:b∉bs):w'.heap[b]? = some o:=by
 rw[hx.block b (Yt h) hb]; exact h
theorem U6{w:Wo}{b k n:Nat}{cs vs:List Va}{t:TypeId}{fz:Nat×Nat}(h:w.heap[b]? = some (.cells cs.toArray t fz)):(R5 w (some ⟨b,k,none⟩) n vs).heap[b]? = some (.cells (zmp cs (k+n) vs).toArray t fz):=Fl vs w b k n cs t fz h
theorem zo4(bs:List Nat)(a:Addr):∀(vs:List Va) (w:Wo) (n:Nat),a.block∈bs->Q0 bs w (eJ w a n vs)
 | [],w,n,_=>Q0.refl _ _
 | v::r,w,n,h=>((Q0.refl bs w).setCell (p:=a.add n) (.inr (by rw[ZK]; exact h)) v).trans (zo4 bs a r _ _ h)
theorem X3{bs:List Nat}{w:Wo}{o:OA}{n:Nat}{vs:List Va}(h:∀a,o=some a->a.block∈bs):Q0 bs w (R5 w o n vs):=by
 cases o with
 | none=>exact Q0.refl _ _
 | some a=>exact zo4 bs a vs w n (h a rfl)
theorem U7{bs:List Nat}{w:Wo}{b k0 n k:Nat}{cs:List Va}{t:TypeId}(h:w.heap[b]? = some (.cells cs.toArray t (0,0)))(hb:b∉bs)(hk:k0+(n+k)<=cs.length):YK bs w (some ⟨b,k0,none⟩) n k:=
 ⟨⟨b,k0,none⟩,rfl,hb,λj h1 h2=>by
  rw[Addr.add_lit,Vx h];refine⟨⟨cs[k0+j]' Qo,Qs⟩,?_⟩;simp[World.frozen?,h]⟩
theorem Q0.fresh{bs cs:List Nat}{w0 w w':Wo}(h:Q0 bs w0 w)(k:Q0 cs w w')(hc:∀x∈cs,w0.heap.size<=x\/x∈bs):Q0 bs w0 w':=
 ⟨k.os.trans h.os,k.tape.trans h.tape,k.output.trans h.output,IA h.size k.size,λi hi hb=>(k.block i (Nat.lt_of_lt_of_le hi h.size) (λhx=>by
  rcases hc i hx with h1 | h1
  ·omega
  ·exact hb h1)).trans (h.block i hi hb)⟩
theorem BT{bs:List Nat}{P:Program}{f:FuncId}{args:Array Va}{w:Wo}{v:Va}(h:∀wr,Q0 bs w wr->Calls P f args wr λe w'=>∃v0,e=.returned v0/\(v0=v/\Q0 [] wr w')):Q2 bs P f args w v:=
 λwr hx=>(h wr hx).mono λe w' ⟨v0,he,hv,fU⟩=>⟨by rw[he,hv],fU⟩
theorem Dl{w:Wo}{o:OA}{n k:Nat}{vs:List Va}:R5 w (o.map (·.add n)) k vs=R5 w o (n+k) vs:=by
 cases o with
 | none=>rfl
 | some a=>
  simp only[Option.map_some,R5]
  induction vs generalizing w k with
  | nil=>rfl
  | cons v r ih=>
   simp only[eJ];rw[UJ,ih];rfl
theorem zb6{bs:List Nat}{w:Wo}{o:OA}{n k m:Nat}:YK bs w (o.map (·.add n)) k m↔YK bs w o (n+k) m:=by
 cases o with
 | none=>
  constructor <;> (rintro⟨a,ha,_⟩; cases ha)
 | some p=>
  constructor
  ·rintro⟨a,ha,hb,hc⟩;simp only[Option.map_some,I0] at ha;subst ha;refine⟨p,rfl,by rwa[ZK] at hb,λj h1 h2=>?_⟩;have:=hc (j-n) Qo Qo
   rwa[UJ,show n+(j-n)=j by omega] at this
  ·rintro⟨a,ha,hb,hc⟩;cases ha;refine⟨p.add n,rfl,by rwa[ZK],λj h1 h2=>?_⟩;rw[UJ];exact hc (n+j) Qo Qo
structure GO where
 floor:Int
 on:Bool
 v:Int
 w:Int
 sum:Int
 deriving DecidableEq,Inhabited
structure Vv where
 IX:Int
 Rx:Int
 Sr:Int
 locals:List Int
 Rz:List Bool
 deriving DecidableEq,Inhabited
structure ZX where
 used:Bool
 parent:Int
 name:ByteArray
 weight:Int
 ID:Int
 period:Int
 next:Int
 sum:Int
 IS:Vv
 IE:List GO
 deriving DecidableEq,Inhabited
structure KW where
 state:Int
 group:Int
 J':Int
 nice:Int
 mask:Int
 v:Int
 sum:Int
 used:Int
 load:Int
 deriving DecidableEq,Inhabited
structure KV where
 up:Bool
 cur:Int
 WV:Int
 busy:Int
 idle:Int
 deriving DecidableEq,Inhabited
structure Q8 where
 now:Int
 ID:List KV
 tasks:List KW
 IC:List ZX
 deriving DecidableEq,Inhabited
structure z38 where
 kind:Int
 oH:Int
 n:Int
 deriving DecidableEq,Inhabited
def gi{α:Type}[Inhabited α](l:List α)(i:Int):α:=l.getD i.toNat default
theorem zwd{α:Type}[Inhabited α](l:List α)(k:Nat):gi l (k:Int)=l.getD k default:=rfl
theorem Tj{α:Type}[Inhabited α]{l:List α}{k:Nat}(h:k<l.length):gi l (k:Int)=l[k]:=by
 simp[zwd,List.getD_eq_getElem?_getD,h]
theorem zzd{α:Type}[Inhabited α]{l:List α}{k:Nat}(h:k<l.length):l[k]? = some (gi l (k:Int)):=by
 rw[Tj h]; simp[h]
theorem zp9{α:Type}[Inhabited α]{l:List α}{i:Int}(h0:0<=i)(h1:i<l.length):gi l i∈l:=by
 obtain⟨k,rfl⟩:=Int.eq_ofNat_of_zero_le h0;have:k<l.length:=Qo;rw[Tj this]; exact List.getElem_mem this
theorem zp8{α:Type}[Inhabited α]{l m:List α}(hl:l.length=m.length)(h:∀k:Nat,k<l.length->gi l (k:Int)=gi m (k:Int)):l=m:=by
 refine List.ext_getElem hl λk h1 h2=>?_
 have:=h k h1
 rwa[Tj h1,Tj h2] at this
theorem QO{α:Type}[Inhabited α](l:List α)(x:α){i j:Int}(h0:0<=i)(hi:i<(l.length:Int))(hj:0<=j):gi (l.set i.toNat x) j=if i=j then x else gi l j:=by
 obtain⟨k,rfl⟩:=Int.eq_ofNat_of_zero_le h0;obtain⟨q,rfl⟩:=Int.eq_ofNat_of_zero_le hj;simp only[zwd,Ig,List.getD_eq_getElem?_getD,List.getElem?_set]
 by_cases hkq:k=q
 ·subst hkq;have:k<l.length:=Qo;simp[this]
 ·have:¬((k:Int)=q):=Qo;simp[hkq,this]
def MH(s:GO):List Va:=[I s.floor,.bool s.on,I s.v,I s.w,I s.sum]
def Xq(t:KW):List Va:=[I t.state,I t.group,I t.J',I t.nice,I t.mask,I t.v,I t.sum,I t.used,I t.load]
def DJ(c:KV):List Va:=[.bool c.up,I c.cur,I c.WV,I c.busy,I c.idle]
def z3j(o:z38):List Va:=[I o.kind,I o.oH,I o.n]
def Um(n:Int):List Va:=[I n]
def Kk(b:Bool):List Va:=[.bool b]
structure MG where
 lO:OA
 lC:Nat
 dO:OA
 dC:Nat
 sO:OA
 sC:Nat
 deriving Inhabited
def YE(g:ZX)(m:MG):List Va:=[.bool g.used,I g.parent,.string g.name,I g.weight,I g.ID,I g.period,I g.next,I g.sum,
 I g.IS.IX,I g.IS.Rx,I g.IS.Sr,.slice m.lO g.IS.locals.length m.lC,.slice m.dO g.IS.Rz.length m.dC,.slice m.sO g.IE.length m.sC]
def Rd{α:Type}[Inhabited α](enc:α->List Va)(z:Nat)(bs:List Nat)(w:Wo)(o:OA)(l:List α):Prop:=
 ∀i:Int,0<=i->i<(l.length:Int)->Q1 bs w o (Int.toNat i*z) (enc (gi l i))
theorem Rd.ext{α:Type}[Inhabited α]{enc:α->List Va}{z:Nat}{bs:List Nat}{w w':Wo}{o:OA}{l:List α}(h:Rd enc z bs w o l)(hx:Q0 bs w w'):Rd enc z bs w' o l:=
 λi h0 h1=>(h i h0 h1).ext hx
theorem Rd.less{α:Type}[Inhabited α]{enc:α->List Va}{z:Nat}{bs cs:List Nat}{w:Wo}{o:OA}{l:List α}(h:Rd enc z bs w o l)(hs:∀x∈cs,x∈bs):Rd enc z cs w o l:=
 λi h0 h1=>(h i h0 h1).less hs
theorem JO.wide{bs cs:List Nat}{w:Wo}{o:OA}{n:Nat}{v:Va}(h:JO bs w o n v)(hs:∀x∈cs,x∈bs\/w.heap.size<=x):JO cs w o n v:=by
 obtain⟨a,ho,hb,hc⟩:=h;refine⟨a,ho,λhx=>?_,hc⟩;have IT:=World.block_lt_of_cell? w _ hc;rw[ZK] at IT;rcases hs _ hx with h1 | h1
 ·exact hb h1
 ·omega
theorem Q1.wide{bs cs:List Nat}{w:Wo}{o:OA}{n:Nat}{vs:List Va}(h:Q1 bs w o n vs)(hs:∀x∈cs,x∈bs\/w.heap.size<=x):Q1 cs w o n vs:=
 Mt λj v hj=>(h.get j v hj).wide hs
theorem Rd.wide{α:Type}[Inhabited α]{enc:α->List Va}{z:Nat}{bs cs:List Nat}{w:Wo}{o:OA}{l:List α}(h:Rd enc z bs w o l)(hs:∀x∈cs,x∈bs\/w.heap.size<=x):Rd enc z cs w o l:=
 λi h0 h1=>(h i h0 h1).wide hs
theorem Q1.some{bs:List Nat}{w:Wo}{o:OA}{n:Nat}{v:Va}{r:List Va}(h:Q1 bs w o n (v::r)):o.isSome=true:=by
 obtain⟨a,rfl,_,_⟩:=h.get 0 v rfl;rfl
theorem Rd.ix{α:Type}[Inhabited α]{enc:α->List Va}{z:Nat}{bs:List Nat}{w:Wo}{o:OA}{l:List α}(h:Rd enc z bs w o l)(he:∀x,∃v r,enc x=v::r){i:Int}(h0:0<=i)(h1:i<(l.length:Int)):Ix o l.length i:=by
 obtain⟨v,r,e⟩:=he (gi l i);have:=h i h0 h1;rw[e] at this;exact⟨h0,h1,this.some⟩
theorem X7(x:GO):∃v r,MH x=v::r:=⟨_,_,rfl⟩
theorem QG(x:KW):∃v r,Xq x=v::r:=⟨_,_,rfl⟩
theorem Yh(x:KV):∃v r,DJ x=v::r:=⟨_,_,rfl⟩
theorem JU(x:Int):∃v r,Um x=v::r:=⟨_,_,rfl⟩
theorem EO(x:Bool):∃v r,Kk x=v::r:=⟨_,_,rfl⟩
abbrev zpf:=Rd MH 5
abbrev zu6:=Rd Xq 9
abbrev z28:=Rd DJ 5
abbrev zs8:=Rd Um 1
abbrev z1g:=Rd Kk 1
structure G9 (bs:List Nat) (w:Wo) (o:OA) (gs:List ZX) (ms:Nat->MG):Prop where
 cells:∀i:Int,0<=i->i<(gs.length:Int)->Q1 bs w o (Int.toNat i*14) (YE (gi gs i) (ms i.toNat))
 locals:∀i:Int,0<=i->i<(gs.length:Int)->zs8 bs w (ms i.toNat).lO (gi gs i).IS.locals
 Rz:∀i:Int,0<=i->i<(gs.length:Int)->z1g bs w (ms i.toNat).dO (gi gs i).IS.Rz
 IE:∀i:Int,0<=i->i<(gs.length:Int)->zpf bs w (ms i.toNat).sO (gi gs i).IE
theorem G9.ext{bs:List Nat}{w w':Wo}{o:OA}{gs:List ZX}{ms:Nat->MG}(h:G9 bs w o gs ms)(hx:Q0 bs w w'):G9 bs w' o gs ms:=
 ⟨λi a b=>(h.cells i a b).ext hx,λi a b=>(h.locals i a b).ext hx,λi a b=>(h.Rz i a b).ext hx,λi a b=>(h.IE i a b).ext hx⟩
theorem G9.less{bs cs:List Nat}{w:Wo}{o:OA}{gs:List ZX}{ms:Nat->MG}(h:G9 bs w o gs ms)(hs:∀x∈cs,x∈bs):G9 cs w o gs ms:=
 ⟨λi a b=>(h.cells i a b).less hs,λi a b=>(h.locals i a b).less hs,λi a b=>(h.Rz i a b).less hs,λi a b=>(h.IE i a b).less hs⟩
theorem G9.wide{bs cs:List Nat}{w:Wo}{o:OA}{gs:List ZX}{ms:Nat->MG}(h:G9 bs w o gs ms)(hs:∀x∈cs,x∈bs\/w.heap.size<=x):G9 cs w o gs ms:=
 ⟨λi a b=>(h.cells i a b).wide hs,λi a b=>(h.locals i a b).wide hs,λi a b=>(h.Rz i a b).wide hs,λi a b=>(h.IE i a b).wide hs⟩
theorem G9.ix{bs:List Nat}{w:Wo}{o:OA}{gs:List ZX}{ms:Nat->MG}(h:G9 bs w o gs ms){i:Int}(h0:0<=i)(h1:i<(gs.length:Int)):Ix o gs.length i:=
 ⟨h0,h1,(h.cells i h0 h1).some⟩
def ZP(p:Nat)(vs:List Va):Int:=match vs[p]? with
 | some (.int _ i)=>i
 | _=>0
def ztj(I:Nat->Prop)(vs:List Va):Prop:=∃k:Nat,I k/\vs=[.int .i64 (k:Int)]
def Xm(n:Nat)(p:Nat)(vs:List Va):Nat:=((n:Int)+1-ZP p vs).toNat
theorem J1{B:(List Va->Prop)->(List Va->Nat)->Int->Prop}(n:Nat){si:Int}(s:Nat)(hs:si=s)(I:Nat->Prop)(h0:I s)(hB:∀k:Nat,I k->B (ztj I) (Xm n 0) (k:Int)) :
  ∃(IN:List Va->Prop) (mu:List Va->Nat),IN [.int .i64 si]/\∀i:Int,IN [.int .i64 i]->B IN mu i:=by
 refine⟨ztj I,Xm n 0,⟨s,h0,by rw[hs]⟩,?_⟩;rintro i ⟨k,hI,he⟩;simp only[I4,I5,true_and,and_true] at he;subst he;exact hB k hI
theorem QH{n k:Nat}{I:Nat->Prop}(hk:k<n)(hI:I (k+1)):ztj I [.int .i64 ((k:Int)+1)]/\Xm n 0 [.int .i64 ((k:Int)+1)]<Xm n 0 [.int .i64 (k:Int)]:=by
 refine⟨⟨k+1,hI,Qs⟩,?_⟩;simp only[Xm,ZP,Ie];omega
def zvz(I:Nat->Wo->Prop)(vs:List Va)(w:Wo):Prop:=∃k:Nat,I k w/\vs=[.int .i64 (k:Int)]
def Zx(n:Nat)(p:Nat)(vs:List Va)(_:Wo):Nat:=Xm n p vs
theorem XL{B:(List Va->Wo->Prop)->(List Va->Wo->Nat)->Int->Wo->Prop}{bs L:List Nat}{wv:Wo}(n:Nat){si:Int}(s:Nat)(hs:si=s)(I:Nat->Wo->Prop)(h0:∀wr,Q0 bs wv wr->(∀bq∈L,bq<wr.heap.size)->I s wr)(hB:∀(k:Nat) (w1:Wo),(∀bq∈L,bq<w1.heap.size)->I k w1->B (zvz I) (Zx n 0) (k:Int) w1) :
  ∃(IN:List Va->Wo->Prop) (mu:List Va->Wo->Nat),(∀wr,Q0 bs wv wr->(∀bq∈L,bq<wr.heap.size)->IN [.int .i64 si] wr)/\∀(i:Int) (w1:Wo),(∀bq∈L,bq<w1.heap.size)->IN [.int .i64 i] w1->B IN mu i w1:=by
 refine⟨zvz I,Zx n 0,λwr hx hq=>⟨s,h0 wr hx hq,by rw[hs]⟩,?_⟩;rintro i w1 hq ⟨k,hI,he⟩;simp only[I4,I5,true_and,and_true] at he;subst he;exact hB k w1 hq hI
theorem Qp{n k:Nat}{I:Nat->Wo->Prop}{wr w1:Wo}(hk:k<n)(hI:I (k+1) wr):zvz I [.int .i64 ((k:Int)+1)] wr/\Zx n 0 [.int .i64 ((k:Int)+1)] wr<Zx n 0 [.int .i64 (k:Int)] w1:=by
 refine⟨⟨k+1,hI,Qs⟩,?_⟩;simp only[Zx,Xm,ZP,Ie];omega
def zvy(I:Int->Nat->Prop)(vs:List Va):Prop:=∃(x:Int) (k:Nat),I x k/\vs=[.int .i64 x,.int .i64 (k:Int)]
theorem PF{B:(List Va->Prop)->(List Va->Nat)->Int->Int->Prop}(n:Nat){xi si:Int}(s:Nat)(hs:si=s)(I:Int->Nat->Prop)(h0:I xi s)(hB:∀(x:Int) (k:Nat),I x k->B (zvy I) (Xm n 1) x (k:Int)) :
  ∃(IN:List Va->Prop) (mu:List Va->Nat),IN [.int .i64 xi,.int .i64 si]/\∀(x i:Int),IN [.int .i64 x,.int .i64 i]->B IN mu x i:=by
 refine⟨zvy I,Xm n 1,⟨xi,s,h0,by rw[hs]⟩,?_⟩;rintro x i ⟨x',k,hI,he⟩;simp only[I4,I5,true_and,and_true] at he;obtain⟨rfl,rfl⟩:=he;exact hB x k hI
theorem QP{n k:Nat}{I:Int->Nat->Prop}{x x':Int}(hk:k<n)(hI:I x' (k+1)):zvy I [.int .i64 x',.int .i64 ((k:Int)+1)]/\Xm n 1 [.int .i64 x',.int .i64 ((k:Int)+1)]<Xm n 1 [.int .i64 x,.int .i64 (k:Int)]:=by
 refine⟨⟨x',k+1,hI,Qs⟩,?_⟩;simp only[Xm,ZP,Ie,List.getElem?_cons_succ];omega
theorem J5:maxLen<=9223372036854775807:=by simp[maxLen]
theorem zls{k n:Nat}(h:(k:Int)<(n:Int))(hn:n<=maxLen):Qr .i64 ((k:Int)+1):=by
 have:=J5;exact⟨Qo,Qo⟩
end Go.Proofs.YtnclplgaicdapaaGreatDoor
