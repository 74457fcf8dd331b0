/- Part 2 of what the law FnPick needs. -/
import Derived.Test.YtjinkcmkgnofjaaGreatFnPickPa
import Derived.RangeFuncRecord
import Derived.OrdersIn
import Derived.TacticsIn
import Derived.Scope
set_option linter.all false
set_option maxRecDepth 100000
set_option maxHeartbeats 8000000
namespace Go.Proofs.YtjinkcmkgnofjaaGreat
open Go.RowKit
def GB(r:Option Nat):Fence:={ Fence.wide with round:=r }
def zgh(r:Option Nat)(n:Nat):(GB r).room n:=λd h=>by simp[GB,Fence.wide] at h
def PP{r:Option Nat}{n:Nat}{P:Program}{f:FuncId}{args:Array Va}{w:Wo}{R:Ending->Wo->Prop}(h:Calls P f args w R):CallsIn (GB r) n P f args w R:=(callsIn_wide (n:=n)).2 h
def zrx{r:Option Nat}{n:Nat}{P:Program}{f:FuncId}{args:Array Va}{w:Wo}{R:Ending->Wo->Prop}(h:CallsIn (GB r) n P f args w R):Calls P f args w R:=(callsIn_wide (n:=n)).1 h
def zcd{r:Option Nat}{n m:Nat}{P:Program}{l:Nat}{f:FuncId}{tmps:Array Va}{asg body:Code}{w:Wo}{R:Ending->Wo->Prop}(h:RoundIn Fence.wide n P l f tmps asg body w R):RoundIn (GB r) m P l f tmps asg body w R:=
 ⟨trivial,λc cs _=>h.2 c cs (room_wide _)⟩
def zoq{r:Option Nat}{n:Nat}{P:Program}{row:String}{args:Array Va}{w:Wo}{R:Va->Wo->Prop}(h:Rows P row args w R):RowsIn (GB r) n P row args w R:=λc cs _=>by
 obtain⟨v,w',hr,hs⟩:=h c cs;exact⟨v,w',hr,(stepsIn_wide (P:=P)).2 hs⟩
def zj0{r:Option Nat}{P:Program}{o:Oper}{a:Act}{w:Wo}{next:Act->Wo->Prop}{Q:Exit->Act->Wo->Prop}(hd:∀c,o.op≠.defer c)(h:o.uponIn (GB r) 0 P a next Q ((execOp a.eval o).run P w)):o.wpIn (GB r) 0 P a w next Q:=
 ⟨λ_ _=>trivial,by rw[Oper.semAt_eq _ _ _ hd];exact h⟩
def zve{r:Option Nat}{P:Program}{o:Oper}{a:Act}{w:Wo}{next:Act->Wo->Prop}{Q:Exit->Act->Wo->Prop}(hd:∀c,o.op≠.defer c)(h:o.wpIn (GB r) 0 P a w next Q):o.uponIn (GB r) 0 P a next Q ((execOp a.eval o).run P w):=by
 have:=h.2;rw[Oper.semAt_eq _ _ _ hd] at this;exact this
def zc3{P:Program}{o:Oper}{ρ:Operand->Va}{c:Call}(hc:o.op=.defer c)(w:Wo):(∃d w',(execOp ρ o).run P w=.ok (.defer d) w')\/∃x w',(execOp ρ o).run P w=.halt x w':=by
 simp only[execOp,hc,Sem.run_bind]
 cases hr:(resolve ρ c o.type).run P w with
 |ok d w'=>exact .inl ⟨d,w',by simp[Result.andThen]⟩
 |halt x w'=>exact .inr ⟨x,w',by simp[Result.andThen]⟩
def zg4{P:Program}{C:Wo->Prop}{o:Oper}{ρ:Operand->Va}{w:Wo}{v:Va}(h:Oper.quietUpon P C w v ((execOp ρ o).run P w)):∀c,o.op≠.defer c:=λc hc=>by
 rcases zc3 (P:=P) (ρ:=ρ) hc w with ⟨d,w',hr⟩|⟨x,w',hr⟩ <;> (rw[hr] at h;exact h)
def Dw{r:Option Nat}{P:Program}{C:Wo->Prop}{o:Oper}{a:Act}{K:Act->Prop}{K':Act->Wo->Prop}{Q':Exit->Act->Wo->Prop}{w:Wo}(hw:C w)(h:∀a w',C w'->K a->K' a w')(hh:o.quiet P a C K):o.wpIn (GB r) 0 P a w K' Q':=by
 obtain⟨v,h1,h2⟩:=hh;have h3:=h1 w hw;refine zj0 (zg4 h3) ?_;unfold Oper.quietAt at h3;generalize (execOp a.eval o).run P w=res at *
 cases res with
 |ok n w'=>
  cases n <;> simp only[Oper.quietUpon] at h3 <;> simp only[Oper.uponIn]
  case value u=>
   obtain⟨e1,e2⟩:=h3;rw[e1,e2];exact h _ _ hw h2
  case skip=>
   obtain⟨e1,e2⟩:=h3;rw[e1,<-e2];exact h _ _ hw h2
  case enter f args=>
   obtain⟨e1,e2⟩:=h3;rw[e1];exact⟨λhx=>(by simp[GB,Fence.wide] at hx),PP (e2.mono λe kN ⟨he,hc⟩=>by subst he;exact h _ _ hc h2)⟩
 |halt x w'=>exact h3.elim
section
variable {P:Program}{b:Frame}{a:Act}{k:List Item}{cs:List Frame}{w:Wo}
def V3{c:Code}:step P (lone (b.atR a (.code (.scope c)::k)) cs w)=.next (lone (b.atR a (.code c :: .inScope c::k)) cs w):=
 step_lone_go (by simp[stepG,stepG.exec,Frame.atR])
def zbx{c:Code}:step P (lone (b.atR a (.inScope c::k)) cs w)=.next (lone (b.atR a k) cs w):=
 step_lone_go (by simp[stepG,stepG.exec,Frame.atR])
end
section
variable {F:Fence}{n:Nat}{P:Program}{Q:Exit->Act->Wo->Prop}{a:Act}{w:Wo}
def LL{c:Code}(h:c.wpIn F n P (Exit.noGoto Q) a w):(Code.scope c).wpIn F n P Q a w:=by
 intro b k cs hro hb hr;have h0:(lone (b.atR a (.code (.scope c)::k)) cs w).fenced P F:=fenced_calm hb hr rfl;obtain⟨e,a₁,w₁,hq,uA⟩:=h b (.inScope c::k) cs hro hb hr
 cases e with
 |normal=>exact⟨.normal,a₁,w₁,hq,.head h0 V3 (StepsIn.trans uA (.one (fenced_calm hb hr rfl) zbx))⟩
 |exit id=>exact⟨.exit id,a₁,w₁,hq,λk' hk=>.head h0 V3 (uA.1 k' (by simp[exitTo,hk])),λhr' hk=>(let ⟨k₁,h1,h2⟩:=uA.2 hr' (by simp[exitTo,hk]);⟨k₁,h1,.head h0 V3 h2⟩)⟩
 |goto l=>exact hq.elim
 |ret=>exact⟨_,a₁,w₁,hq,.of_steps (.one h0 V3) uA⟩
 |panic ch=>exact⟨_,a₁,w₁,hq,.of_steps (.one h0 V3) uA⟩
 |outgrown=>exact⟨_,a₁,w₁,hq,.of_steps (.one h0 V3) uA⟩
def Dv{c:Code}(I:Nat->Act->Wo->Prop){m:Nat}(h₀:I m a w)(round:∀m a w,I m a w->c.wpIn F n P (Exit.then (λa' w'=>∃j,j<m/\I j a' w') Q) a w):(Code.loop c).wpIn F n P Q a w:=by
 intro b k cs hro hb hr
 have key:∀m a w,I m a w->∃e a' w',Q e a' w'/\ArrivesIn (Machine.fenced P F) P (lone (b.atR a (.code c :: .inLoop c::k)) cs w) b k cs e a' w':=by
  intro m
  induction m using Nat.strongRecOn with
  |_ m ih=>
   intro a w hI;obtain⟨e,a₁,w₁,hq,uA⟩:=round m a w hI b (.inLoop c::k) cs hro hb hr
   cases e with
   |normal=>
    obtain⟨j,IX,hI₁⟩:=hq;obtain⟨e₂,a₂,w₂,hq₂,harr₂⟩:=ih j IX a₁ w₁ hI₁;exact⟨e₂,a₂,w₂,hq₂,.of_steps (StepsIn.trans uA (.one (fenced_calm hb hr rfl) stepR_inLoop)) harr₂⟩
   |exit id=>exact⟨_,a₁,w₁,hq,.pass (x:=.inLoop c) rfl (λ_ _=>.inl Qs) uA⟩
   |goto l=>exact⟨_,a₁,w₁,hq,.pass (x:=.inLoop c) rfl (λ_ _=>.inl Qs) uA⟩
   |ret=>exact⟨_,a₁,w₁,hq,.pass (x:=.inLoop c) rfl (λ_ _=>.inl Qs) uA⟩
   |panic ch=>exact⟨_,a₁,w₁,hq,.pass (x:=.inLoop c) rfl (λ_ _=>.inl Qs) uA⟩
   |outgrown=>exact⟨_,a₁,w₁,hq,.pass (x:=.inLoop c) rfl (λ_ _=>.inl Qs) uA⟩
 obtain⟨e,a',w',hq,uA⟩:=key m a w h₀;exact⟨e,a',w',hq,.of_steps (.one (fenced_calm hb hr rfl) stepR_loop) uA⟩
end
def zf3(v:Va)(vs:List Va):Sem Next:=do let d <-Deferred.ofValue v vs.toArray;invoke d.target d.args
def A2(m:String)(v:Va)(vs:List Va):Sem Next:=invoke (.fn (.method m) #[]) (#[v]++vs.toArray)
def zb2(P:Program)(v:Va)(vs:List Va)(w:Wo)(R:Ending->Wo->Prop):Prop:=
 (∃(f:FuncId) (as0:Array Va),(zf3 v vs).run P w=.ok (.enter f as0) w/\Calls P f as0 w R) \/
 ∃(l:Nat) (f:FuncId) (tmps:Array Va) (asg body:Code),(zf3 v vs).run P w=.ok (.round l f tmps asg body) w/\RoundIn Fence.wide 0 P l f tmps asg body w R
def zb2.mono{P:Program}{v:Va}{vs:List Va}{w:Wo}{R R':Ending->Wo->Prop}(h:zb2 P v vs w R)(hr:∀e w',R e w'->R' e w'):zb2 P v vs w R':=by
 rcases h with ⟨f,as0,h1,h2⟩|⟨l,f,tmps,asg,body,h1,h2⟩
 ·exact .inl ⟨f,as0,h1,h2.mono hr⟩
 ·exact .inr ⟨l,f,tmps,asg,body,h1,h2.mono hr⟩
def zo7(C:VR)(t:TypeId):Bool:=match C.T t with
 |some { agg:=_,ks:=_,d:=.int _ }=>true
 |_=>false
def HO(C:VR):Op->Bool
 |.alloc _|.box _ _|.store _ _ _|.buildSlice _ _ _=>true
 |.call { callee:=.value (.func f),args:=_,argTypes:=_ } => !(zie C.pf f).isSome
 |.call { callee:=.builtin b,args:=_,argTypes:=_ }=>match b with
  |.append|.copy=>true
  |_=>false
 |.call { callee:=.value (.tmp _),args:=_,argTypes:=_ } | .call { callee:=.invoke _ _,args:=_,argTypes:=_ }=>true
 |.makeSlice _ _ _|.makeMap _ _|.lookup _ _ _ _|.mapUpdate _ _ _ _|.insert _ _ _ _|.range _ _|.next _ _=>true
 |.convert s d _ => !(zo7 C s&&zo7 C d)
 |_=>false
def St.cB(S:St):St:={ S with old:=S.B.length }
def Q9(B:List Nat)(w w':Wo):Prop:=∀b∈B,w'.heap[b]? = w.heap[b]?
def zxb:Builtin->List RK
 |.append=>[.cell .slice]
 |_=>[.cell (.int .i64)]
def zoe(args:Array Operand):Array Bool:=args.map λ| .const _=>true|_=>false
def OB(z:Nat):List (Nat×Operand)->Nat->List Va->Option (List Va)
 |[],_,[]=>some []
 |(i,_)::r,k,v::vs=>bif Nat.beq i k&&Nat.beq v.cells.toList.length z then
   match OB z r (k+1) vs with
   |some l=>some (v.cells.toList++l)
   |none=>none
  else none
 |_,_,_=>none
def C0(C:VR)(S:St)(w:Wo)(d:Option Tmp)(t:TypeId)(cells:List Va)(e:Nat->EV)(K:St->Wo->Prop):Prop:=
 ∀b,w.heap.size<=b->GW C { S with L:=S.L++[(t,cells)],B:=S.B++[b] } d (.un (e S.L.length)) λS'=>K S' w
def EG(C:VR)(S:St)(w:Wo)(d:Option Tmp)(t:TypeId)(cells:List Va)(e:Nat->EV)(K:St->Wo->Prop):Prop:=
 bif C.pm then False else ∀b w',Q0 S.bs w w'->w.heap.size<=b->w'.heap[b]? = some (Obj.cells cells.toArray t (0,0))->b∉S.B->GW C S.cB d (.un (e b)) λS'=>K S' w'
def PG(l:List Nat)(x:Nat):Bool:=l.any λy=>Nat.beq y x
def zfd(C:VR)(o:Oper):Option (List Operand×List RK×Bool×(List Va->Sem Va)):=
 match o.op with
 |.makeSlice t l c=>some ([l,c],[.cell .slice],false,λ| [x,y]=>Instr.makeSlice t x y|_=>pure undef)
 |.makeMap t none=>some ([],[.cell .map],false,λ_=>Instr.makeMap t none)
 |.makeMap t (some r)=>some ([r],[.cell .map],false,λ| [x]=>Instr.makeMap t (some x)|_=>pure undef)
 |.lookup t x i ok=>match zwc C o.type with
  |some rk=>some ([x,i],rk,false,λ| [a,b]=>Instr.lookup t a b ok|_=>pure undef)
  |none=>none
 |.mapUpdate t m k x=>some ([m,k,x],[],true,λ| [a,b,c]=>do Instr.mapUpdate t a b c;pure undef|_=>pure undef)
 |.insert t m k x=>some ([m,k,x],[],true,λ| [a,b,c]=>do Instr.mapUpdate t a b c;pure undef|_=>pure undef)
 |.range t x=>some ([x],[.cell .ptr],false,λ| [a]=>Instr.range t a|_=>pure undef)
 |.convert s d x=>match zwc C o.type with
  |some rk=>some ([x],rk,false,λ| [a]=>convert s d a|_=>pure undef)
  |none=>none
 |_=>none
def Cw{C:VR}{o:Oper}{xs:List Operand}{rk:List RK}{u:Bool}{f:List Va->Sem Va}(h:zfd C o=some (xs,rk,u,f))(ρ:Operand->Va){P:Program}{w w':Wo}{v:Va}(hr:(f (xs.map ρ)).run P w=.ok v w') :
  (execOp ρ o).run P w=.ok (if u then .skip else .value v) w':=by
 unfold zfd at h
 split at h
 case h_5 t m k x ho=>
  simp only[I2,Prod.mk.injEq] at h;obtain⟨rfl,rfl,rfl,rfl⟩:=h;simp only[List.map_cons,List.map_nil,Sem.run_bind,Sem.run_pure] at hr;simp only[execOp,ho,Sem.run_bind,Sem.run_pure,if_true];generalize (Instr.mapUpdate t (ρ m) (ρ k) (ρ x)).run P w=q at hr ⊢
  cases q <;> simp_all [Result.andThen]
 case h_6 t m k x ho=>
  simp only[I2,Prod.mk.injEq] at h;obtain⟨rfl,rfl,rfl,rfl⟩:=h;simp only[List.map_cons,List.map_nil,Sem.run_bind,Sem.run_pure] at hr;simp only[execOp,ho,Sem.run_bind,Sem.run_pure,if_true];generalize (Instr.mapUpdate t (ρ m) (ρ k) (ρ x)).run P w=q at hr ⊢
  cases q <;> simp_all [Result.andThen]
 all_goals
  (try split at h)
  all_goals first
   |cases h;done
   | (rename_i ho _ _ _
      simp only[I2,Prod.mk.injEq] at h;obtain⟨rfl,rfl,rfl,rfl⟩:=h;simp only[List.map_cons,List.map_nil] at hr;simp[execOp,ho,hr]
      done)
   | (rename_i ho
      simp only[I2,Prod.mk.injEq] at h;obtain⟨rfl,rfl,rfl,rfl⟩:=h;simp only[List.map_cons,List.map_nil] at hr;simp[execOp,ho,hr])
def OT(w:Wo)(b:Nat)(s:ByteArray)(p:Nat):Wo:={ w with heap:=w.heap.setIfInBounds b (.stringIter s p) }
def zvj(C:VR)(S:St)(w:Wo)(o:Oper)(pc:List (Nat×Bool))(K:St->Wo->Prop):Prop:=
 match o.op with
 |.alloc t=>match C.T t with
  |some ty=>bif ty.ks.contains .other then False
   else match o.dst with
    |some d=>bif PG C.vis d then EG C S w o.dst t (ty.ks.map zv) (λb=>.el (some ⟨b,0,none⟩) 0) K else C0 C S w o.dst t (ty.ks.map zv) (λi=>.loc i 0) K
    |none=>False
  |none=>False
 |.box t x=>match Lf S pc x with
  |some v=>match o.dst with
    |some d=>bif PG C.vis d then EG C S w o.dst t v.cells.toList (λb=>.el (some ⟨b,0,none⟩) 0) K else C0 C S w o.dst t v.cells.toList (λi=>.loc i 0) K
    |none=>False
  |none=>False
 |.buildSlice t n parts=>match C.T t,GM S pc (parts.toList.map (·.2)) with
  |some { agg:=_,ks:=_,d:=.slice e z },some vs=>match C.T e,OB z parts.toList 0 vs with
   |some _,some cells=>bif Nat.beq n vs.length&&Nat.blt 0 z&&Nat.blt 0 n&&Nat.blt (n*z) 16777216 then
     (match o.dst with
      |some d=>bif PG C.vis d then EG C S w o.dst e cells (λb=>.v (.slice (some ⟨b,0,none⟩) n n)) K else C0 C S w o.dst e cells (λi=>.ls i n) K
      |none=>False)
    else False
   |_,_=>False
  |_,_=>False
 |.store t x y=>match C.T t,CS S pc x,Lf S pc y with
  |some ty,some (.loc id off),some v=>match S.L[id]? with
   |some (t',cs)=>bif Nat.beq v.cells.toList.length ty.ks.length&&Nat.ble (off+v.cells.toList.length) cs.length&&Ze v.cells.toList && !PG S.lk id then
     K { S with L:=S.L.set id (t',cs.take off++v.cells.toList++cs.drop (off+v.cells.toList.length)) } w
    else False
   |none=>False
  |some ty,some (.le id i m),some v=>match S.L[id]? with
   |some (t',cs)=>bif Nat.beq v.cells.toList.length ty.ks.length&&Nat.beq v.cells.toList.length 1&&Ze [v] && !PG S.lk id then
     (i.toNat+m<cs.length)/\zgd (cs.map zw1) λvs=>cs.set (i.toNat+m) v=vs/\K { S with L:=S.L.set id (t',vs) } w
    else False
   |none=>False
  |some ty,some (.el ob n),some v=>bif Nat.beq v.cells.toList.length ty.ks.length&&Ze v.cells.toList && !C.pm&&Nat.blt 0 ty.ks.length then
    Xx S.bs w ob n v.cells.toList.length/\K S (RN w ob n v.cells.toList)
   else False
  |some ty,some (.v (.pointer ob)),some v=>bif Nat.beq v.cells.toList.length ty.ks.length&&Ze v.cells.toList && !C.pm&&Nat.blt 0 ty.ks.length then
    Xx S.bs w ob 0 v.cells.toList.length/\K S (RN w ob 0 v.cells.toList)
   else False
  |_,_,_=>False
 |.call { callee:=.value (.func f),args:=args,argTypes:=_ }=>match zie C.ef f,GM S pc args.toList with
  |some rks,some vs=>bif C.pm then False else ∀wr,Q0 S.bs w wr->(∀b∈S.B,b<wr.heap.size)->XV S wr (zg5 S pc args.toList)
    (Calls C.P f vs.toArray wr λe w'=>LU rks λr=>e=.returned r/\Q9 S.B wr w'/\GW C S.cB o.dst (.un (.v r)) λS'=>K S' w')
  |_,_=>False
 |.call { callee:=.builtin bi,args:=args,argTypes:=ts }=>match GM S pc args.toList with
  |some vs=>bif C.pm then False else ∀wr,Q0 S.bs w wr->(∀b∈S.B,b<wr.heap.size)->XV S wr (zg5 S pc args.toList)
    (LU (zxb bi) λr=>∃w',(builtin bi ts o.type (zoe args) vs.toArray).run C.P wr=.ok (.value r) w'/\Q9 S.B wr w'/\GW C S.cB o.dst (.un (.v r)) λS'=>K S' w')
  |none=>False
 |.call { callee:=.value (.tmp t),args:=args,argTypes:=_ }=>match Lf S pc (.tmp t),GM S pc args.toList,zwc C o.type with
  |some v,some vs,some rks=>bif C.pm then False else ∀wr,Q0 S.bs w wr->(∀b∈S.B,b<wr.heap.size)->XV S wr (zg5 S pc args.toList)
    (zb2 C.P v vs wr λe w'=>LU rks λr=>e=.returned r/\Q9 S.B wr w'/\GW C S.cB o.dst (.un (.v r)) λS'=>K S' w')
  |_,_,_=>False
 |.call { callee:=.invoke rc m,args:=args,argTypes:=_ }=>match Lf S pc rc,GM S pc args.toList,zwc C o.type with
  |some v,some vs,some rks=>bif C.pm then False else ∀wr,Q0 S.bs w wr->(∀b∈S.B,b<wr.heap.size)->XV S wr (zg5 S pc args.toList)
    (∃(f:FuncId) (as0:Array Va),(A2 m v vs).run C.P wr=.ok (.enter f as0) wr/\Calls C.P f as0 wr λe w'=>LU rks λr=>e=.returned r/\Q9 S.B wr w'/\GW C S.cB o.dst (.un (.v r)) λS'=>K S' w')
  |_,_,_=>False
 |.next it true=>match Lf S pc it with
  |some (.pointer ob)=>bif C.pm then False else ∀wr,Q0 S.bs w wr->(∀b∈S.B,b<wr.heap.size)->
    ∃(b:Nat) (s:ByteArray) (pos:Nat),ob=some ⟨b,0,none⟩/\b∉S.B/\wr.heap[b]? = some (.stringIter s pos)/\
     (s.size<=pos->GW C S.cB o.dst (.un (.v (.tuple #[.bool false]))) λS'=>K S' wr)/\
     (pos<s.size->GW C S.cB o.dst (.un (.v (.tuple #[.bool true,.int .i64 pos,.int .i32 (Utf8.decode s pos).1]))) λS'=>K S' (OT wr b s (pos+(Utf8.decode s pos).2)))
  |_=>False
 |_=>match zfd C o with
  |some (xs,rk,u,f)=>match GM S pc xs with
   |some vs=>bif C.pm then False else ∀wr,Q0 S.bs w wr->(∀b∈S.B,b<wr.heap.size)->
     (bif u then (match o.dst with
      |none=>∃w',(f vs).run C.P wr=.ok undef w'/\Q9 S.B wr w'/\K S.cB w'
      |some _=>False)
     else LU rk λr=>∃w',(f vs).run C.P wr=.ok r w'/\Q9 S.B wr w'/\GW C S.cB o.dst (.un (.v r)) λS'=>K S' w')
   |none=>False
  |none=>False
structure Ps (S S':St):Prop where
 B:∀(id b:Nat),S.B[id]? = some b->S'.B[id]? = some b
 ty:∀(id:Nat) (t:TypeId) (cs:List Va),S.L[id]? = some (t,cs)->∃mI:List Va,S'.L[id]? = some (t,mI)
 lk:∀id∈S.lk,id∈S'.lk/\S'.L[id]? = S.L[id]?
def Ps.refl(S:St):Ps S S:=⟨λ_ _ h=>h,λ_ _ cs h=>⟨cs,h⟩,λ_ h=>⟨h,rfl⟩⟩
def Ps.trans{S S' sR:St}(h:Ps S S')(k:Ps S' sR):Ps S sR:=
 ⟨λid b hb=>k.B id b (h.B id b hb),λid t cs hc=>(let ⟨cs1,h1⟩:=h.ty id t cs hc;k.ty id t cs1 h1),λid hi=>⟨(k.lk id (h.lk id hi).1).1,((k.lk id (h.lk id hi).1).2).trans (h.lk id hi).2⟩⟩
def Ps.bX{S S':St}(h:Ps S S')(d:Option Tmp)(sv:SV):Ps S (S'.bX d sv):=by
 cases d <;> exact⟨h.B,h.ty,h.lk⟩
def Zh.bX{S:St}{w wr:Wo}(h:Zh S w wr)(d:Option Tmp)(sv:SV):Zh (S.bX d sv) w wr:=by
 cases d <;> exact⟨h.ext,h.loc,h.len,h.nF,h.fresh⟩
def M2{l:List Nat}{x:Nat}(h:PG l x=false):x∉l:=by
 intro hx;have:PG l x:=by simp only[PG,List.any_eq_true];exact⟨x,hx,Nat.beq_refl x⟩
 rw[h] at this;cases this
structure Kh (S:St):Prop where
 old:S.old<=S.B.length
 lk:∀id∈S.lk,id<S.L.length
def Kh.bX{S:St}(h:Kh S)(d:Option Tmp)(sv:SV):Kh (S.bX d sv):=by
 cases d <;> exact⟨h.old,h.lk⟩
def Kh.cB{S:St}(h:Kh S):Kh S.cB:=⟨I9 _,h.lk⟩
def Zh.push{S:St}{w wr:Wo}(h:Zh S w wr)(ho:S.old<=S.B.length)(t:TypeId)(cells:List Va) :
  Zh { S with L:=S.L++[(t,cells)],B:=S.B++[wr.heap.size] } w (wr.alloc (.cells cells.toArray t)):=by
 have IX:∀b∈S.B,b<wr.heap.size:=λb hb=>by
  obtain⟨id,bG⟩:=List.getElem?_of_mem hb;have hl:id<S.L.length:=by rw[h.len];exact(Ia.1 bG).1
  obtain⟨b',gW,hh⟩:=h.loc id (S.L[id]).1 (S.L[id]).2 (by rw[Io hl]);rw[bG] at gW;cases gW;exact Nj hh
 have hbs:(S.B++[wr.heap.size]).take S.old=S.B.take S.old:=List.take_append_of_le_length ho;refine⟨?_,λid t' cs hl=>?_,by simp[h.len],?_,λid b bG hb=>?_⟩
 ·show Q0 ((S.B++[wr.heap.size]).take S.old) w _;rw[hbs];exact h.ext.alloc _
 ·by_cases hi:id<S.L.length
  ·have hl':S.L[id]? = some (t',cs):=by rw[<-hl];exact(Ir hi).symm
   obtain⟨b,hb,hh⟩:=h.loc id t' cs hl';refine⟨b,?_,(Below.heap_alloc wr _ b (Nj hh)).trans hh⟩;show (S.B++[wr.heap.size])[id]? = some b;rw[Ir (by rw[<-h.len];exact hi)];exact hb
  ·have hi':id=S.L.length:=by
    have:id<(S.L++[(t,cells)]).length:=(Ia.1 hl).1;simp at this;omega
   subst hi';simp only[List.getElem?_concat_length,I2,Prod.mk.injEq] at hl;obtain⟨rfl,rfl⟩:=hl;refine⟨wr.heap.size,?_,heap_alloc_new wr _⟩;show (S.B++[wr.heap.size])[S.L.length]? = _;rw[h.len];simp
 ·refine List.nodup_append.2 ⟨h.nF,Qs,λx hx y hy=>?_⟩;simp only[IB] at hy;subst hy;have:=IX x hx;omega
 ·have gW:(S.B++[wr.heap.size])[id]? = some b:=hb
  by_cases hi:id<S.B.length
  ·rw[Ir hi] at gW;exact h.fresh id b bG gW
  ·have:id=S.B.length:=by
    have:id<(S.B++[wr.heap.size]).length:=(Ia.1 gW).1;simp at this;omega
   subst this;simp at gW;subst gW;exact h.ext.size
def Zh.age{S:St}{w wr aB:Wo}(h:Zh S w wr)(hk:Q9 S.B wr aB):Zh S.cB aB aB:=
 ⟨Q0.refl _ _,λid t cs hl=>by
  obtain⟨b,hb,hh⟩:=h.loc id t cs hl;exact⟨b,hb,(hk b (List.mem_of_getElem? hb)).trans hh⟩,h.len,h.nF,λid b bG hb=>by
  have:id<S.B.length:=(Ia.1 hb).1;simp only[St.cB] at bG;omega⟩
def Zh.lt{S:St}{w wr:Wo}(h:Zh S w wr):∀b∈S.B,b<wr.heap.size:=λb hb=>by
 obtain⟨id,bG⟩:=List.getElem?_of_mem hb;have hl:id<S.L.length:=by rw[h.len];exact(Ia.1 bG).1
 obtain⟨b',gW,hh⟩:=h.loc id (S.L[id]).1 (S.L[id]).2 (by rw[Io hl]);rw[bG] at gW;cases gW;exact Nj hh
def Zh.Co6{S:St}{w wr:Wo}(h:Zh S w wr){i j b:Nat}(hi:S.B[i]? = some b)(hj:S.B[j]? = some b):i=j:=by
 obtain⟨h1l,h1e⟩:=Ia.1 hi;obtain⟨h2l,h2e⟩:=Ia.1 hj;have hp:=List.pairwise_iff_getElem.1 h.nF;rcases Nat.lt_trichotomy i j with IX|heq|hgt
 ·exact It (h1e.trans h2e.symm) (hp i j h1l h2l IX)
 ·exact heq
 ·exact It (h2e.trans h1e.symm) (hp j i h2l h1l hgt)
def zfx{P:Program}{T:TypeId->Option Ty}(hT:zno P T){t:TypeId}{ty:Ty}(ht:T t=some ty)(kF:ty.ks.contains .other=false) :
  ∃i z,P.info? t=some i/\i.zero=some z/\z.cells=(ty.ks.map zv).toArray:=by
 obtain⟨i,z,hi,hz,_,hks⟩:=(hT.facts ht).info;refine⟨i,z,hi,hz,?_⟩
 have h0:∀(l:List Va),(l.map Pb).contains .other=false->(l.map Pb).map zv=l:=by
  intro l
  induction l with
  |nil=>intro _;rfl
  |cons x r ih=>
   intro hc;simp only[List.map_cons,List.contains_cons,I1] at hc;have hx:Pb x≠.other:=by intro e;rw[e] at hc;simp at hc
   simp only[List.map_cons,ih hc.2,<-zd7 hx]
 have h1:=h0 z.cells.toList (by rw[hks];exact kF);rw[hks] at h1;rw[h1,Array.toArray_toList]
def EV.gF{S S':St}(h:Nd S S'):∀{e:EV} {u:Va},EV.den S e u->EV.den S' e u
 |.v _,_,h'=>h'
 |.el _ _,_,h'=>h'
 |.loc _ _,_,⟨b,hb,h'⟩=>⟨b,h _ _ hb,h'⟩
 |.ls _ _,_,⟨b,hb,h'⟩=>⟨b,h _ _ hb,h'⟩
 |.le _ _ _,_,⟨b,hb,h'⟩=>⟨b,h _ _ hb,h'⟩
 |.no,_,h'=>h'
 |.kb _,_,h'=>h'
def Pr.mono{n:Nat}{S S':St}{ops:Array Oper}{D:Nat->Prop}{a:Act}(h:Pr n S ops D a)(hl:Nd S S')(hF:S'.F=S.F)(hr:S'.r=S.r):Pr n S' ops D a:=
 ⟨⟨h.fit.size,λi s hs=>by
  rw[hF] at hs;have:=h.fit.fits i s hs
  cases s with
  |un x=>exact EV.gF hl this
  |gd r pc x=>
   intro hrr;rw[hr] at hrr;have h1:=this hrr;exact⟨λhp=>EV.gF hl (h1.1 hp),h1.2⟩⟩,λi pc x hx=>by rw[hF,hr] at hx;exact h.dn i pc x hx,λi r pc x hx=>by rw[hF] at hx;rw[hr];exact h.st i r pc x hx⟩
def zfl(cs:List Va):Nat->List Va->List Va
 |_,[]=>cs
 |k,v::r=>zfl (cs.set k v) (k+1) r
def Ll:∀(vs cs:List Va) (k:Nat),k+vs.length<=cs.length->zfl cs k vs=cs.take k++vs++cs.drop (k+vs.length)
 |[],cs,k,_=>by simp[zfl]
 |v::r,cs,k,h=>by
  simp only[zfl,List.length_cons] at *;rw[Ll r (cs.set k v) (k+1) (by simp;omega)];have hk:k<cs.length:=Qo;rw[List.take_succ_eq_append_getElem (by simpa using hk),List.getElem_set_self,List.take_set_of_le (I9 _),List.drop_set_of_lt Qo];simp[Nat.add_assoc,Nat.add_comm 1]
def H0:∀(vs:List Va) (w:Wo) (b k n:Nat) (cs:List Va) (t:TypeId) (fz:Nat×Nat),w.heap[b]? = some (.cells cs.toArray t fz)->
  (eY w ⟨b,k,none⟩ n vs).heap[b]? = some (.cells (zfl cs (k+n) vs).toArray t fz)
 |[],_,_,_,_,_,_,_,h=>h
 |v::r,w,b,k,n,cs,t,fz,h=>by
  simp only[eY,zfl];refine H0 r _ b k (n+1) (cs.set (k+n) v) t fz ?_;rw[Addr.add_lit];simp only[World.setCell,Array.getElem?_modify,if_true,h,Option.map_some,Option.isSome_none,Bool.false_eq_true,if_false];simp
structure znt (C:VR) (S:St) (w:Wo) (o:Oper) (a:Act) (K:St->Wo->Prop) (N:Act->Wo->Prop):Prop where
 go:∀(S1:St) (w' aB:Wo) (e:EV) (v:Va),Ps S S1->S1.F=S.F->S1.r=S.r->Kh S1->Zh S1 w' aB->(C.pm->w'=w/\S1.old=S.old)->EV.den S1 e v->(∀x,o.dst=some x->x<C.n/\x<4000)->K (S1.bX o.dst (.un e)) w'->N (a.put o.dst v) aB
def ze6{C:VR}{S:St}{w:Wo}{o:Oper}{a:Act}{K:St->Wo->Prop}{N:Act->Wo->Prop}(hN:znt C S w o a K N){wr:Wo}(hw:Zh S w wr)(WZ:Kh S){t:TypeId}{cells:List Va}{e:Nat->EV}(h:C0 C S w o.dst t cells e K){v:Va}(hv:EV.den { S with L:=S.L++[(t,cells)],B:=S.B++[wr.heap.size] } (e S.L.length) v):N (a.put o.dst v) (wr.alloc (.cells cells.toArray t)):=by
 obtain⟨h1,h2⟩:=Yg (h wr.heap.size hw.ext.size);refine hN.go { S with L:=S.L++[(t,cells)],B:=S.B++[wr.heap.size] } w _ (e S.L.length) v ⟨λid b hb=>?_,λid t' cs hc=>⟨cs,?_⟩,λid hi=>⟨hi,?_⟩⟩ rfl rfl ⟨by simp;have:=WZ.old;omega,λid hi=>by have:=WZ.lk id hi;simp;omega⟩ (hw.push WZ.old t cells) (λ_=>⟨rfl,rfl⟩) hv h2 h1
 ·show (S.B++[wr.heap.size])[id]? = some b;rw[Ir (Ia.1 hb).1];exact hb
 ·show (S.L++[(t,cells)])[id]? = some (t',cs);rw[Ir (Ia.1 hc).1];exact hc
 ·exact Ir (WZ.lk id hi)
def ze7{C:VR}{S:St}{w:Wo}{o:Oper}{a:Act}{K:St->Wo->Prop}{N:Act->Wo->Prop}(hN:znt C S w o a K N){wr:Wo}(hw:Zh S w wr)(WZ:Kh S){t:TypeId}{cells:List Va}{e:Nat->EV}(h:EG C S w o.dst t cells e K){v:Va}(hv:EV.den S.cB (e wr.heap.size) v):N (a.put o.dst v) (wr.alloc (.cells cells.toArray t)):=by
 have IX:=hw.lt;unfold EG at h
 have jY:C.pm=false:=by
  cases hp:C.pm with
  |false=>rfl
  |true=>rw[hp] at h;exact h.elim
 rw[jY] at h;simp only[cond_false] at h;obtain⟨h1,h2⟩:=Yg (h wr.heap.size (wr.alloc (.cells cells.toArray t)) (hw.ext.alloc _) hw.ext.size (heap_alloc_new wr _) (λhb=>by have:=IX _ hb;omega));exact hN.go S.cB _ _ _ v ⟨λ_ _ h=>h,λ_ _ cs h=>⟨cs,h⟩,λid hi=>⟨hi,rfl⟩⟩ rfl rfl WZ.cB (hw.age λb hb=>Below.heap_alloc wr _ b (IX b hb)) (λhp=>by rw[jY] at hp;cases hp) hv h2 h1
def LR{z:Nat}(hz:0<z):∀{ps:List (Nat×Operand)} {k:Nat} {vs cells:List Va},OB z ps k vs=some cells->ps.length=vs.length/\cells.length=vs.length*z/\
  ∀(pre:List Va),pre.length=k*z->∀(init:List Va),init.length=vs.length*z->
   Instr.fill (λi=>some (i*z,z)) (pre++init).toArray ((ps.map (·.1)).zip vs)=some (pre++cells).toArray
 |[],k,[],cells,h=>by
  simp only[OB,I2] at h;subst h;refine⟨rfl,Qs,λpre _ init hi=>?_⟩;have:init=[]:=List.eq_nil_of_length_eq_zero (by simpa using hi);subst this;simp[Instr.fill]
 |(i,x)::ps,k,v::vs,cells,h=>by
  simp only[OB] at h
  cases hb:(Nat.beq i k&&Nat.beq v.cells.toList.length z) with
  |false=>rw[hb] at h;cases h
  |true=>
   rw[hb] at h;simp only[cond_true] at h;simp only[A'] at hb;have e1:i=k:=Ie hb.1;have e2:v.cells.toList.length=z:=Ie hb.2;subst e1
   split at h
   ·rename_i l hl;simp only[I2] at h;subst h;obtain⟨h1,h2,h3⟩:=LR hz hl;refine⟨by simp[h1],by simp[h2,e2,Nat.add_mul];omega,λpre hp init hi=>?_⟩;have oA:v.cells.size=z:=by simpa using e2
    have hvl:(v::vs).length*z=z+vs.length*z:=by simp[Nat.add_mul,Nat.add_comm]
    rw[hvl] at hi
    have hc:(decide (v.cells.size≠z)||decide (i*z+v.cells.size>(pre++init).toArray.size))=false:=by
     simp only[oA,List.size_toArray,Iq,hp,hi];simp
    simp only[List.map_cons,List.zip_cons_cons,Instr.fill];rw[hc];simp only[Bool.false_eq_true,if_false]
    have CJ3:∀(l:List Va) (j:Nat) (arr:List Va),(l.zipIdx j).foldl (λcs (c,j)=>cs.setIfInBounds (i*z+j) c) arr.toArray=(zfl arr (i*z+j) l).toArray:=by
     intro l
     induction l with
     |nil=>intro j arr;rfl
     |cons c l ih=>
      intro j arr;simp only[List.zipIdx_cons,List.foldl_cons,zfl];rw[show (arr.toArray.setIfInBounds (i*z+j) c)=(arr.set (i*z+j) c).toArray by simp];exact ih (j+1) _
    have hz2:(v.cells.zipIdx.foldl (λcs (c,j)=>cs.setIfInBounds (i*z+j) c) (pre++init).toArray)=(pre++v.cells.toList++init.drop z).toArray:=by
     rw[<-Array.foldl_toList,Array.toList_zipIdx];rw[CJ3 v.cells.toList 0 (pre++init),Ll _ _ _ (by simp[hp,hi,oA])];have t1:(pre++init).take (i*z)=pre:=by rw[<-hp];exact List.take_left
     have t2:(pre++init).drop (i*z+z)=init.drop z:=by rw[<-hp,List.drop_append];simp
     simp only[Nat.add_zero,e2,t1,t2]
    rw[hz2];have:=h3 (pre++v.cells.toList) (by simp[hp,oA,Nat.add_mul]) (init.drop z) (by simp[hi])
    simpa using this
   ·cases h
 |[],_,_::_,_,h=>by simp[OB] at h
 |(_,_)::_,_,[],_,h=>by simp[OB] at h
def CC{P:Program}(t:TypeId)(v:Va)(w:Wo):(newVar t v).run P w=.ok ⟨w.heap.size,0,none⟩ (w.alloc (.cells v.cells t)):=by
 simp[newVar,newRow]
def Zh.A85{S:St}{w wr:Wo}(h:Zh S w wr){id b off:Nat}{t:TypeId}{cs vs:List Va}(hl:S.L[id]? = some (t,cs))(hb:S.B[id]? = some b)(hlen:off+vs.length<=cs.length)(hold:S.old<=S.B.length) :
  Zh { S with L:=S.L.set id (t,cs.take off++vs++cs.drop (off+vs.length)) } w (eY wr ⟨b,off,none⟩ 0 vs):=by
 obtain⟨b',gW,hh⟩:=h.loc id t cs hl;rw[hb] at gW;cases gW;have bG:id<S.L.length:=(Ia.1 hl).1
 have Aa1:b∈S.bs\/w.heap.size<=b:=by
  by_cases ho:S.old<=id
  ·exact .inr (h.fresh id b ho hb)
  ·refine .inl ?_;have:(S.B.take S.old)[id]? = some b:=by rw[List.getElem?_take,H' Qo];exact hb
   exact List.mem_of_getElem? this
 obtain⟨r1,r2,r3⟩:=Ln vs wr ⟨b,off,none⟩ 0;refine⟨⟨r1.trans h.ext.os,r2.trans h.ext.tape,r3.trans h.ext.output,by rw[Oy];exact h.ext.size,λk hk hnb=>?_⟩,λid' t' mI hl'=>?_,by simp[h.len],h.nF,h.fresh⟩
 ·refine(Tr vs wr ⟨b,off,none⟩ 0 k ?_).trans (h.ext.block k hk hnb);rintro rfl;rcases Aa1 with hm|hm
  ·exact hnb hm
  ·exact Nat.lt_irrefl _ (Nat.lt_of_lt_of_le hk hm)
 ·by_cases he:id=id'
  ·subst he;simp only[List.getElem?_set_self bG,I2,Prod.mk.injEq] at hl';obtain⟨rfl,rfl⟩:=hl';refine⟨b,hb,?_⟩;rw[H0 vs wr b off 0 cs _ _ hh,Nat.add_zero,Ll _ _ _ hlen]
  ·have hl2:S.L[id']? = some (t',mI):=by rw[<-hl'];exact(List.getElem?_set_ne he).symm
   obtain⟨b2,cA,hh2⟩:=h.loc id' t' mI hl2;refine⟨b2,cA,?_⟩
   rw[Tr vs wr ⟨b,off,none⟩ 0 b2 (by
    show b2≠b;rintro rfl;exact he (h.Co6 hb cA))]
   exact hh2
def Zh.A86{S:St}{w wr:Wo}(h:Zh S w wr){a:Addr}{n:Nat}{vs:List Va}(hb:a.block∉S.bs)(IX:a.block<w.heap.size):Zh S (eY w a n vs) (eY wr a n vs):=by
 obtain⟨r1,r2,r3⟩:=Ln vs wr a n;obtain⟨q1,q2,q3⟩:=Ln vs w a n;refine⟨⟨by rw[r1,q1];exact h.ext.os,by rw[r2,q2];exact h.ext.tape,by rw[r3,q3];exact h.ext.output,by rw[Oy,Oy];exact h.ext.size,λk hk hnb=>?_⟩,λid t cs hl=>?_,h.len,h.nF,λid b ho bG=>by rw[Oy];exact h.fresh id b ho bG⟩
 ·rw[Oy] at hk;have he:=h.ext.block k hk hnb
  by_cases hka:k=a.block
  ·subst hka;exact zda vs wr w a n he
  ·rw[Tr vs wr a n k hka,Tr vs w a n k hka];exact he
 ·obtain⟨b,bG,hh⟩:=h.loc id t cs hl;refine⟨b,bG,?_⟩;rw[Tr vs wr a n b]
  ·exact hh
  ·rintro rfl
   by_cases ho:S.old<=id
   ·have:=h.fresh id _ ho bG;omega
   ·refine hb (List.mem_of_getElem? (i:=id) ?_);show (S.B.take S.old)[id]? = _;rw[List.getElem?_take,H' Qo];exact bG
def Xx.run{P:Program}{S:St}{w wr:Wo}(h:Zh S w wr){ob:OA}{n:Nat}{vs:List Va}(hx:Xx S.bs w ob n vs.length)(Bj8:0<vs.length)(h1:Ze vs){a:Addr}(ho:ob=some a) :
  (storeCells (a.add n) vs 0).run P wr=.ok () (eY wr (a.add n) 0 vs)/\a.block∉S.bs/\a.block<w.heap.size:=by
 obtain⟨a',ha,hb,hc⟩:=hx;rw[ho] at ha;cases ha;obtain⟨⟨u,hu⟩,_⟩:=hc n (I9 _) Qo;have IX:a.block<w.heap.size:=by have:=World.block_lt_of_cell? w _ hu;rwa[Zv] at this
 refine⟨UB vs wr (a.add n) 0 (Ul h1) λj _ hj=>?_,hb,IX⟩;obtain⟨⟨u',hu'⟩,hf'⟩:=hc (n+j) Qo Qo;have he:=h.ext.block a.block IX hb;rw[JE];refine⟨⟨u',?_⟩,?_⟩
 ·rw[<-hu'];exact World.cell?_of_block (w:=w) (by rw[Zv];exact he)
 ·rw[<-hf'];exact frozen?_of_block (by rw[Zv];exact he)
def CJ:∀(vs:List Va) (w:Wo) (a:Addr) (n k:Nat),eY w (a.add n) k vs=eY w a (n+k) vs
 |[],_,_,_,_=>rfl
 |v::r,w,a,n,k=>by
  simp only[eY,JE];exact CJ r _ a n (k+1)
def zfn{P:Program}{T:TypeId->Option Ty}(hT:zno P T){t:TypeId}{ty:Ty}(ht:T t=some ty){a:Addr}{v:Va}(hl:v.cells.toList.length=ty.ks.length){w w':Wo}(h:(storeCells a v.cells.toList).run P w=.ok () w'):(storeVar t a v).run P w=.ok () w':=by
 obtain⟨i,z,hi,_,oA,_⟩:=(hT.facts ht).info;have hn:¬v.cells.size≠ty.ks.length:=by simpa using hl
 simp only[storeVar,Sem.run_bind,Y0 hi,Result.andThen_ok,oA,Sem.run_ite,E' hn,Sem.run_pure,h]
def zm1(parts:Array (Nat×Operand))(f:Operand->Va):(parts.map λ(i,x)=>(i,f x)).toList=(parts.toList.map (·.1)).zip ((parts.toList.map (·.2)).map f):=by
 have:(parts.map λ(i,x)=>(i,f x)).toList=parts.toList.map λ(i,x)=>(i,f x):=Qs
 rw[this];generalize parts.toList=q
 induction q with
 |nil=>rfl
 |cons y q ih=>simp[ih]
theorem AU{C:VR}{S:St}{w:Wo}{o:Oper}{a:Act}{K:St->Wo->Prop}{N:Act->Wo->Prop}(hN:znt C S w o a K N){wr:Wo}(hw:Zh S w wr)(WZ:Kh S){t:TypeId}{cells:List Va}{e1 e2:Nat->EV}{v:Va}(h:match o.dst with
   |some d=>bif PG C.vis d then EG C S w o.dst t cells e1 K else C0 C S w o.dst t cells e2 K
   |none=>False)(h1:EV.den S.cB (e1 wr.heap.size) v)(h2:EV.den { S with L:=S.L++[(t,cells)],B:=S.B++[wr.heap.size] } (e2 S.L.length) v):N (a.put o.dst v) (wr.alloc (.cells cells.toArray t)):=by
 split at h
 ·rename_i d hd
  cases hm:PG C.vis d with
  |true=>
   rw[hm] at h;simp only[cond_true] at h;exact ze7 hN hw WZ h h1
  |false=>
   rw[hm] at h;simp only[cond_false] at h;exact ze6 hN hw WZ h h2
 ·exact h.elim
def zu3{S:St}{w wr:Wo}(hw:Zh S w wr)(b:Nat):(S.B++[b])[S.L.length]? = some b:=by rw[hw.len];simp
theorem Pn{Q:Exit->Act->Wo->Prop}{C:VR}{S:St}{w wr:Wo}{a:Act}{K:St->Wo->Prop}{N:Act->Wo->Prop}{o:Oper}(hdn:o.dst=none)(hN:znt C S w o a K N)(hw:Zh S w wr)(WZ:Kh S)(hT:zno C.P C.T){t:TypeId}{x y:Operand}(ho:o.op=.store t x y){ty:Ty}(ht:C.T t=some ty){e:EV}(hx:EV.den S e (a.eval x)){v:Va}(hy:a.eval y=v)(h:match e with
   |.loc id off=>match S.L[id]? with
    |some (t',cs)=>bif Nat.beq v.cells.toList.length ty.ks.length&&Nat.ble (off+v.cells.toList.length) cs.length&&Ze v.cells.toList && !PG S.lk id then
      K { S with L:=S.L.set id (t',cs.take off++v.cells.toList++cs.drop (off+v.cells.toList.length)) } w
     else False
    |none=>False
   |.le id i m=>match S.L[id]? with
    |some (t',cs)=>bif Nat.beq v.cells.toList.length ty.ks.length&&Nat.beq v.cells.toList.length 1&&Ze [v] && !PG S.lk id then
      (i.toNat+m<cs.length)/\zgd (cs.map zw1) λvs=>cs.set (i.toNat+m) v=vs/\K { S with L:=S.L.set id (t',vs) } w
     else False
    |none=>False
   |.el ob n=>bif Nat.beq v.cells.toList.length ty.ks.length&&Ze v.cells.toList && !C.pm&&Nat.blt 0 ty.ks.length then
     Xx S.bs w ob n v.cells.toList.length/\K S (RN w ob n v.cells.toList)
    else False
   |.v (.pointer ob)=>bif Nat.beq v.cells.toList.length ty.ks.length&&Ze v.cells.toList && !C.pm&&Nat.blt 0 ty.ks.length then
     Xx S.bs w ob 0 v.cells.toList.length/\K S (RN w ob 0 v.cells.toList)
    else False
   |_=>False):o.uponIn (GB C.rd) 0 C.P a N Q ((execOp a.eval o).run C.P wr):=by
 have hgo:∀(S1:St) (w' aB:Wo),Ps S S1->S1.F=S.F->S1.r=S.r->Kh S1->Zh S1 w' aB->(C.pm->w'=w/\S1.old=S.old)->K S1 w'->N (a.put o.dst undef) aB:=λS1 w' aB h1 h2 h3 h4 h5 h7 h6=>
  hN.go S1 w' aB (.v undef) undef h1 h2 h3 h4 h5 h7 rfl (λx hx=>by rw[hdn] at hx;cases hx) (by rw[hdn];exact h6)
 have Wa:∀{ad:Addr} {w':Wo},a.eval x=.pointer (some ad)->v.cells.toList.length=ty.ks.length->(storeCells ad v.cells.toList).run C.P wr=.ok () w'->(execOp a.eval o).run C.P wr=.ok .skip w':=λ{ad w'} h1 h2 h3=>by
  have:=zfn hT ht h2 h3;simp[execOp,ho,h1,hy,Instr.storeAt,Instr.sureAddr,this]
 have SZ:∀{id:Nat} {t':TypeId} {cs r:List Va},S.L[id]? = some (t',cs)->PG S.lk id=false->Ps S { S with L:=S.L.set id (t',r) }:=λ{id t' cs r} hl hm=>
  ⟨λ_ _ h=>h,λid' t2 cs2 h2=>by
   show ∃mI,(S.L.set id (t',r))[id']? = some (t2,mI)
   by_cases he:id=id'
   ·subst he;rw[hl] at h2;cases h2;exact⟨r,List.getElem?_set_self (Ia.1 hl).1⟩
   ·exact⟨cs2,by rw[List.getElem?_set_ne he];exact h2⟩,λid' hi=>⟨hi,by
   show (S.L.set id (t',r))[id']? = _;exact List.getElem?_set_ne (by rintro rfl;exact M2 hm hi)⟩⟩
 cases e with
 |loc id off=>
  obtain⟨b,hb,hxp⟩:=hx
  dsimp only at h
  split at h
  ·rename_i t' cs hl
   cases hc:(Nat.beq v.cells.toList.length ty.ks.length&&Nat.ble (off+v.cells.toList.length) cs.length&&Ze v.cells.toList && !PG S.lk id) with
   |false=>rw[hc] at h;exact h.elim
   |true=>
    rw[hc] at h;simp only[cond_true] at h;simp only[A',ID] at hc;obtain⟨⟨⟨c1,c2⟩,c3⟩,c4⟩:=hc;have c1:=Ie c1;have c2:=Im c2
    have hrc:=UB (P:=C.P) v.cells.toList wr ⟨b,off,none⟩ 0 (Ul c3) (λj _ hj=>by
     rw[Addr.add_lit,KD hw hl hb];obtain⟨b',gW,hh⟩:=hw.loc id t' cs hl;rw[hb] at gW;cases gW;have IX:off+j<cs.length:=Qo;refine⟨⟨cs[off+j],Io IX⟩,?_⟩;simp[World.frozen?,hh])
    rw[Wa hxp c1 hrc];exact hgo _ _ _ (SZ hl c4) rfl rfl ⟨WZ.old,λid hi=>by simpa using WZ.lk id hi⟩ (hw.A85 hl hb c2 WZ.old) (λ_=>⟨rfl,rfl⟩) h
  ·exact h.elim
 |le id i m=>
  obtain⟨b,hb,h0,hxp⟩:=hx
  dsimp only at h
  split at h
  ·rename_i t' cs hl
   cases hc:(Nat.beq v.cells.toList.length ty.ks.length&&Nat.beq v.cells.toList.length 1&&Ze [v] && !PG S.lk id) with
   |false=>rw[hc] at h;exact h.elim
   |true=>
    rw[hc] at h;simp only[cond_true] at h;simp only[A',ID] at hc;obtain⟨⟨⟨c1,c2⟩,c3⟩,c4⟩:=hc;have c1:=Ie c1;have c2:=Ie c2;obtain⟨IX,h⟩:=h;obtain⟨_,_,rfl,h⟩:=TF h
    have hvc:v.cells.toList=[v]:=by
     cases v with
     |agg cs=>cases c3
     |_=>rfl
    rw[<-hvc] at c3
    have hrc:=UB (P:=C.P) v.cells.toList wr ⟨b,i.toNat+m,none⟩ 0 (Ul c3) (λj _ hj=>by
     rw[Addr.add_lit,KD hw hl hb];obtain⟨b',gW,hh⟩:=hw.loc id t' cs hl;rw[hb] at gW;cases gW;have IX:i.toNat+m+j<cs.length:=Qo;refine⟨⟨cs[i.toNat+m+j],Io IX⟩,?_⟩;simp[World.frozen?,hh])
    rw[Wa hxp c1 hrc];have lA:=hw.A85 (vs:=v.cells.toList) hl hb (off:=i.toNat+m) Qo WZ.old
    have he:cs.take (i.toNat+m)++v.cells.toList++cs.drop (i.toNat+m+v.cells.toList.length)=cs.set (i.toNat+m) v:=by
     rw[<-Ll _ _ _ Qo,hvc];rfl
    rw[he] at lA;exact hgo _ _ _ (SZ hl c4) rfl rfl ⟨WZ.old,λid hi=>by simpa using WZ.lk id hi⟩ lA (λ_=>⟨rfl,rfl⟩) h
  ·exact h.elim
 |el ob n=>
  obtain⟨ad,hob,hxp⟩:=hx
  dsimp only at h
  cases hc:(Nat.beq v.cells.toList.length ty.ks.length&&Ze v.cells.toList && !C.pm&&Nat.blt 0 ty.ks.length) with
  |false=>rw[hc] at h;exact h.elim
  |true=>
   rw[hc] at h;simp only[cond_true] at h;simp only[A',ID] at hc;obtain⟨⟨⟨c1,c2⟩,c3⟩,c4⟩:=hc;have c1:=Ie c1;have c4:0<ty.ks.length:=Im c4;obtain⟨h1,h2⟩:=h;obtain⟨hr,hbs,IX⟩:=h1.run (P:=C.P) hw Qo c2 hob;rw[Wa hxp c1 hr,CJ,Nat.add_zero];subst hob;exact hgo S _ _ (Ps.refl S) rfl rfl WZ (hw.A86 hbs IX) (λhp=>by rw[hp] at c3;cases c3) h2
 |v x0=>
  cases x0 with
  |pointer ob=>
    simp only[EV.den] at hx
    dsimp only at h
    cases hc:(Nat.beq v.cells.toList.length ty.ks.length&&Ze v.cells.toList && !C.pm&&Nat.blt 0 ty.ks.length) with
    |false=>rw[hc] at h;exact h.elim
    |true=>
     rw[hc] at h;simp only[cond_true] at h;simp only[A',ID] at hc;obtain⟨⟨⟨c1,c2⟩,c3⟩,c4⟩:=hc;have c1:=Ie c1;have c4:0<ty.ks.length:=Im c4;obtain⟨h1,h2⟩:=h;obtain⟨ad,hob,_⟩:=id h1;obtain⟨hr,hbs,IX⟩:=h1.run (P:=C.P) hw Qo c2 hob;rw[Addr.add_zero'] at hr;rw[Wa (by rw[hx,hob]) c1 hr];subst hob;exact hgo S _ _ (Ps.refl S) rfl rfl WZ (hw.A86 hbs IX) (λhp=>by rw[hp] at c3;cases c3) h2
  |_=>exact h.elim
 |ls id len=>exact h.elim
 |no=>exact h.elim
 |kb x=>exact h.elim
def zl8{C:VR}(hT:zno C.P C.T)(RD:∀f ks,zie C.ef f=some ks->TB C.P f){S:St}{w wr:Wo}{ops:Array Oper}{D:Nat->Prop}{o:Oper}{a:Act}{pc:List (Nat×Bool)}{K:St->Wo->Prop}{N:Act->Wo->Prop}{Q:Exit->Act->Wo->Prop}(hf:Pr C.n S ops D a)(hw:Zh S w wr)(WZ:Kh S)(hp:GU ops a pc)(hN:znt C S w o a K N)(h:zvj C S w o pc K)(hnd:∀t x y,o.op=.store t x y->o.dst=none):o.wpIn (GB C.rd) 0 C.P a wr N Q:=by
 refine zj0 (λc hc=>by unfold zvj at h;simp[hc,zfd] at h) ?_;unfold zvj at h
 split at h
 case h_1 t ho=>
  split at h
  ·rename_i ty ht
   cases hc:ty.ks.contains .other with
   |true=>rw[hc] at h;exact h.elim
   |false=>
    rw[hc] at h;simp only[cond_false] at h;obtain⟨i,z,hi,hz,hzc⟩:=zfx hT ht hc
    have Wa:(execOp a.eval o).run C.P wr=.ok (.value (.pointer (some ⟨wr.heap.size,0,none⟩))) (wr.alloc (.cells (ty.ks.map zv).toArray t)):=by
     simp[execOp,ho,Instr.alloc,zeroValue,Jf hi,hz,CC,hzc]
    rw[Wa];simp only[Oper.uponIn];exact AU hN hw WZ h ⟨_,rfl,by rw[Addr.add_zero']⟩ ⟨wr.heap.size,zu3 hw _,rfl⟩
  ·exact h.elim
 case h_2 t x ho=>
  split at h
  ·rename_i v hv;have hv':=QK hf.fit hp hv
   have Wa:(execOp a.eval o).run C.P wr=.ok (.value (.pointer (some ⟨wr.heap.size,0,none⟩))) (wr.alloc (.cells v.cells.toList.toArray t)):=by
    simp[execOp,ho,Instr.box,CC,hv']
   rw[Wa];simp only[Oper.uponIn];exact AU hN hw WZ h ⟨_,rfl,by rw[Addr.add_zero']⟩ ⟨wr.heap.size,zu3 hw _,rfl⟩
  ·exact h.elim
 case h_3 t n parts ho=>
  split at h
  ·rename_i ag ks e z vs ht hvs;have hv':=Xl hf.fit hp hvs
   split at h
   ·rename_i ety cells hte Ch1
    cases hb:(Nat.beq n vs.length&&Nat.blt 0 z&&Nat.blt 0 n&&Nat.blt (n*z) 16777216) with
    |false=>rw[hb] at h;exact h.elim
    |true=>
     rw[hb] at h;simp only[cond_true] at h;simp only[A'] at hb;obtain⟨⟨⟨b1,b2⟩,b3⟩,b4⟩:=hb;have b1:=Ie b1;have b2:0<z:=Im b2;have b3:0<n:=Im b3;have b4:n*z<16777216:=Im b4;obtain⟨d,hu,_,oB⟩:=(hT.facts ht).desc;obtain⟨inf,rfl,nY,Ci8⟩:=P9 oB.symm;obtain⟨i2,z2,hi2,hz2,DD2,_⟩:=(hT.facts hte).info;rw[nY] at hi2;cases hi2;obtain⟨_,rL,AL2⟩:=LR b2 Ch1;have hf0:=AL2 [] Qs (((Array.range (n*z)).map (z2.cells[· % z2.cells.size]!)).toList) (by simp[b1]);simp only[List.nil_append,Array.toArray_toList] at hf0;have AB2:=zm1 parts a.eval;rw[hv'] at AB2
     have hn0:¬n*z=0:=by
      have:=Nat.mul_pos b3 b2;omega
     have Cg6:¬n*z>2 ^ 24:=by
      have:(2:Nat) ^ 24=16777216:=rfl;omega
     have Wa:(execOp a.eval o).run C.P wr=.ok (.value (.slice (some ⟨wr.heap.size,0,none⟩) n n)) (wr.alloc (.cells cells.toArray e)):=by
      simp only[execOp,ho,Instr.buildSlice,Sem.run_bind,run_underlying hu,Result.andThen_ok,Y0 nY,Ci8,Sem.run_ite,E' Cg6,E' hn0,zeroValue,Jf nY,hz2,Sem.run_pure,AB2,hf0,newRow,run_newObj];rfl
     rw[Wa];simp only[Oper.uponIn];exact AU hN hw WZ h rfl ⟨wr.heap.size,zu3 hw _,rfl⟩
   ·exact h.elim
  ·exact h.elim
 case h_4 t x y ho=>
  have hdn:=hnd t x y ho
  split at h
  ·rename_i ty id off v ht hx hy;exact Pn hdn hN hw WZ hT ho ht (ZP hf.fit hp hx) (QK hf.fit hp hy) h
  ·rename_i ty id i m v ht hx hy;exact Pn hdn hN hw WZ hT ho ht (ZP hf.fit hp hx) (QK hf.fit hp hy) h
  ·rename_i ty ob n v ht hx hy;exact Pn hdn hN hw WZ hT ho ht (ZP hf.fit hp hx) (QK hf.fit hp hy) h
  ·rename_i ty ob v ht hx hy;exact Pn hdn hN hw WZ hT ho ht (ZP hf.fit hp hx) (QK hf.fit hp hy) h
  ·exact h.elim
 case h_5 f args ts ho=>
  split at h
  ·rename_i rks vs hef hvs;have hv:=Xl hf.fit hp hvs;have ea:args.map a.eval=vs.toArray:=by rw[<-hv,<-Array.toList_map,Array.toArray_toList]
   have jY:C.pm=false:=by
    cases hp:C.pm with
    |false=>rfl
    |true=>rw[hp] at h;exact h.elim
   rw[jY] at h;simp only[cond_false] at h;rw[zhm (RD f rks hef) args ts a ho,ea];simp only[Oper.uponIn];refine⟨λhx=>(by simp[GB,Fence.wide] at hx),PP ((XV.out hw (h wr hw.ext hw.lt)).mono λe w' he=>?_)⟩;obtain⟨r,rfl,hk,hp⟩:=JT he;obtain⟨h1,h2⟩:=Yg hp;exact hN.go S.cB _ _ (.v r) r ⟨λ_ _ h=>h,λ_ _ cs h=>⟨cs,h⟩,λid hi=>⟨hi,rfl⟩⟩ rfl rfl WZ.cB (hw.age hk) (λhp=>by rw[jY] at hp;cases hp) rfl h2 h1
  ·exact h.elim
 case h_6 bi args ts ho=>
  split at h
  ·rename_i vs hvs;have hv:=Xl hf.fit hp hvs;have ea:args.map a.eval=vs.toArray:=by rw[<-hv,<-Array.toList_map,Array.toArray_toList]
   have jY:C.pm=false:=by
    cases hp:C.pm with
    |false=>rfl
    |true=>rw[hp] at h;exact h.elim
   rw[jY] at h;simp only[cond_false] at h;obtain⟨r,w',Wa,hk,hp⟩:=JT (XV.out hw (h wr hw.ext hw.lt))
   have sU:(execOp a.eval o).run C.P wr=.ok (.value r) w':=by
    rw[<-Wa];simp only[execOp,ho,resolve,Sem.run_bind,Sem.run_pure,Result.andThen_ok,invoke,ea];rfl
   rw[sU];obtain⟨h1,h2⟩:=Yg hp;exact hN.go S.cB _ _ (.v r) r ⟨λ_ _ h=>h,λ_ _ cs h=>⟨cs,h⟩,λid hi=>⟨hi,rfl⟩⟩ rfl rfl WZ.cB (hw.age hk) (λhp=>by rw[jY] at hp;cases hp) rfl h2 h1
  ·exact h.elim
 case h_7 t args ts ho=>
  split at h
  ·rename_i v vs rks hv0 hvs hrk;have hv1:=QK hf.fit hp hv0;have hv:=Xl hf.fit hp hvs;have ea:args.map a.eval=vs.toArray:=by rw[<-hv,<-Array.toList_map,Array.toArray_toList]
   have jY:C.pm=false:=by
    cases hp:C.pm with
    |false=>rfl
    |true=>rw[hp] at h;exact h.elim
   rw[jY] at h;simp only[cond_false] at h
   have hgo:∀(e:Ending) (w':Wo),(LU rks λr=>e=.returned r/\Q9 S.B wr w'/\GW C S.cB o.dst (.un (.v r)) λS'=>K S' w')->(match e with
     |.returned v=>N (a.put o.dst v) w'
     |.panicked chain=>Q (.panic chain) a w'
     |.outgrown=>LetsOut Q):=λe w' he=>by
    obtain⟨r,rfl,hk,hp⟩:=JT he;obtain⟨h1,h2⟩:=Yg hp;exact hN.go S.cB _ _ (.v r) r ⟨λ_ _ h=>h,λ_ _ cs h=>⟨cs,h⟩,λid hi=>⟨hi,rfl⟩⟩ rfl rfl WZ.cB (hw.age hk) (λhp=>by rw[jY] at hp;cases hp) rfl h2 h1
   rcases XV.out hw (h wr hw.ext hw.lt) with ⟨f,as0,Wa,hc⟩|⟨l,f,tmps,asg,body,Wa,hc⟩
   ·have sU:(execOp a.eval o).run C.P wr=.ok (.enter f as0) wr:=by
     rw[<-Wa];simp only[execOp,ho,resolve,zf3,ea,hv1]
    rw[sU];simp only[Oper.uponIn];exact⟨λhx=>(by simp[GB,Fence.wide] at hx),PP (hc.mono λe w' he=>by have:=hgo e w' he;cases e <;> exact this)⟩
   ·have sU:(execOp a.eval o).run C.P wr=.ok (.round l f tmps asg body) wr:=by
     rw[<-Wa];simp only[execOp,ho,resolve,zf3,ea,hv1]
    rw[sU];simp only[Oper.uponIn];exact⟨λhx=>(by simp[GB,Fence.wide] at hx),zcd (hc.mono λe w' he=>by have:=hgo e w' he;cases e <;> exact this)⟩
  ·exact h.elim
 case h_8 rc m args ts ho=>
  split at h
  ·rename_i v vs rks hv0 hvs hrk;have hv1:=QK hf.fit hp hv0;have hv:=Xl hf.fit hp hvs;have ea:args.map a.eval=vs.toArray:=by rw[<-hv,<-Array.toList_map,Array.toArray_toList]
   have jY:C.pm=false:=by
    cases hp:C.pm with
    |false=>rfl
    |true=>rw[hp] at h;exact h.elim
   rw[jY] at h;simp only[cond_false] at h;obtain⟨f,as0,Wa,hc⟩:=XV.out hw (h wr hw.ext hw.lt)
   have sU:(execOp a.eval o).run C.P wr=.ok (.enter f as0) wr:=by
    rw[<-Wa];simp only[execOp,ho,resolve,Sem.run_bind,Sem.run_pure,Result.andThen_ok,A2,ea,hv1]
   rw[sU];simp only[Oper.uponIn];refine⟨λhx=>(by simp[GB,Fence.wide] at hx),PP (hc.mono λe w' he=>?_)⟩;obtain⟨r,rfl,hk,hp⟩:=JT he;obtain⟨h1,h2⟩:=Yg hp;exact hN.go S.cB _ _ (.v r) r ⟨λ_ _ h=>h,λ_ _ cs h=>⟨cs,h⟩,λid hi=>⟨hi,rfl⟩⟩ rfl rfl WZ.cB (hw.age hk) (λhp=>by rw[jY] at hp;cases hp) rfl h2 h1
  ·exact h.elim
 case h_9 it ho=>
  split at h
  ·rename_i ob hx;have eJ:=QK hf.fit hp hx
   have jY:C.pm=false:=by
    cases hp:C.pm with
    |false=>rfl
    |true=>rw[hp] at h;exact h.elim
   rw[jY] at h;simp only[cond_false] at h;obtain⟨b,s,pos,rfl,hb,hh,h1,h2⟩:=h wr hw.ext hw.lt;have hg:(getObj b).run C.P wr=.ok (.stringIter s pos) wr:=by simp[getObj,Sem.run,hh]
   by_cases IX:pos<s.size
   ·have SZ:(setObj b (.stringIter s (pos+(Utf8.decode s pos).2))).run C.P wr=.ok () (OT wr b s (pos+(Utf8.decode s pos).2)):=by
     simp[setObj,Sem.run,hh,OT]
    have Wa:(execOp a.eval o).run C.P wr=.ok (.value (.tuple #[.bool true,.int .i64 pos,.int .i32 (Utf8.decode s pos).1])) (OT wr b s (pos+(Utf8.decode s pos).2)):=by
     simp[execOp,ho,eJ,Instr.next,hg,IX,SZ,goInt]
    rw[Wa];simp only[Oper.uponIn];obtain⟨g1,g2⟩:=Yg (h2 IX)
    have hk:Q9 S.B wr (OT wr b s (pos+(Utf8.decode s pos).2)):=λx hx=>by
     have fJ:b≠x:=λe=>hb (e▸hx)
     simp only[OT];rw[Array.getElem?_setIfInBounds_ne fJ]
    exact hN.go S.cB _ _ (.v _) _ ⟨λ_ _ h=>h,λ_ _ cs h=>⟨cs,h⟩,λid hi=>⟨hi,rfl⟩⟩ rfl rfl WZ.cB (hw.age hk) (λhp=>by rw[jY] at hp;cases hp) rfl g2 g1
   ·have Wa:(execOp a.eval o).run C.P wr=.ok (.value (.tuple #[.bool false])) wr:=by
     simp[execOp,ho,eJ,Instr.next,hg,IX]
    rw[Wa];simp only[Oper.uponIn];obtain⟨g1,g2⟩:=Yg (h1 (Nat.le_of_not_lt IX));exact hN.go S.cB _ _ (.v _) _ ⟨λ_ _ h=>h,λ_ _ cs h=>⟨cs,h⟩,λid hi=>⟨hi,rfl⟩⟩ rfl rfl WZ.cB (hw.age λ_ _=>rfl) (λhp=>by rw[jY] at hp;cases hp) rfl g2 g1
  ·exact h.elim
 case h_10=>
  split at h
  ·rename_i xs rk u f hpr
   split at h
   ·rename_i vs hvs;have hv:=Xl hf.fit hp hvs
    have jY:C.pm=false:=by
     cases hp:C.pm with
     |false=>rfl
     |true=>rw[hp] at h;exact h.elim
    rw[jY] at h;simp only[cond_false] at h;have h:=h wr hw.ext hw.lt
    cases u with
    |true=>
     simp only[cond_true] at h
     split at h
     ·rename_i hd;obtain⟨w',hr,hk,hK⟩:=h;rw[<-hv] at hr;rw[Cw hpr a.eval hr];simp only[if_true,Oper.uponIn];exact hN.go S.cB _ _ (.v undef) undef ⟨λ_ _ h=>h,λ_ _ cs h=>⟨cs,h⟩,λid hi=>⟨hi,rfl⟩⟩ rfl rfl WZ.cB (hw.age hk) (λhp=>by rw[jY] at hp;cases hp) rfl (λx hx=>by rw[hd] at hx;cases hx) (by rw[hd];exact hK)
     ·exact h.elim
    |false=>
     simp only[cond_false] at h;obtain⟨r,w',hr,hk,hp⟩:=JT h;rw[<-hv] at hr;rw[Cw hpr a.eval hr];simp only[Bool.false_eq_true,if_false,Oper.uponIn];obtain⟨h1,h2⟩:=Yg hp;exact hN.go S.cB _ _ (.v r) r ⟨λ_ _ h=>h,λ_ _ cs h=>⟨cs,h⟩,λid hi=>⟨hi,rfl⟩⟩ rfl rfl WZ.cB (hw.age hk) (λhp=>by rw[jY] at hp;cases hp) rfl h2 h1
   ·exact h.elim
  ·exact h.elim
def zio{G:Prop->Prop}{d:TD}{op:BinOp}{a b:Va}{K:Va->Prop}(h:zga G d op a b K):∃v,K v:=by
 have kk:∀{p:Prop} [Decidable p] {A:Prop},(bif decide p then A else False)->A:=λ{p _ A} h=>by
  by_cases hk:p
  ·simpa[hk] using h
  ·simp[hk] at h
 unfold zga at h
 split at h <;> first
  |exact h.elim
  |exact⟨_,h⟩
  |exact⟨_,h.2⟩
  |exact⟨_,(kk h).2⟩
  |exact⟨_,kk h⟩
def zfc{a b:Operand}{cb:Bool}{x y:Va}{K:Va->Prop}(h:De a b cb x y K):∃v,K v:=by
 unfold De at h
 split at h <;> first|exact h.elim|exact⟨_,h⟩
def zgc{C:VR}{S:St}{w:Wo}{ops:Array Oper}{o:Oper}{pc:List (Nat×Bool)}{K:EV->Pg->Prop}(h:zvy C S w ops o pc K):∃e fact,K e fact:=by
 unfold zvy at h
 split at h
 case h_3=>
  split at h
  ·split at h
   ·split at h
    ·exact⟨_,_,h⟩
    ·exact h.elim
   ·split at h
    ·exact⟨_,_,h⟩
    ·exact h.elim
   ·split at h
    ·obtain⟨v,h⟩:=zfc h;exact⟨_,_,h⟩
    ·exact h.elim
  ·exact h.elim
 case h_5=>
  split at h
  ·rename_i ty u v ht hu hv
   cases hb:zwv ty.d _ C.wr with
   |true=>
    rw[hb] at h;simp only[cond_true] at h;obtain⟨v,h⟩:=Ph h;exact⟨_,_,h.2⟩
   |false=>
    rw[hb] at h;simp only[cond_false] at h;obtain⟨v,h⟩:=zio h;exact⟨_,_,h⟩
  ·exact h.elim
 case h_14=>
  (repeat' split at h) <;> first
   |exact h.elim
   |(obtain⟨l,_,h⟩:=EB h;obtain⟨u,_,h⟩:=GD h;exact⟨_,_,h.2⟩)
 case h_19=>
  split at h
  ·obtain⟨l,_,h⟩:=TF h
   split at h
   ·exact⟨_,_,h.2⟩
   ·exact h.elim
  ·rename_i ty ob ht hx
   cases hk:ty.ks.isEmpty with
   |true=>rw[hk] at h;exact h.elim
   |false=>
    rw[hk] at h;obtain⟨l,_,h⟩:=TF h
    split at h
    ·exact⟨_,_,h.2⟩
    ·exact h.elim
  ·(repeat' split at h) <;> first
    |exact h.elim
    |exact⟨_,_,h⟩
  ·(repeat' split at h) <;> first
    |exact h.elim
    |(obtain⟨v,h⟩:=Ph h;exact⟨_,_,h.2⟩)
  ·exact h.elim
 case h_21=>
  (repeat' split at h) <;> first
   |exact h.elim
   |(obtain⟨v,h⟩:=JT h;exact⟨_,_,h.2⟩)
 case h_16=>
  split at h
  ·rename_i ty v ht hx
   cases ho':ty.d.AJ2 with
   |true=>rw[ho'] at h;exact h.elim
   |false=>rw[ho'] at h;exact⟨_,_,h⟩
  ·exact h.elim
 case h_17=>
  (repeat' split at h) <;> first
   |exact h.elim
   |(obtain⟨v,h⟩:=JT h;exact⟨_,_,h.2⟩)
 all_goals
  (repeat' split at h) <;> first
   |exact h.elim
   |exact⟨_,_,h⟩
   |exact⟨_,_,h.2⟩
   |(obtain⟨v,h⟩:=Ph h;exact⟨_,_,h.2⟩)
def Gp(o:Oper):Bool:=
 match o.op,o.dst with
 |.store _ _ _,some _=>true
 |.defer _,_=>true
 |_,_=>false
def zuk(dn:Nat->Bool)(o:Oper):Bool:=
 match o.guard with
 |some (j,_)=>dn j
 |none=>true
def zkp(S:St)(ops:Array Oper)(o:Oper):Bool:=match o.guard with
 |none=>false
 |some (j,_)=>match (ops[j]?).bind (·.dst) with
  |some d=>match S.F.get d with
   |some (.gd _ _ .no)=>true
   |_=>false
  |none=>false
def E1(S:St)(ops:Array Oper)(pc:List (Nat×Bool))(o:Oper):Bool:=zkp S ops o||o.op.operands.toList.any λx=>match CS S pc x with
 |some .no=>true
 |_=>false
def Gr{n:Nat}{S:St}{ops:Array Oper}{a:Act}(hf:Fw n S ops a){pc:List (Nat×Bool)}{o:Oper}(nX:zi8 S ops o=some pc)(h:E1 S ops pc o):¬GU ops a pc:=λhp=>by
 unfold E1 at h;rcases Bool.or_eq_true_iff.1 h with h|h
 ·unfold zkp at h
  split at h
  ·cases h
  ·rename_i j want hg
   split at h
   ·rename_i d hd
    split at h
    ·rename_i r tL hv;unfold zi8 at nX;rw[hg] at nX;simp only[hd,hv] at nX
     cases hr:Nat.beq r S.r with
     |false=>rw[hr] at nX;cases nX
     |true=>
      rw[hr] at nX;simp only[cond_true,I2] at nX;subst nX;exact((hf.fits d _ hv (Ie hr)).1 λp hm=>hp p (I3 _ hm)).elim
    ·cases h
   ·cases h
 ·obtain⟨x,_,hx⟩:=List.any_eq_true.1 h
  split at hx
  ·rename_i hv;exact(ZP hf hp hv).elim
  ·cases hx
def Ah(C:VR)(ops:Array Oper)(dn:Nat->Bool)(o:Oper)(S:St)(w:Wo)(K:Pg->St->Wo->Prop):Prop:=
 bif zuk dn o && !Gp o then
  match zi8 S ops o with
  |none=>False
  |some pc=>bif E1 S ops pc o then GW C S o.dst (zbz S pc .no) λS'=>K none S' w else bif HO C o.op then (match pc with
   |[]=>zvj C S w o [] (K none)
   |pc=>bif zm3 S ops pc then LE S ops pc (zvj C S w o pc (K none))/\(LE S ops pc False->GW C S o.dst (zbz S pc .no) λS'=>K none S' w) else False)
   else zvy C S w ops o pc λe f=>GW C S o.dst (zbz S pc e) λS'=>K f S' w
 else False
structure ztq (C:VR) (S:St) (w:Wo) (ops:Array Oper) (D:Nat->Prop) (o:Oper) (a:Act) (S':St) (w':Wo) (a':Act) (aB:Wo):Prop where
 fit:Pr C.n S' ops D a'
 rel:Zh S' w' aB
 wf:Kh S'
 fr:Ps S S'
 r:S'.r=S.r
 put:∃v,a'=a.put o.dst v
 pm:C.pm->w'=w/\S'.old=S.old
def zi9{S:St}{ops:Array Oper}{D:Nat->Prop}{n:Nat}{a:Act}(hf:Pr n S ops D a){o:Oper}{pc:List (Nat×Bool)}(h:zi8 S ops o=some pc)(hg:∀j b,o.guard=some (j,b)->D j):∀p∈pc,D p.1:=by
 unfold zi8 at h
 split at h
 ·simp only[I2] at h;subst h;intro p hp;cases hp
 ·rename_i j want hgd
  split at h
  ·rename_i d hd
   split at h
   ·simp only[I2] at h;subst h;intro p hp;simp only[IB] at hp;subst hp;exact hg j want hgd
   ·rename_i r tL b hv
    cases hr:Nat.beq r S.r with
    |false=>rw[hr] at h;cases h
    |true=>
     rw[hr] at h;simp only[cond_true,I2] at h;subst h;intro p hp;rcases Ik.1 hp with rfl|hp
     ·exact hg j want hgd
     ·have:=Ie hr;subst this;exact hf.dn d tL _ hv p hp
   ·rename_i r tL hv
    cases hr:Nat.beq r S.r with
    |false=>rw[hr] at h;cases h
    |true=>
     rw[hr] at h;simp only[cond_true,I2] at h;subst h;intro p hp;rcases Ik.1 hp with rfl|hp
     ·exact hg j want hgd
     ·have:=Ie hr;subst this;exact hf.dn d tL _ hv p hp
   ·cases h
  ·cases h
structure zns (C:VR):Prop where
 T:zno C.P C.T
 pf:∀f ks,zie C.pf f=some ks->TB C.P f
 ef:∀f ks,zie C.ef f=some ks->TB C.P f
 mixed:C.P.follows .mixedOrders=true
def Ai{C:VR}(E:zns C){ops:Array Oper}{D D':Nat->Prop}{dn:Nat->Bool}{i:Nat}{o:Oper}{S:St}{w wr:Wo}{a:Act}{K:Pg->St->Wo->Prop}{N:Act->Wo->Prop}{Q:Exit->Act->Wo->Prop}(hu:Du ops)(ho:ops[i]? = some o)(hi:¬D i)(hD:∀j,D j->znp ops j)(hDD:∀j,D j->D' j)(hdn:∀j,dn j->znp ops j->D j)(hf:Pr C.n S ops D a)(hw:Zh S w wr)(WZ:Kh S)(hN:∀f S' w' a' aB,K f S' w'->ztq C S w ops D' o a S' w' a' aB->N a' aB)(h:Ah C ops dn o S w K) :
  if Region.wanted o (yielded ops a.tmps) then o.wpIn (GB C.rd) 0 C.P a wr N Q else N (a.put o.dst undef) wr:=by
 unfold Ah at h
 cases hb:(zuk dn o && !Gp o) with
 |false=>rw[hb] at h;exact h.elim
 |true=>
  rw[hb] at h;simp only[cond_true] at h;simp only[A',ID] at hb
  have hg:∀j b,o.guard=some (j,b)->D j:=λj b hgd=>by
   refine hdn j ?_ ⟨o,by rw[Array.mem_toList_iff];exact Array.mem_of_getElem? ho,b,hgd⟩;have:=hb.1;unfold zuk at this;rw[hgd] at this;exact this
  split at h
  ·exact h.elim
  ·rename_i pc nX;have AL5:=zi9 hf nX hg;have oD:=KL hf.fit nX
   cases hdd:E1 S ops pc o with
   |true=>
    rw[hdd] at h;simp only[cond_true] at h;have hp:=Gr hf.fit nX hdd;rw[E' (λuD=>hp (oD.1 uD))];obtain⟨h1,h2⟩:=Yg h;exact hN _ _ _ _ _ h1 ⟨hf.put hu ho hi hD hDD AL5 h2 ⟨λhp'=>It hp' hp,λ_=>rfl⟩,hw.bX _ _,WZ.bX _ _,(Ps.refl S).bX _ _,by cases o.dst <;> rfl,⟨undef,rfl⟩,λ_=>⟨rfl,by cases o.dst <;> rfl⟩⟩
   |false=>
   rw[hdd] at h;simp only[cond_false] at h
   cases he:HO C o.op with
   |true=>
    rw[he] at h;simp only[cond_true] at h
    have run:GU ops a pc->zvj C S w o pc (K none)->o.wpIn (GB C.rd) 0 C.P a wr N Q:=λCk7 h=>by
     refine zl8 E.T E.ef hf hw WZ Ck7 ⟨λS1 w' aB e v h1 h2 h3 h4 h5 h9 h6 h7 h8=>?_⟩ h (λt x y hs=>?_)
     ·refine hN none _ _ _ _ h8 ⟨?_,h5.bX _ _,h4.bX _ _,h1.bX _ _,by cases o.dst <;> exact h3,⟨v,rfl⟩,λhp=>by cases o.dst <;> exact h9 hp⟩;have hf1:Pr C.n S1 ops D a:=hf.mono h1.B h2 h3;exact hf1.put (pc:=[]) hu ho hi hD hDD (λp hp=>by cases hp) h7 ⟨λ_=>h6,λhn=>It (λp hp=>by cases hp) hn⟩
     ·have:=hb.2;unfold Gp at this;rw[hs] at this
      cases hd:o.dst with
      |none=>rfl
      |some d=>rw[hd] at this;cases this
    split at h
    ·have uD:Region.wanted o (yielded ops a.tmps):=oD.2 (λp hp=>by cases hp);rw[H' uD];exact run (λp hp=>by cases hp) h
    ·cases hpo:zm3 S ops pc with
     |false=>rw[hpo] at h;exact h.elim
     |true=>
      rw[hpo] at h;simp only[cond_true] at h
      by_cases hp:GU ops a pc
      ·rw[H' (oD.2 hp)];exact run hp (Ni hf.fit hp h.1)
      ·rw[E' (λuD=>hp (oD.1 uD))];obtain⟨h1,h2⟩:=Yg (h.2 (zep hf.fit hpo hp));exact hN _ _ _ _ _ h1 ⟨hf.put hu ho hi hD hDD AL5 h2 ⟨λhp'=>It hp' hp,λ_=>rfl⟩,hw.bX _ _,WZ.bX _ _,(Ps.refl S).bX _ _,by cases o.dst <;> rfl,⟨undef,rfl⟩,λ_=>⟨rfl,by cases o.dst <;> rfl⟩⟩
   |false=>
    rw[he] at h;simp only[cond_false] at h
    by_cases hp:GU ops a pc
    ·rw[H' (oD.2 hp)];obtain⟨e,fact,v,hK,B64,kL,hq⟩:=zca E.T E.pf hf.fit hp h;obtain⟨h1,h2⟩:=Yg hK;refine Dw (C:=Zh S w) (K:=λa'=>a'=a.put o.dst v) hw (λa' w' hw' ha'=>?_) ⟨v,λaB hw'=>hq S w a rfl (λ_ _ h=>h) kL aB hw',rfl⟩;subst ha';exact hN _ _ _ _ _ h1 ⟨hf.put hu ho hi hD hDD AL5 h2 ⟨λ_=>B64,λhn=>It hp hn⟩,hw'.bX _ _,WZ.bX _ _,(Ps.refl S).bX _ _,by cases o.dst <;> rfl,⟨v,rfl⟩,λ_=>⟨rfl,by cases o.dst <;> rfl⟩⟩
    ·rw[E' (λuD=>hp (oD.1 uD))];obtain⟨e,fact,hK⟩:=zgc h;obtain⟨h1,h2⟩:=Yg hK;exact hN _ _ _ _ _ h1 ⟨hf.put hu ho hi hD hDD AL5 h2 ⟨λhp'=>It hp' hp,λ_=>rfl⟩,hw.bX _ _,WZ.bX _ _,(Ps.refl S).bX _ _,by cases o.dst <;> rfl,⟨undef,rfl⟩,λ_=>⟨rfl,by cases o.dst <;> rfl⟩⟩
def zop(C:VR)(ops:Array Oper):List Oper->Nat->St->Wo->(St->Wo->Prop)->Prop
 |[],_,S,w,K=>K S w
 |o::rest,k,S,w,K=>Ah C ops (λj=>Nat.blt j k) o S w λ_ S' w'=>zop C ops rest (k+1) S' w' K
def Ko:List Oper->List Nat
 |[]=>[]
 |o::r=>match o.dst with
  |some d=>d::Ko r
  |none=>Ko r
def Gd(ds:List Nat)(a a':Act):Prop:=a'.defers=a.defers/\a'.tmps.size=a.tmps.size/\∀i,i∉ds->a'.tmps.getD i undef=a.tmps.getD i undef
def Gd.refl(ds:List Nat)(a:Act):Gd ds a a:=⟨rfl,rfl,λ_ _=>rfl⟩
def Gd.trans{ds:List Nat}{a b c:Act}(h:Gd ds a b)(k:Gd ds b c):Gd ds a c:=⟨k.1.trans h.1,k.2.1.trans h.2.1,λi hi=>(k.2.2 i hi).trans (h.2.2 i hi)⟩
def Gd.mono{ds es:List Nat}{a b:Act}(h:Gd ds a b)(hs:∀x∈ds,x∈es):Gd es a b:=⟨h.1,h.2.1,λi hi=>h.2.2 i (λhx=>hi (hs i hx))⟩
def Gd.put(a:Act)(d:Option Tmp)(v:Va)(ds:List Nat)(h:∀x,d=some x->x∈ds):Gd ds a (a.put d v):=by
 cases d with
 |none=>exact Gd.refl _ _
 |some d=>
  refine⟨rfl,by simp[Act.put],λi hi=>?_⟩;have:d≠i:=λe=>hi (e▸h d rfl)
  simp only[Act.put,Array.getD_eq_getD_getElem?];rw[Array.getElem?_setIfInBounds_ne this]
def Fi{C:VR}(E:zns C){ops:Array Oper}(hu:Du ops){K:St->Wo->Prop}{Q:Exit->Act->Wo->Prop}{ds:List Nat}{S0:St}{w0:Wo}{a0:Act}(hds:∀x∈Ko ops.toList,x∈ds)(hQ:∀S' w' a' aB,K S' w'->Pr C.n S' ops (λj=>j<ops.size/\znp ops j) a'->Zh S' w' aB->Kh S'->Ps S0 S'->S'.r=S0.r->Gd ds a0 a'->(C.pm->w'=w0/\S'.old=S0.old)->Q .normal a' aB) :
  ∀(l:List Oper) (k:Nat) (S:St) (w wr:Wo) (a:Act),(∀j,l[j]? = ops[k+j]?)->k+l.length=ops.size->zop C ops l k S w K->Pr C.n S ops (λj=>j<k/\znp ops j) a->Zh S w wr->Kh S->Ps S0 S->S.r=S0.r->Gd ds a0 a->(C.pm->w=w0/\S.old=S0.old)->
   wpListIn (GB C.rd) 0 C.P ops Q l a wr
 |[],k,S,w,wr,a,_,hk,h,hf,hw,WZ,yR,hr,hfa,jY=>by
  have:k=ops.size:=by simpa using hk
  subst this;exact hQ S w a wr h hf hw WZ yR hr hfa jY
 |o::rest,k,S,w,wr,a,hl,hk,h,hf,hw,WZ,yR,hr,hfa,jY=>by
  have ho:ops[k]? = some o:=by simpa using (hl 0).symm
  have hod:∀x,o.dst=some x->x∈ds:=λx hx=>by
   refine hds x ?_;have hm:o∈ops.toList:=by rw[Array.mem_toList_iff];exact Array.mem_of_getElem? ho
   clear hk hl h;generalize ops.toList=q at hm
   induction q with
   |nil=>cases hm
   |cons y q ih=>
    simp only[Ko];rcases Ik.1 hm with rfl|hm
    ·rw[hx];exact Ib ..
    ·split
     ·exact I3 _ (ih hm)
     ·exact ih hm
  have hZ:=Ai E (i:=k) (D':=λj=>j<k+1/\znp ops j) (N:=λa' w'=>wpListIn (GB C.rd) 0 C.P ops Q rest a' w') (Q:=Q) hu ho (λhd=>Nat.lt_irrefl _ hd.1) (λj hj=>hj.2) (λj hj=>⟨Nat.lt_succ_of_lt hj.1,hj.2⟩)
   (λj h1 h2=>⟨Im h1,h2⟩) hf hw WZ (λf S' w' a' aB hK hL=>by
    obtain⟨v,rfl⟩:=hL.put;exact Fi E hu hds hQ rest (k+1) S' w' aB _ (λj=>by have:=hl (j+1);simpa[Nat.add_assoc,Nat.add_comm 1 j] using this) (by simp at hk;omega) hK hL.fit hL.rel hL.wf (yR.trans hL.fr) (hL.r.trans hr) (hfa.trans (Gd.put a o.dst v ds hod)) (λhp=>⟨(hL.pm hp).1.trans (jY hp).1,(hL.pm hp).2.trans (jY hp).2⟩)) h
  unfold wpListIn
  by_cases hwt:Region.wanted o (yielded ops a.tmps)=true
  ·rw[H' hwt] at hZ ⊢;exact hZ
  ·rw[E' hwt] at hZ ⊢;exact⟨λ_ _=>trivial,hZ⟩
def zrw{C:VR}{ops:Array Oper}{dn:Nat->Bool}{o:Oper}{S:St}{w:Wo}{K:Pg->St->Wo->Prop}(h:Ah C ops dn o S w K):∀c,o.op≠.defer c:=λc hc=>by
 unfold Ah at h;have:Gp o:=by simp[Gp,hc]
 rw[this] at h;simp at h
def U7(ops:Array Oper)(o:Oper)(a:Act):Option (Sem Next):=if Region.wanted o (yielded ops a.tmps) then some (execOp a.eval o) else none
def YS(P:Program)(R:Wo->Prop)(s:Option (Sem Next))(v:Va):Prop:=
 match s with
 |some s=>∀w,R w->Oper.quietUpon P R w v (s.run P w)
 |none=>v=undef
def Bu(P:Program)(o:Oper)(a:Act)(w:Wo)(N:Va->Wo->Prop):Prop:=
 match (execOp a.eval o).run P w with
 |.ok (.value v) w'=>N v w'
 |.ok .skip w'=>N undef w'
 |.ok (.enter f args) w'=>Calls P f args w' λe kN=>∃v,e=.returned v/\N v kN
 |.ok (.row row args) w'=>Rows P row args w' λv kN=>N v kN
 |.ok (.round l f tmps asg body) w'=>RoundIn Fence.wide 0 P l f tmps asg body w' λe kN=>∃v,e=.returned v/\N v kN
 |_=>False
def Vc:List Oper->List Nat->List Nat
 |[],acc=>acc
 |o::r,acc=>Vc r (acc++[o.after.toList.foldl (λs e=>if Region.binds .any e then s ||| 2 ^ e.on ||| acc.getD e.on 0 else s) 0])
def zdi(M:List Nat)(i j:Nat):Bool := !(M.getD j 0).testBit i
def L5(P:Program)(ops:Array Oper)(un:Nat->Nat->Bool)(Q:Act->(Wo->Prop)->Prop):Nat->Array Bool->List (Nat×Option (Sem Next)×Va)->Act->(Wo->Prop)->Prop
 |0,Rq,_,a,R=>Region.ready .any ops Rq=[]/\Q a R
 |n+1,Rq,Pd,a,R=>(Region.ready .any ops Rq=[]->Q a R)/\∀i∈Region.ready .any ops Rq,∀o,ops[i]? = some o->
   (∃v,YS P R (U7 ops o a) v/\L5 P ops un Q n (Rq.setIfInBounds i true) ((i,U7 ops o a,v)::Pd) (a.put o.dst v) R) \/
   (Region.wanted o (yielded ops a.tmps)/\∀w,R w->Bu P o a w λv w'=>∃R':Wo->Prop,R' w'/\(∀p∈Pd,un p.1 i->YS P R' p.2.1 p.2.2)/\
    L5 P ops un Q n (Rq.setIfInBounds i true) Pd (a.put o.dst v) R')
section
variable {P:Program}{ops:Array Oper}{un:Nat->Nat->Bool}{Q:Act->(Wo->Prop)->Prop}
def Eb{o:Oper}{a:Act}{w:Wo}{N N':Va->Wo->Prop}(h:∀v w,N v w->N' v w)(hh:Bu P o a w N):Bu P o a w N':=by
 unfold Bu at *;generalize (execOp a.eval o).run P w=r at *
 cases r with
 |ok n w'=>
  cases n <;> dsimp only at hh ⊢
  case value v=>exact h _ _ hh
  case skip=>exact h _ _ hh
  case enter f args=>exact hh.mono λe kN ⟨v,he,hn⟩=>⟨v,he,h _ _ hn⟩
  case row row args=>exact hh.mono λv kN hn=>h _ _ hn
  case round l f tmps asg body=>exact hh.mono λe kN ⟨v,he,hn⟩=>⟨v,he,h _ _ hn⟩
  all_goals exact hh
 |halt x w'=>exact hh
def zru{o:Oper}{a:Act}{w:Wo}{N:Va->Wo->Prop}{K:Act->Wo->Prop}{Q':Exit->Act->Wo->Prop}{r:Option Nat}(hh:Bu P o a w N)(h:∀v w',N v w'->K (a.put o.dst v) w'):o.wpIn (GB r) 0 P a w K Q':=by
 refine zj0 (λc hc=>by unfold Bu at hh;rcases zc3 (P:=P) (ρ:=a.eval) hc w with ⟨d,w',hr⟩|⟨x,w',hr⟩ <;> (rw[hr] at hh;exact hh)) ?_;unfold Bu at hh;generalize (execOp a.eval o).run P w=r at *
 cases r with
 |ok n w'=>
  cases n <;> dsimp only at hh <;> simp only[Oper.uponIn]
  case value v=>exact h _ _ hh
  case skip=>exact h _ _ hh
  case enter f args=>exact⟨λhx=>(by simp[GB,Fence.wide] at hx),PP (hh.mono λe kN ⟨v,he,hn⟩=>by subst he;exact h _ _ hn)⟩
  case row row args=>exact⟨λhx=>(by simp[GB,Fence.wide] at hx),zoq (hh.mono λv kN hn=>h _ _ hn)⟩
  case round l f tmps asg body=>exact⟨λhx=>(by simp[GB,Fence.wide] at hx),zcd (hh.mono λe kN ⟨v,he,hn⟩=>by subst he;exact h _ _ hn)⟩
 |halt x w'=>exact hh.elim
def zin{o:Oper}{a:Act}{w:Wo}{K:Act->Wo->Prop}{r:Option Nat}(hd:∀c,o.op≠.defer c)(hh:o.wpIn (GB r) 0 P a w K λ_ _ _=>False)(hp:∀a' w',K a' w'->∃v,a'=a.put o.dst v):Bu P o a w λv w'=>K (a.put o.dst v) w':=by
 have hh:=zve hd hh;unfold Bu;generalize (execOp a.eval o).run P w=r at *
 cases r with
 |ok n w'=>
  cases n <;> simp only[Oper.uponIn] at hh ⊢
  case value v=>exact hh
  case skip=>exact hh
  case defer d=>
   obtain⟨v,hv⟩:=hp _ _ hh;have h1:(({ a with defers:=d::a.defers }:Act).put o.dst undef).defers=(a.put o.dst v).defers:=by rw[hv]
   have h2:∀(b:Act) (x:Option Tmp) (u:Va),(b.put x u).defers=b.defers:=λb x u=>by cases x <;> rfl
   rw[h2,h2] at h1;have:=congrArg List.length h1;simp at this
  case enter f args=>
   exact(zrx hh.2).mono λe kN he=>by
    cases e with
    |returned v=>exact⟨v,rfl,he⟩
    |panicked c=>exact he.elim
    |outgrown=>obtain⟨_,_,he⟩:=he;exact he.elim
  case row row args=>exact λc cs=>(let ⟨v,w1,h1,h2⟩:=hh.2 c cs (zgh _ _);⟨v,w1,h1,StepsIn.steps h2⟩)
  case round l f tmps asg body=>
   refine⟨trivial,λc cs _=>?_⟩;obtain⟨e,kN,he,hs⟩:=hh.2.2 c cs (zgh _ _);refine⟨e,kN,?_,hs⟩
   cases e with
   |returned v=>exact⟨v,rfl,he⟩
   |panicked c=>exact he.elim
   |outgrown=>obtain⟨_,_,he⟩:=he;exact he.elim
 |halt x w'=>cases x <;> simp only[Oper.uponIn] at hh
def H5:∀{n:Nat} {Rq:Array Bool} {Pd Pd':List (Nat×Option (Sem Next)×Va)} {a:Act} {R:Wo->Prop},(∀p∈Pd',p∈Pd)->L5 P ops un Q n Rq Pd a R->L5 P ops un Q n Rq Pd' a R
 |0,_,_,_,_,_,_,h=>h
 |n+1,Rq,Pd,Pd',a,R,hs,h=>⟨h.1,λi hi o ho=>by
  rcases h.2 i hi o ho with ⟨v,h1,h2⟩|⟨h1,h2⟩
  ·refine .inl ⟨v,h1,H5 (λp hp=>?_) h2⟩;rcases Ik.1 hp with rfl|hp
   ·exact Ib ..
   ·exact I3 _ (hs p hp)
  ·exact .inr ⟨h1,λw hw=>Eb (λv w' ⟨R',h3,h4,h5⟩=>⟨R',h3,λp hp=>h4 p (hs p hp),H5 hs h5⟩) (h2 w hw)⟩⟩
def MJ{r:Option Nat}{Q':Exit->Act->Wo->Prop}(hQ:∀a R w,Q a R->R w->Q' .normal a w):∀(n:Nat) (Rq:Array Bool) (Pd:List (Nat×Option (Sem Next)×Va)) (a:Act) (R:Wo->Prop) (w:Wo),R w->L5 P ops un Q n Rq Pd a R->wpAnyIn (GB r) 0 P .any ops Q' n Rq a w
 |0,_,_,_,_,_,hw,h=>⟨h.1,hQ _ _ _ h.2 hw⟩
 |n+1,Rq,Pd,a,R,w,hw,h=>⟨λh0=>hQ _ _ _ (h.1 h0) hw,λi hi=>by
  obtain⟨_,o,ho,_⟩:=mem_ready.1 hi;unfold wpOpIn;simp only[ho];rcases h.2 i hi o ho with ⟨v,h1,h2⟩|⟨h1,h2⟩
  ·unfold U7 at h1
   by_cases hwt:Region.wanted o (yielded ops a.tmps)=true
   ·rw[H' hwt] at h1 ⊢;exact Dw (C:=R) (K:=λa'=>a'=a.put o.dst v) hw (λa' w' hw' ha'=>by subst ha';exact MJ hQ n _ _ _ R w' hw' h2) ⟨v,λw' hw'=>h1 w' hw',rfl⟩
   ·rw[E' hwt] at h1 ⊢;rw[show v=undef from h1] at h2;exact⟨λ_ _=>trivial,MJ hQ n _ _ _ R w hw h2⟩
  ·rw[H' h1];exact(zru (h2 w hw) λv w' ⟨R',h3,_,h5⟩=>MJ hQ n _ _ _ R' w' h3 h5)⟩
def zm9{oi oj:Oper}{a:Act}{v:Va}(hap:oi.apart ops oj)(hsj:∀cs b,oj.op≠.select cs b):U7 ops oj (a.put oi.dst v)=U7 ops oj a:=by
 obtain⟨h1,_,_⟩:=Oper.apart_spec hap;unfold U7;rw[wanted_put oj a oi.dst v h1,execOp_put oj hsj a oi.dst v h1]
def zok{oi oj:Oper}{a:Act}{v:Va}{w:Wo}{N:Va->Wo->Prop}(hap:oi.apart ops oj)(hsj:∀cs b,oj.op≠.select cs b)(h:Bu P oj (a.put oi.dst v) w N):Bu P oj a w N:=by
 obtain⟨h1,_,_⟩:=Oper.apart_spec hap;unfold Bu at *;rw[execOp_put oj hsj a oi.dst v h1] at h;exact h
def NZ{x y:Oper}(h:x.apart ops y):∀d,y.dst=some d->d∉x.looksAt ops:=(Oper.apart_spec h).2.2
def Gb(ops:Array Oper)(Rq:Array Bool):Prop:=∀j o,ops[j]? = some o->Rq.getD j true->∀e∈o.after,Region.binds .any e->Rq.getD e.on false=true
def zjv(BH2:∀(j:Nat) (o:Oper) cs b,ops[j]? = some o->o.op≠.select cs b)(hun:∀Rq i j,Gb ops Rq->i∈Region.ready .any ops Rq->j∈Region.ready .any ops Rq->i≠j->un i j){i:Nat}{oi:Oper}{v:Va}(hi:ops[i]? = some oi) :
  ∀(n:Nat) (Rq:Array Bool) (Pd:List (Nat×Option (Sem Next)×Va)) (a:Act) (R:Wo->Prop),Gb ops Rq->
   (∀j oj,ops[j]? = some oj->j≠i->Rq.getD j true=false->(∀e∈oj.after,Region.binds .any e->e.on≠i)->oi.apart ops oj)->
   i∈Region.ready .any ops Rq->YS P R (U7 ops oi a) v->
   L5 P ops un Q n (Rq.setIfInBounds i true) ((i,U7 ops oi a,v)::Pd) (a.put oi.dst v) R->L5 P ops un Q (n+1) Rq Pd a R:=by
 intro n
 induction n with
 |zero=>
  intro Rq Pd a R rL rS hr hy H;refine⟨λh=>(by rw[h] at hr;cases hr),λj hj oj hoj=>?_⟩
  by_cases hji:j=i
  ·subst hji;rw[hi] at hoj;cases hoj;exact .inl ⟨v,hy,H⟩
  ·have:=ready_mono hj hji;rw[H.1] at this;cases this
 |succ n ih=>
  intro Rq Pd a R rL rS hr hy H;refine⟨λh=>(by rw[h] at hr;cases hr),λj hj oj hoj=>?_⟩
  by_cases hji:j=i
  ·subst hji;rw[hi] at hoj;cases hoj;exact .inl ⟨v,hy,H⟩
  ·obtain⟨Bt8,oj',CL5,tZ⟩:=mem_ready.1 hj;rw[hoj] at CL5;cases CL5
   have Ck2:∀e∈oj.after,Region.binds .any e->e.on≠i:=λe he hb heq=>by
    have h1:=tZ e he hb;have h0:=(mem_ready.1 hr).1;rw[heq] at h1;rcases Nat.lt_or_ge i Rq.size with h'|h'
    ·simp[h'] at h0 h1;rw[h0] at h1;cases h1
    ·simp[Array.getElem?_eq_none h'] at h1
   have hap:=rS j oj hoj hji Bt8 Ck2;have hsj:=λcs b=>BH2 j oj cs b hoj
   have hsi:=λcs b=>BH2 i oi cs b hi
   have BG3:Gb ops (Rq.setIfInBounds j true):=λk ok hk mL e he hb=>by
    by_cases gY:j=k
    ·subst gY;rw[hoj] at hk;cases hk;exact getD_set_true (tZ e he hb)
    ·rw[getD_set_ne true gY] at mL;exact getD_set_true (rL k ok hk mL e he hb)
   have Bi6:∀k ok,ops[k]? = some ok->k≠i->(Rq.setIfInBounds j true).getD k true=false->
     (∀e∈ok.after,Region.binds .any e->e.on≠i)->oi.apart ops ok:=λk ok hk hki hun kF=>by
    refine rS k ok hk hki ?_ kF
    by_cases gY:j=k
    ·subst gY;exact Bt8
    ·rw[getD_set_ne true gY] at hun;exact hun
   have hr':=ready_mono hr (Ne.symm hji)
   have Bu6:∀u,U7 ops oi (a.put oj.dst u)=U7 ops oi a:=λu=>by
    unfold U7;rw[wanted_put oi a oj.dst u (NZ hap),execOp_put oi hsi a oj.dst u (NZ hap)]
   have By7:∀u,(a.put oi.dst v).put oj.dst u=(a.put oj.dst u).put oi.dst v:=λu=>Act.put_comm a v u (Oper.apart_spec hap).2.1
   rcases H.2 j (ready_mono hj hji) oj hoj with ⟨u,h1,h2⟩|⟨h1,h2⟩
   ·rw[zm9 hap hsj] at h1 h2;refine .inl ⟨u,h1,ih _ _ _ R BG3 Bi6 hr' (by rw[Bu6 u];exact hy) ?_⟩;rw[Bu6 u,<-By7 u,Array.setIfInBounds_comm _ _ hji]
    exact H5 (λp hp=>by
     simp only[Ik] at hp ⊢;rcases hp with h|h|h
     ·exact .inr (.inl h)
     ·exact .inl h
     ·exact .inr (.inr h)) h2
   ·refine .inr ⟨?_,λw hw=>zok hap hsj (Eb (λu w' ⟨R',h3,h4,h5⟩=>⟨R',h3,λp hp=>h4 p (I3 _ hp),?_⟩) (h2 w hw))⟩
    ·rw[wanted_put oj a oi.dst v (Oper.apart_spec hap).1] at h1;exact h1
    ·have hyi:YS P R' (U7 ops oi a) v:=h4 _ (Ib ..) (hun Rq i j rL hr hj (Ne.symm hji));refine ih _ _ _ R' BG3 Bi6 hr' (by rw[Bu6 u];exact hyi) ?_;rw[Bu6 u,<-By7 u,Array.setIfInBounds_comm _ _ hji];exact h5
end
def Ao{acc:List Nat}{i:Nat}:∀(l:List Edge) (s:Nat),(l.foldl (λs e=>if Region.binds .any e then s ||| 2 ^ e.on ||| acc.getD e.on 0 else s) s).testBit i->
  s.testBit i\/∃e∈l,Region.binds .any e/\(e.on=i\/(acc.getD e.on 0).testBit i)
 |[],s,h=>.inl h
 |e::l,s,h=>by
  rcases Ao l _ h with h1|⟨e',he',hb,h2⟩
  ·by_cases hb:Region.binds .any e=true
   ·simp only[H' hb] at h1;simp only[Nat.testBit_or,Iw] at h1;rcases h1 with (h1|h1)|h1
    ·exact .inl h1
    ·refine .inr ⟨e,Ib ..,hb,.inl ?_⟩;rw[Nat.testBit_two_pow] at h1
     simpa using h1
    ·exact .inr ⟨e,Ib ..,hb,.inr h1⟩
   ·simp only[E' hb] at h1;exact .inl h1
  ·exact .inr ⟨e',I3 _ he',hb,h2⟩
def Hv:∀(l:List Oper) (acc:List Nat) (pre:List Oper),acc.length=pre.length->
  (∀(j:Nat) (o:Oper),pre[j]? = some o->∀i,(acc.getD j 0).testBit i->∃e∈o.after.toList,Region.binds .any e/\(e.on=i\/(e.on<j/\(acc.getD e.on 0).testBit i)))->
  ∀(j:Nat) (o:Oper),(pre++l)[j]? = some o->∀i,((Vc l acc).getD j 0).testBit i->∃e∈o.after.toList,Region.binds .any e/\(e.on=i\/(e.on<j/\((Vc l acc).getD e.on 0).testBit i))
 |[],acc,pre,hl,h,j,o,ho,i,hb=>by
  simp only[List.append_nil] at ho;exact h j o ho i hb
 |o'::l,acc,pre,hl,h,j,o,ho,i,hb=>by
  have Cg1:pre++o'::l=(pre++[o'])++l:=Qs;rw[Cg1] at ho;simp only[Vc] at hb ⊢;refine Hv l _ (pre++[o']) (by simp[hl]) (λj o ho i hb=>?_) j o ho i hb
  by_cases hj:j<pre.length
  ·rw[Ir hj] at ho;rw[List.getD_eq_getElem?_getD,Ir Qo,<-List.getD_eq_getElem?_getD] at hb;obtain⟨e,he,nH,h2⟩:=h j o ho i hb;refine⟨e,he,nH,?_⟩;rcases h2 with h2|⟨h2,h3⟩
   ·exact .inl h2
   ·refine .inr ⟨h2,?_⟩;rw[List.getD_eq_getElem?_getD,Ir Qo,<-List.getD_eq_getElem?_getD];exact h3
  ·have hj':j=pre.length:=by
    have:j<(pre++[o']).length:=(Ia.1 ho).1;simp at this;omega
   subst hj';simp only[List.getElem?_concat_length,I2] at ho;subst ho;rw[<-hl] at hb;rw[List.getD_eq_getElem?_getD,List.getElem?_concat_length] at hb;simp only[Option.getD_some] at hb;rcases Ao _ _ hb with h1|⟨e,he,nH,h2⟩
   ·simp at h1
   ·refine⟨e,he,nH,?_⟩;rcases h2 with h2|h2
    ·exact .inl h2
    ·have IX:e.on<acc.length:=by
      rcases Nat.lt_or_ge e.on acc.length with h'|h'
      ·exact h'
      ·rw[List.getD_eq_getElem?_getD,List.getElem?_eq_none h'] at h2;simp at h2
     refine .inr ⟨Qo,?_⟩;rw[List.getD_eq_getElem?_getD,Ir IX,<-List.getD_eq_getElem?_getD];exact h2
def zh4{ops:Array Oper}(Rq:Array Bool)(i j:Nat)(rL:Gb ops Rq)(hi:i∈Region.ready .any ops Rq)(hj:j∈Region.ready .any ops Rq)(_:i≠j):zdi (Vc ops.toList []) i j:=by
 unfold zdi;rw[ID];rw[Bool.eq_false_iff];intro hb;have B03:=Hv ops.toList [] [] rfl (λj o ho=>by simp at ho);simp only[List.nil_append] at B03;have hin:=(mem_ready.1 hi).1
 have no:Rq.getD i false≠true:=λh=>by
  rcases Nat.lt_or_ge i Rq.size with h'|h'
  ·simp[h'] at h hin;rw[h] at hin;cases hin
  ·simp[Array.getElem?_eq_none h'] at h
 have key:∀k:Nat,∀o,ops[k]? = some o->(∀e∈o.after,Region.binds .any e->Rq.getD e.on false)->((Vc ops.toList []).getD k 0).testBit i->False:=by
  intro k
  induction k using Nat.strongRecOn with
  |_ k ih=>
   intro o ho tZ hb;obtain⟨e,he,nH,h2⟩:=B03 k o (by simpa using ho) i hb;have he':e∈o.after:=by rw[<-Array.mem_toList_iff];exact he
   have hl:=tZ e he' nH;rcases h2 with h2|⟨h2,h3⟩
   ·rw[h2] at hl;exact no hl
   ·have IX:e.on<ops.size:=Nat.lt_trans h2 (Array.getElem?_eq_some_iff.1 ho).1;have hoe:ops[e.on]? = some ops[e.on]:=Array.getElem?_eq_getElem IX;refine ih e.on h2 _ hoe (rL e.on _ hoe ?_) h3;rcases Nat.lt_or_ge e.on Rq.size with h'|h'
    ·simp[h'] at hl ⊢;exact hl
    ·simp[Array.getElem?_eq_none h'] at hl
 obtain⟨_,o,ho,tZ⟩:=mem_ready.1 hj;exact key j o ho tZ hb
def GA(C:VR)(ops:Array Oper):List Nat->Option Nat
 |[]=>none
 |i::r=>match ops[i]? with
  |some o=>bif HO C o.op then GA C ops r else some i
  |none=>GA C ops r
def Kr{C:VR}{ops:Array Oper}:∀{l:List Nat} {i:Nat},GA C ops l=some i->i∈l/\∃o,ops[i]? = some o/\HO C o.op=false
 |[],_,h=>by cases h
 |j::r,i,h=>by
  simp only[GA] at h
  split at h
  ·rename_i o ho
   cases he:HO C o.op with
   |true=>
    rw[he] at h;obtain⟨h1,h2⟩:=Kr h;exact⟨I3 _ h1,h2⟩
   |false=>
    rw[he] at h;simp only[cond_false,I2] at h;subst h;exact⟨Ib ..,o,ho,he⟩
  ·obtain⟨h1,h2⟩:=Kr h;exact⟨I3 _ h1,h2⟩
def EW(M:List Nat)(i:Nat)(S:St)(w:Wo):List (Nat×CT)->Prop->Prop
 |[],A=>A
 |(j,f)::r,A=>bif zdi M j i then f S w/\EW M i S w r A else EW M i S w r A
def ME{M:List Nat}{i:Nat}{S:St}{w:Wo}:∀{l:List (Nat×CT)} {A:Prop},EW M i S w l A->A/\∀p∈l,zdi M p.1 i->p.2 S w
 |[],A,h=>⟨h,λp hp=>by cases hp⟩
 |(j,f)::r,A,h=>by
  simp only[EW] at h
  cases hu:zdi M j i with
  |true=>
   rw[hu] at h;obtain⟨h1,h2⟩:=h;obtain⟨h3,h4⟩:=ME h2;refine⟨h3,λp hp hpu=>?_⟩;rcases Ik.1 hp with rfl|hp
   ·exact h1
   ·exact h4 p hp hpu
  |false=>
   rw[hu] at h;obtain⟨h3,h4⟩:=ME (A:=A) h;refine⟨h3,λp hp hpu=>?_⟩;rcases Ik.1 hp with rfl|hp
   ·rw[hu] at hpu;cases hpu
   ·exact h4 p hp hpu
def zim(l:List Nat)(A:Nat->Prop):Prop:=
 match l with
 |[]=>True
 |[i]=>A i
 |i::r=>A i/\zim r A
def Ae:∀{l:List Nat} {A:Nat->Prop},zim l A->∀i∈l,A i
 |[],_,_,_,hi=>by cases hi
 |[j],A,h,i,hi=>by simp only[IB] at hi;subst hi;exact h
 |j::k::r,A,h,i,hi=>by
  rcases Ik.1 hi with rfl|hi
  ·exact h.1
  ·exact Ae h.2 i hi
def zk7(i:Nat)(f:Pg)(tM:List (Nat×CT)):List (Nat×CT):=
 match f with
 |some f=>(i,f)::tM
 |none=>tM
def Gz(C:VR)(ops:Array Oper)(M:List Nat):Nat->Array Bool->List (Nat×CT)->St->Wo->(St->Wo->Prop)->Prop
 |0,Rq,_,S,w,K=>match Region.ready .any ops Rq with
  |[]=>K S w
  |_=>False
 |n+1,Rq,tM,S,w,K=>match Region.ready .any ops Rq with
  |[]=>K S w
  |rs=>match GA C ops rs with
   |some i=>match ops[i]? with
    |some o=>bif Region.free .any ops Rq i then Ah C ops (λj=>Rq.getD j false) o S w λf S' w'=>Gz C ops M n (Rq.setIfInBounds i true) (zk7 i f tM) S' w' K else False
    |none=>False
   |none=>zim rs λi=>match ops[i]? with
    |some o=>Ah C ops (λj=>Rq.getD j false) o S w λ_ S' w'=>EW M i S' w' tM (Gz C ops M n (Rq.setIfInBounds i true) tM S' w' K)
    |none=>False
def ziq{C:VR}(E:zns C){ops:Array Oper}{D D':Nat->Prop}{dn:Nat->Bool}{i:Nat}{o:Oper}{S:St}{w:Wo}{a:Act}{K:Pg->St->Wo->Prop}(hu:Du ops)(ho:ops[i]? = some o)(hi:¬D i)(hD:∀j,D j->znp ops j)(hDD:∀j,D j->D' j)(hdn:∀j,dn j->znp ops j->D j)(hf:Pr C.n S ops D a)(WZ:Kh S)(he:HO C o.op=false)(h:Ah C ops dn o S w K) :
  ∃f v S',K f S' w/\Pr C.n S' ops D' (a.put o.dst v)/\Kh S'/\Ps S S'/\S'.r=S.r/\S'.old=S.old/\(∀w wr,Zh S w wr↔Zh S' w wr)/\YS C.P (Zh S w) (U7 ops o a) v/\
   (∀(sR:St) (kN:Wo),Ps S sR->zix f sR kN->YS C.P (Zh sR kN) (U7 ops o a) v):=by
 unfold Ah at h
 cases hb:(zuk dn o && !Gp o) with
 |false=>rw[hb] at h;exact h.elim
 |true=>
  rw[hb] at h;simp only[cond_true] at h;simp only[A',ID] at hb
  have hg:∀j b,o.guard=some (j,b)->D j:=λj b hgd=>by
   refine hdn j ?_ ⟨o,by rw[Array.mem_toList_iff];exact Array.mem_of_getElem? ho,b,hgd⟩;have:=hb.1;unfold zuk at this;rw[hgd] at this;exact this
  split at h
  ·exact h.elim
  ·rename_i pc nX;have AL5:=zi9 hf nX hg;have oD:=KL hf.fit nX
   have tH:∀{sv:SV} (w wr:Wo),Zh S w wr↔Zh (S.bX o.dst sv) w wr:=λ{sv} w wr=>by
    cases o.dst
    ·exact Iff.rfl
    ·exact⟨λh=>⟨h.ext,h.loc,h.len,h.nF,h.fresh⟩,λh=>⟨h.ext,h.loc,h.len,h.nF,h.fresh⟩⟩
   cases hdd:E1 S ops pc o with
   |true=>
    rw[hdd] at h;simp only[cond_true] at h;have hp:=Gr hf.fit nX hdd;have uD:¬Region.wanted o (yielded ops a.tmps):=λuD=>hp (oD.1 uD)
    obtain⟨h1,h2⟩:=Yg h;have hs:U7 ops o a=none:=by unfold U7;rw[E' uD]
    refine⟨none,undef,_,h1,hf.put hu ho hi hD hDD AL5 h2 ⟨λhp'=>It hp' hp,λ_=>rfl⟩,WZ.bX _ _,(Ps.refl S).bX _ _,by cases o.dst <;> rfl,by cases o.dst <;> rfl,tH,?_,λsR kN yR hfc=>?_⟩ <;> (rw[hs];rfl)
   |false=>
   rw[hdd] at h;rw[he] at h;simp only[cond_false] at h
   by_cases hp:GU ops a pc
   ·have uD:=oD.2 hp;obtain⟨e,fact,v,hK,B64,kL,hq⟩:=zca E.T E.pf hf.fit hp h;obtain⟨h1,h2⟩:=Yg hK;refine⟨fact,v,_,h1,hf.put hu ho hi hD hDD AL5 h2 ⟨λ_=>B64,λhn=>It hp hn⟩,WZ.bX _ _,(Ps.refl S).bX _ _,by cases o.dst <;> rfl,by cases o.dst <;> rfl,tH,?_,λsR kN yR hfc=>?_⟩
    ·unfold U7;rw[H' uD];exact λwr hw=>hq S w a rfl (λ_ _ h=>h) kL wr hw
    ·unfold U7;rw[H' uD];exact λwr hw=>hq sR kN a rfl yR.B hfc wr hw
   ·have uD:¬Region.wanted o (yielded ops a.tmps):=λuD=>hp (oD.1 uD)
    obtain⟨e,fact,hK⟩:=zgc h;obtain⟨h1,h2⟩:=Yg hK;have hs:U7 ops o a=none:=by unfold U7;rw[E' uD]
    refine⟨fact,undef,_,h1,hf.put hu ho hi hD hDD AL5 h2 ⟨λhp'=>It hp' hp,λ_=>rfl⟩,WZ.bX _ _,(Ps.refl S).bX _ _,by cases o.dst <;> rfl,by cases o.dst <;> rfl,tH,?_,λsR kN yR hfc=>?_⟩ <;> (rw[hs];rfl)
def zoo(C:VR)(ops:Array Oper)(draw:Bool)(S:St)(w:Wo)(K:St->Wo->Prop):Prop:=
 bif Du ops then
  (bif draw then
   (bif Region.noSelect ops then Gz C ops (Vc ops.toList []) ops.size (Array.replicate ops.size false) [] { S with r:=S.r+1 } w λS' w'=>K { S' with r:=S'.r+1 } w' else False)
  else zop C ops ops.toList 0 { S with r:=S.r+1 } w λS' w'=>K { S' with r:=S'.r+1 } w')
 else False
structure TW (n:Nat) (S:St) (a:Act):Prop where
 size:a.tmps.size=n
 fits:∀i x,S.F.get i=some (.un x)->EV.den S x (a.tmps.getD i undef)
 old:∀i r pc x,S.F.get i=some (.gd r pc x)->r<S.r
def TW.enter{n:Nat}{S:St}{a:Act}(h:TW n S a)(ops:Array Oper)(D:Nat->Prop):Pr n { S with r:=S.r+1 } ops D a:=
 ⟨⟨h.size,λi s hs=>by
  cases s with
  |un x=>exact EV.gF (S:=S) (λ_ _ h=>h) (h.fits i x hs)
  |gd r pc x=>intro hr;have:=h.old i r pc x hs;simp only at hr;omega⟩,λi pc x hx=>by have:=h.old i _ pc x hx;simp only at this;omega,λi r pc x hx=>by have:=h.old i r pc x hx;show r<=S.r+1;omega⟩
def Pr.leave{n:Nat}{S:St}{ops:Array Oper}{D:Nat->Prop}{a:Act}(h:Pr n S ops D a):TW n { S with r:=S.r+1 } a:=
 ⟨h.fit.size,λi x hx=>EV.gF (S:=S) (λ_ _ h=>h) (h.fit.fits i (.un x) hx),λi r pc x hx=>Nat.lt_succ_of_le (h.st i r pc x hx)⟩
def zl9{C:VR}{ops:Array Oper}{D D':Nat->Prop}{dn:Nat->Bool}{i:Nat}{o:Oper}{S:St}{w:Wo}{a:Act}{K:Pg->St->Wo->Prop}(hu:Du ops)(ho:ops[i]? = some o)(hi:¬D i)(hD:∀j,D j->znp ops j)(hDD:∀j,D j->D' j)(hdn:∀j,dn j->znp ops j->D j)(hf:Pr C.n S ops D a)(WZ:Kh S)(he:HO C o.op)(uD:¬Region.wanted o (yielded ops a.tmps))(h:Ah C ops dn o S w K) :
  ∃S',K none S' w/\Pr C.n S' ops D' (a.put o.dst undef)/\Kh S'/\Ps S S'/\S'.r=S.r/\S'.old=S.old/\(∀w wr,Zh S w wr↔Zh S' w wr):=by
 unfold Ah at h
 cases hb:(zuk dn o && !Gp o) with
 |false=>rw[hb] at h;exact h.elim
 |true=>
  rw[hb] at h;simp only[cond_true] at h;simp only[A',ID] at hb
  have hg:∀j b,o.guard=some (j,b)->D j:=λj b hgd=>by
   refine hdn j ?_ ⟨o,by rw[Array.mem_toList_iff];exact Array.mem_of_getElem? ho,b,hgd⟩;have:=hb.1;unfold zuk at this;rw[hgd] at this;exact this
  split at h
  ·exact h.elim
  ·rename_i pc nX;have AL5:=zi9 hf nX hg;have oD:=KL hf.fit nX
   have tH:∀{sv:SV} (w wr:Wo),Zh S w wr↔Zh (S.bX o.dst sv) w wr:=λ{sv} w wr=>by
    cases o.dst
    ·exact Iff.rfl
    ·exact⟨λh=>⟨h.ext,h.loc,h.len,h.nF,h.fresh⟩,λh=>⟨h.ext,h.loc,h.len,h.nF,h.fresh⟩⟩
   cases hdd:E1 S ops pc o with
   |true=>
    rw[hdd] at h;simp only[cond_true] at h;have hp:=Gr hf.fit nX hdd;obtain⟨h1,h2⟩:=Yg h;exact⟨_,h1,hf.put hu ho hi hD hDD AL5 h2 ⟨λhp'=>It hp' hp,λ_=>rfl⟩,WZ.bX _ _,(Ps.refl S).bX _ _,by cases o.dst <;> rfl,by cases o.dst <;> rfl,tH⟩
   |false=>
   rw[hdd] at h;simp only[cond_false] at h;rw[he] at h;simp only[cond_true] at h
   split at h
   ·exact It (oD.2 (λp hp=>by cases hp)) uD
   ·cases hpo:zm3 S ops pc with
    |false=>rw[hpo] at h;exact h.elim
    |true=>
     rw[hpo] at h;simp only[cond_true] at h;have hp:¬GU ops a pc:=λhp=>uD (oD.2 hp)
     obtain⟨h1,h2⟩:=Yg (h.2 (zep hf.fit hpo hp));exact⟨_,h1,hf.put hu ho hi hD hDD AL5 h2 ⟨λhp'=>It hp' hp,λ_=>rfl⟩,WZ.bX _ _,(Ps.refl S).bX _ _,by cases o.dst <;> rfl,by cases o.dst <;> rfl,tH⟩
def Kq{C:VR}{ops:Array Oper}:∀{l:List Nat},GA C ops l=none->∀i∈l,∀o,ops[i]? = some o->HO C o.op=true
 |[],_,i,hi,_,_=>by cases hi
 |j::r,h,i,hi,o,ho=>by
  simp only[GA] at h
  split at h
  ·rename_i o' ho'
   cases he:HO C o'.op with
   |false=>rw[he] at h;cases h
   |true=>
    rw[he] at h;rcases Ik.1 hi with rfl|hi
    ·rw[ho'] at ho;cases ho;exact he
    ·exact Kq h i hi o ho
  ·rename_i ho';rcases Ik.1 hi with rfl|hi
   ·rw[ho'] at ho;cases ho
   ·exact Kq h i hi o ho
def zed{ops:Array Oper}{i:Nat}{o:Oper}(ho:ops[i]? = some o):∀x,o.dst=some x->x∈Ko ops.toList:=λx hx=>by
 have hm:o∈ops.toList:=by rw[Array.mem_toList_iff];exact Array.mem_of_getElem? ho
 generalize ops.toList=q at hm
 induction q with
 |nil=>cases hm
 |cons y q ih=>
  simp only[Ko];rcases Ik.1 hm with rfl|hm
  ·rw[hx];exact Ib ..
  ·split
   ·exact I3 _ (ih hm)
   ·exact ih hm
def DL(ops:Array Oper)(Rq:Array Bool)(j:Nat):Prop:=Rq.getD j false/\znp ops j
def PQ(C:VR)(ops:Array Oper)(K:St->Wo->Prop)(S0:St)(w0:Wo)(a0:Act)(ds:List Nat)(a:Act)(R:Wo->Prop):Prop:=
 ∃S' w',K S' w'/\TW C.n { S' with r:=S'.r+1 } a/\Kh S'/\Ps S0 S'/\S'.r=S0.r/\Gd ds a0 a/\(C.pm->w'=w0/\S'.old=S0.old)/\R=Zh S' w'
def Oi{C:VR}(E:zns C){ops:Array Oper}(hu:Du ops)(BH2:Region.noSelect ops){K:St->Wo->Prop}{S0:St}{w0:Wo}{a0:Act}{ds:List Nat}(hds:∀x∈Ko ops.toList,x∈ds) :
  ∀(n:Nat) (Rq:Array Bool) (tM:List (Nat×CT)) (Pd:List (Nat×Option (Sem Next)×Va)) (S:St) (w:Wo) (a:Act),Gz C ops (Vc ops.toList []) n Rq tM S w K->Gb ops Rq->
   Pr C.n S ops (DL ops Rq) a->Kh S->Ps S0 S->S.r=S0.r->Gd ds a0 a->(C.pm->w=w0/\S.old=S0.old)->
   (∀p∈Pd,(∃f:CT,(p.1,f)∈tM/\∀(sR:St) (kN:Wo),Ps S sR->f sR kN->YS C.P (Zh sR kN) p.2.1 p.2.2)\/(∀(sR:St) (kN:Wo),Ps S sR->YS C.P (Zh sR kN) p.2.1 p.2.2))->
   L5 C.P ops (zdi (Vc ops.toList [])) (PQ C ops K S0 w0 a0 ds) n Rq Pd a (Zh S w)
 |0,Rq,tM,Pd,S,w,a,h,rL,hf,WZ,yR,hr,hfa,jY,hpd=>by
  simp only[Gz] at h
  split at h
  ·rename_i sV;exact⟨sV,S,w,h,hf.leave,WZ,yR,hr,hfa,jY,rfl⟩
  ·exact h.elim
 |n+1,Rq,tM,Pd,S,w,a,h,rL,hf,WZ,yR,hr,hfa,jY,hpd=>by
  simp only[Gz] at h
  split at h
  ·rename_i sV;exact⟨λ_=>⟨S,w,h,hf.leave,WZ,yR,hr,hfa,jY,rfl⟩,λi hi=>by rw[sV] at hi;cases hi⟩
  ·rename_i sV
   split at h
   ·rename_i i hi;obtain⟨him,o',ho',he⟩:=Kr hi
    split at h
    ·rename_i o ho;rw[ho] at ho';cases ho'
     cases rS:Region.free .any ops Rq i with
     |false=>rw[rS] at h;exact h.elim
     |true=>
      rw[rS] at h;simp only[cond_true] at h;obtain⟨hun,_,_,tZ⟩:=mem_ready.1 him
      have hni:¬DL ops Rq i:=λhd=>by
       have h1:=hd.1;rcases Nat.lt_or_ge i Rq.size with h'|h'
       ·simp[h'] at h1 hun;rw[h1] at hun;cases hun
       ·simp[Array.getElem?_eq_none h'] at h1
      obtain⟨f,v,S',hK,hf',Ay4,pZ,hr',Bj5,tH,hys,hyf⟩:=ziq E (i:=i) (D':=DL ops (Rq.setIfInBounds i true)) hu ho hni (λj hj=>hj.2) (λj hj=>⟨getD_set_true hj.1,hj.2⟩) (λj h1 h2=>⟨h1,h2⟩) hf WZ he h
      have BG3:Gb ops (Rq.setIfInBounds i true):=λk ok hk mL e he hb=>by
       by_cases hik:i=k
       ·subst hik;rw[ho] at hk;cases hk;obtain⟨_,o2,ho2,CI5⟩:=mem_ready.1 him;rw[ho] at ho2;cases ho2;exact getD_set_true (CI5 e he hb)
       ·rw[getD_set_ne true hik] at mL;exact getD_set_true (rL k ok hk mL e he hb)
      have heq:Zh S w=Zh S' w:=funext λwr=>propext (tH w wr)
      refine zjv (λj o cs b hj=>Region.noSelect_spec BH2 j o cs b hj) (λRq i j h1 h2 h3 h4=>zh4 Rq i j h1 h2 h3 h4) ho n Rq Pd a (Zh S w) rL (λj oj hj hji Bt8 kF=>Region.free_spec ho rS j oj hj hji Bt8 kF) him hys ?_;rw[heq];refine Oi E hu BH2 hds n _ (zk7 i f tM) _ S' w _ hK BG3 hf' Ay4 (yR.trans pZ) (hr'.trans hr) (hfa.trans (Gd.put a _ v ds λx hx=>hds x (zed ho x hx))) (λhp=>⟨(jY hp).1,Bj5.trans (jY hp).2⟩) λp hp=>?_
      rcases Ik.1 hp with rfl|hp
      ·cases f with
       |none=>exact .inr λsR kN hs=>hyf sR kN (pZ.trans hs) trivial
       |some f=>exact .inl ⟨f,Ib ..,λsR kN hs hfc=>hyf sR kN (pZ.trans hs) hfc⟩
      ·rcases hpd p hp with ⟨f',hm,hs'⟩|hs'
       ·refine .inl ⟨f',?_,λsR kN hs hfc=>hs' sR kN (pZ.trans hs) hfc⟩
        cases f with
        |none=>exact hm
        |some f=>exact I3 _ hm
       ·exact .inr λsR kN hs=>hs' sR kN (pZ.trans hs)
    ·exact h.elim
   ·rename_i AL4;refine⟨λh0=>It h0 (by assumption),λi hi o ho=>?_⟩;have h1:=Ae h i hi;rw[ho] at h1;simp only at h1;have he:=Kq AL4 i hi o ho;obtain⟨hun,o2,ho2,tZ⟩:=mem_ready.1 hi;rw[ho] at ho2;cases ho2
    have hni:¬DL ops Rq i:=λhd=>by
     have h1:=hd.1;rcases Nat.lt_or_ge i Rq.size with h'|h'
     ·simp[h'] at h1 hun;rw[h1] at hun;cases hun
     ·simp[Array.getElem?_eq_none h'] at h1
    have BG3:Gb ops (Rq.setIfInBounds i true):=λk ok hk mL e he hb=>by
     by_cases hik:i=k
     ·subst hik;rw[ho] at hk;cases hk;exact getD_set_true (tZ e he hb)
     ·rw[getD_set_ne true hik] at mL;exact getD_set_true (rL k ok hk mL e he hb)
    by_cases uD:Region.wanted o (yielded ops a.tmps)=true
    case neg=>
     obtain⟨S',hK,hf',Ay4,pZ,hr',Bj5,tH⟩:=zl9 (i:=i) (D':=DL ops (Rq.setIfInBounds i true)) hu ho hni (λj hj=>hj.2) (λj hj=>⟨getD_set_true hj.1,hj.2⟩) (λj h1 h2=>⟨h1,h2⟩) hf WZ he uD h1;obtain⟨hev,_⟩:=ME hK;have heq:Zh S w=Zh S' w:=funext λwr=>propext (tH w wr)
     have hs0:U7 ops o a=none:=by unfold U7;rw[E' uD]
     refine .inl ⟨undef,by rw[hs0];rfl,?_⟩;rw[heq];refine Oi E hu BH2 hds n _ tM _ S' w _ hev BG3 hf' Ay4 (yR.trans pZ) (hr'.trans hr) (hfa.trans (Gd.put a _ _ ds λx hx=>hds x (zed ho x hx))) (λhp=>⟨(jY hp).1,Bj5.trans (jY hp).2⟩) λp hp=>?_
     rcases Ik.1 hp with rfl|hp
     ·exact .inr λsR kN hs=>by rw[hs0];rfl
     ·rcases hpd p hp with ⟨f',hm,hs'⟩|hs'
      ·exact .inl ⟨f',hm,λsR kN hs hfc=>hs' sR kN (pZ.trans hs) hfc⟩
      ·exact .inr λsR kN hs=>hs' sR kN (pZ.trans hs)
    refine .inr ⟨uD,λwr tI=>?_⟩
    have hZ:=Ai E (i:=i) (D':=DL ops (Rq.setIfInBounds i true))
     (N:=λa' w'=>(∃v,a'=a.put o.dst v)/\∃S' kN,EW (Vc ops.toList []) i S' kN tM (Gz C ops (Vc ops.toList []) n (Rq.setIfInBounds i true) tM S' kN K)/\ztq C S w ops (DL ops (Rq.setIfInBounds i true)) o a S' kN a' w') (Q:=λ_ _ _=>False)
     hu ho hni (λj hj=>hj.2) (λj hj=>⟨getD_set_true hj.1,hj.2⟩) (λj h1 h2=>⟨h1,h2⟩) hf tI WZ (λf S' w' a' aB hK hL=>⟨hL.put,S',w',hK,hL⟩) h1
    rw[H' uD] at hZ;refine Eb (λv w' hN=>?_) (zin (zrw h1) hZ λa' w' hN=>hN.1);obtain⟨_,S',kN,hpo,hL⟩:=hN;obtain⟨hev,B69⟩:=ME hpo;refine⟨Zh S' kN,hL.rel,λp hp hpu=>?_,Oi E hu BH2 hds n _ tM Pd S' kN _ hev BG3 hL.fit hL.wf (yR.trans hL.fr) (hL.r.trans hr) (hfa.trans (Gd.put a o.dst v ds λx hx=>hds x (zed ho x hx))) (λhp=>⟨(hL.pm hp).1.trans (jY hp).1,(hL.pm hp).2.trans (jY hp).2⟩) λp hp=>?_⟩
    ·rcases hpd p hp with ⟨f',hm,hs'⟩|hs'
     ·exact hs' S' kN hL.fr (B69 _ hm hpu)
     ·exact hs' S' kN hL.fr
    ·rcases hpd p hp with ⟨f',hm,hs'⟩|hs'
     ·exact .inl ⟨f',hm,λsR w3 hs hfc=>hs' sR w3 (hL.fr.trans hs) hfc⟩
     ·exact .inr λsR w3 hs=>hs' sR w3 (hL.fr.trans hs)
structure X9 where
 tE:List (Nat×CK)
 Wz:List (Nat×List CK)
 A36:List Nat
 aV:List (TypeId×List CK):=[]
 ptr:List (Nat×Nat):=[]
def Jn:Code->List Nat
 |.region _ ops _=>Ko ops.toList
 |.seq a b=>Jn a++Jn b
 |.cond _ a b=>Jn a++Jn b
 |.block _ b=>Jn b
 |.loop b=>Jn b
 |.scope b=>Jn b
 |_=>[]
def HY:Code->Option Nat
 |.region id _ _=>some id
 |.seq a b=>match HY a with
  |some k=>some k
  |none=>HY b
 |.cond _ a b=>match HY a with
  |some k=>some k
  |none=>HY b
 |.block _ b=>HY b
 |.loop b=>HY b
 |.scope b=>HY b
 |_=>none
def zi2:CK->Va->Bool
 |.int k,.int k' _=>decide (k=k')
 |.bool,.bool _=>true
 |.str,.string _=>true
 |.slice,.slice _ _ _=>true
 |.ptr,.pointer _=>true
 |.fn,.func _ _ _=>true
 |.iface,_=>true
 |.map,_=>true
 |.other,_=>true
 |_,_=>false
def zvt:CK->(Va->Prop)->Prop
 |.int k,K=>∀n:Int,K (.int k n)
 |.bool,K=>∀b:Bool,K (.bool b)
 |.str,K=>∀s:ByteArray,K (.string s)
 |.slice,K=>∀(o:OA) (l c:Nat),K (.slice o l c)
 |.ptr,K=>∀o:OA,K (.pointer o)
 |.fn,K=>∀(f:Fn) (a c:Array Va),K (.func f a c)
 |_,K=>∀v:Va,K v
def Hu:List CK->(List Va->Prop)->Prop
 |[],K=>K []
 |k::r,K=>zvt k λv=>Hu r λl=>K (v::l)
def znz{k:CK}{K:Va->Prop}(h:zvt k K){v:Va}(hv:zi2 k v):K v:=by
 cases k <;> cases v <;> simp only[zi2] at hv <;> first
  |exact h _
  |exact h _ _ _
  |(cases hv;done)
  |(simp only[Il] at hv;subst hv;exact h _)
def Jv:List CK->List Va->Bool
 |[],[]=>true
 |k::r,v::l=>zi2 k v&&Jv r l
 |_,_=>false
def VU:∀{ks:List CK} {K:List Va->Prop} {vs:List Va},Hu ks K->Jv ks vs->K vs
 |[],_,[],h,_=>h
 |k::r,K,v::l,h,hk=>by
  simp only[Jv,A'] at hk;exact VU (K:=λl=>K (v::l)) (znz (K:=λv=>Hu r λl=>K (v::l)) h hk.1) hk.2
 |[],_,_::_,_,hk=>by simp[Jv] at hk
 |_::_,_,[],_,hk=>by simp[Jv] at hk
def KY(S:St):List (Nat×CK)->Option (List Va)
 |[]=>some []
 |(i,_)::r=>match S.F.get i with
  |some (.un e)=>match zts S e,KY S r with
   |some x,some l=>some (x::l)
   |_,_=>none
  |_=>none
def Md(S:St):List (Nat×List CK)->Option (List Va)
 |[]=>some []
 |(id,ks)::r=>match S.L[id]?,Md S r with
  |some (_,cs),some l=>bif Nat.beq cs.length ks.length then some (cs++l) else none
  |_,_=>none
def X9.ks(sp:X9):List CK:=sp.tE.map (·.2)++sp.Wz.flatMap (·.2)
def Au(S:St)(sp:X9)(K:List Va->Prop):Prop:=
 match KY S sp.tE,Md S sp.Wz with
 |some xs,some ys=>bif Jv sp.ks (xs++ys) then K (xs++ys) else False
 |_,_=>False
def zci(F:PT SV):List Nat->PT SV
 |[]=>.leaf
 |i::r=>match F.get i with
  |some (.un e)=>PT.set 12 (zci F r) i (.un e)
  |_=>zci F r
def zlg(F:PT SV):List (Nat×CK)->List Va->PT SV
 |(i,_)::r,v::vs=>PT.set 12 (zlg F r vs) i (.un (.v v))
 |_,_=>F
def Um(L:List (TypeId×List Va)):List (Nat×List CK)->List Va->List (TypeId×List Va)
 |[],_=>L
 |(id,ks)::r,vs=>match L[id]? with
  |some (t,_)=>Um (L.set id (t,vs.take ks.length)) r (vs.drop ks.length)
  |none=>Um L r (vs.drop ks.length)
def G7(S:St)(sp:X9):List Nat:=(List.range S.L.length).filter λid => !PG (sp.Wz.map (·.1)) id
def Yf(S:St)(sp:X9)(vs:List Va):St:=
 { S with F:=zlg (zci S.F sp.A36) sp.tE (vs.take sp.tE.length),L:=Um S.L sp.Wz (vs.drop sp.tE.length),lk:=G7 S sp }
def C5:List Nat->Bool
 |[]=>true
 |x::r => !PG r x&&C5 r
def znd(S:St)(sp:X9)(ds:List Nat):Bool:=
 (sp.A36.all λi => !PG ds i&&Nat.blt i 4000)&&(sp.tE.all λp=>Nat.blt p.1 4000 && !PG sp.A36 p.1)&&C5 (sp.tE.map (·.1))&&C5 (sp.Wz.map (·.1))&&(sp.Wz.all λp=>match S.L[p.1]? with
  |some (_,cs)=>Nat.beq cs.length p.2.length && !PG S.lk p.1
  |none=>false)
def X9.nks(sp:X9):List CK:=sp.aV.flatMap (·.2)
def zj6:Nat->(List Nat->Prop)->Prop
 |0,K=>K []
 |n+1,K=>∀b:Nat,zj6 n λl=>K (b::l)
def DX:∀{n:Nat} {K:List Nat->Prop} {bs:List Nat},zj6 n K->bs.length=n->K bs
 |0,_,[],h,_=>h
 |n+1,K,b::l,h,hl=>DX (K:=λl=>K (b::l)) (h b) (by simpa using hl)
 |0,_,_::_,_,hl=>by simp at hl
 |_+1,_,[],_,hl=>by simp at hl
def KH:List (TypeId×List CK)->List Va->List (TypeId×List Va)
 |[],_=>[]
 |(t,ks)::r,vs=>(t,vs.take ks.length)::KH r (vs.drop ks.length)
def zcp(S:St):Nat->List (TypeId×List CK)->Option (List Va)
 |_,[]=>some []
 |n,(t,ks)::r=>match S.L[n]?,zcp S (n+1) r with
  |some (t',cs),some l=>bif Nat.beq t' t&&Nat.beq cs.length ks.length then some (cs++l) else none
  |_,_=>none
def zcy(S:St)(n k:Nat)(l:List (Nat×Nat)):Bool:=l.all λp=>Nat.blt p.1 4000&&Nat.blt p.2 k&&match S.F.get p.1 with
 |some (.un (.loc id 0))=>Nat.beq id (n+p.2)
 |_=>false
def zlf(F:PT SV)(n:Nat):List (Nat×Nat)->PT SV
 |[]=>F
 |(i,j)::r=>PT.set 12 (zlf F n r) i (.un (.loc (n+j) 0))
def LY(S:St)(sp:X9)(vs zs:List Va)(bs:List Nat):St:=
 { F:=zlf (Yf S sp vs).F S.L.length sp.ptr,L:=(Yf S sp vs).L++KH sp.aV zs,B:=S.B++bs,old:=S.old,lk:=S.lk,r:=S.r }
def zks(S S':St)(sp:X9)(K:List Va->List Nat->Prop):Prop:=
 match zcp S' S.L.length sp.aV with
 |some zs=>bif Jv sp.nks zs&&zcy S' S.L.length sp.aV.length sp.ptr then Au S' sp λvs=>K (vs++zs) ((S'.B.drop S.B.length).take sp.aV.length) else False
 |none=>False
def zv0(sps:List (Nat×X9))(b:Code):Option X9:=match sps with
 |[]=>none
 |_=>match HY b with
  |some k=>zie sps (k+1000000)
  |none=>none
def rF(S:St)(c:Operand)(x:Bool):St:=
 match c with
 |.tmp t=>bif Nat.blt t 4000 then { S with F:=PT.set 12 S.F t (.un (.kb x)) } else S
 |_=>S
def zem(C:VR)(sps:List (Nat×X9)):Code->St->Wo->(Exit->St->Wo->Prop)->Prop
 |.skip,S,w,K=>K .normal S w
 |.label _,S,w,K=>K .normal S w
 |.region _ ops d,S,w,K=>zoo C ops d S w (K .normal)
 |.seq a b,S,w,K=>match zv0 sps b with
  |none=>zem C sps a S w λe S' w'=>match e with
   |.normal=>zem C sps b S' w' K
   |e=>K e S' w'
  |some sp=>bif znd S sp (Jn a) then
    bif C.pm then
     ∃kK:List Va->List Nat->Prop,(zem C sps a { S with lk:=G7 S sp } w λe S' w'=>match e with
       |.normal=>zks S S' sp kK
       |e=>K e { S' with lk:=S.lk } w')/\
      Hu sp.ks λvs=>Hu sp.nks λzs=>zj6 sp.aV.length λbs=>kK (vs++zs) bs->zem C sps b (LY S sp vs zs bs) w K
    else
     ∃kK:List Va->List Nat->Wo->Prop,(zem C sps a { S with lk:=G7 S sp } w λe S' w'=>match e with
       |.normal=>∀wr,Q0 S'.bs w' wr->(∀b∈S'.B,b<wr.heap.size)->zks S S' sp λvs bs=>kK vs bs wr
       |e=>K e { S' with lk:=S.lk } w')/\
      Hu sp.ks λvs=>Hu sp.nks λzs=>zj6 sp.aV.length λbs=>∀w1,(∀b∈S.B++bs,b<w1.heap.size)->kK (vs++zs) bs w1->zem C sps b (LY S sp vs zs bs).cB w1 K
   else False
 |.cond c a b,S,w,K=>match CS S [] c with
  |some (.kb true)=>zem C sps a S w K
  |some (.kb false)=>zem C sps b S w K
  |some (.v (.bool x))=>(x->zem C sps a (rF S c true) w K)/\(x=false->zem C sps b (rF S c false) w K)
  |_=>False
 |.block id b,S,w,K=>zem C sps b S w λe S' w'=>match e with
  |.exit id'=>bif Nat.beq id' id then K .normal S' w' else K e S' w'
  |e=>K e S' w'
 |.scope b,S,w,K=>zem C sps b S w λe S' w'=>match e with
  |.goto _=>False
  |e=>K e S' w'
 |.exit id,S,w,K=>K (.exit id) S w
 |.ret,S,w,K=>K .ret S w
 |.loop b,S,w,K=>match HY b with
  |none=>False
  |some key=>match zie sps key with
   |none=>False
   |some sp=>bif znd S sp (Jn b) then
     bif C.pm then
      ∃(J4:List Va->Prop) (μ:List Va->Nat),Au S sp J4/\Hu sp.ks λvs=>J4 vs->zem C sps b (Yf S sp vs) w λe S' w'=>match e with
       |.normal=>Au S' sp λvs'=>J4 vs'/\μ vs'<μ vs
       |e=>K e { S' with lk:=S.lk } w'
     else
      ∃(J4:List Va->Wo->Prop) (μ:List Va->Wo->Nat),(∀wr,Q0 S.bs w wr->(∀b∈S.B,b<wr.heap.size)->Au S sp λvs=>J4 vs wr)/\
       Hu sp.ks λvs=>∀w1,(∀b∈S.B,b<w1.heap.size)->J4 vs w1->zem C sps b (Yf S.cB sp vs) w1 λe S' w'=>match e with
       |.normal=>∀wr,Q0 S'.bs w' wr->(∀b∈S'.B,b<wr.heap.size)->Au S' sp λvs'=>J4 vs' wr/\μ vs' wr<μ vs w1
       |e=>K e { S' with lk:=S.lk } w'
    else False
 |_,_,_,_=>False
structure Mh (C:VR) (S:St) (w:Wo) (ds:List Nat) (a:Act) (S':St) (w':Wo) (a':Act) (aB:Wo):Prop where
 fit:TW C.n S' a'
 rel:Zh S' w' aB
 wf:Kh S'
 fr:Ps S S'
 fra:Gd ds a a'
 pm:C.pm->w'=w/\S'.old=S.old
def Mh.refl{C:VR}{S:St}{w wr:Wo}{a:Act}(ds:List Nat)(h1:TW C.n S a)(h2:Zh S w wr)(h3:Kh S):Mh C S w ds a S w a wr:=⟨h1,h2,h3,Ps.refl S,Gd.refl _ _,λ_=>⟨rfl,rfl⟩⟩
def Mh.trans{C:VR}{S S1 S2:St}{w w1 w2 Ra Rg:Wo}{ds es fs:List Nat}{a a1 a2:Act}(h:Mh C S w ds a S1 w1 a1 Ra)(k:Mh C S1 w1 es a1 S2 w2 a2 Rg)(hd:∀x∈ds,x∈fs)(he:∀x∈es,x∈fs):Mh C S w fs a S2 w2 a2 Rg:=
 ⟨k.fit,k.rel,k.wf,h.fr.trans k.fr,(h.fra.mono hd).trans (k.fra.mono he),λhp=>⟨(k.pm hp).1.trans (h.pm hp).1,(k.pm hp).2.trans (h.pm hp).2⟩⟩
def Mh.mono{C:VR}{S S1:St}{w w1 Ra:Wo}{ds fs:List Nat}{a a1:Act}(h:Mh C S w ds a S1 w1 a1 Ra)(hd:∀x∈ds,x∈fs):Mh C S w fs a S1 w1 a1 Ra:=
 ⟨h.fit,h.rel,h.wf,h.fr,h.fra.mono hd,h.pm⟩
def zgb{C:VR}(E:zns C){id:Nat}{ops:Array Oper}{d:Bool}{S:St}{w wr:Wo}{a:Act}{K:St->Wo->Prop}{Q:Exit->Act->Wo->Prop}(h:zoo C ops d S w K)(hf:TW C.n S a)(hw:Zh S w wr)(WZ:Kh S)(hQ:∀S' w' a' aB,K S' w'->Mh C S w (Ko ops.toList) a S' w' a' aB->Q .normal a' aB):(Code.region id ops d).wpIn (GB C.rd) 0 C.P Q a wr:=by
 unfold zoo at h
 cases hu:Du ops with
 |false=>rw[hu] at h;exact h.elim
 |true=>
  rw[hu] at h;simp only[cond_true] at h;have tH:∀{S1:St} {w1 Ra:Wo},Zh S1 w1 Ra->Zh { S1 with r:=S1.r+1 } w1 Ra:=λh=>⟨h.ext,h.loc,h.len,h.nF,h.fresh⟩
  have CN3:Kh { S with r:=S.r+1 }:=⟨WZ.old,WZ.lk⟩
  cases d with
  |false=>
   simp only[cond_false] at h;refine wpIn_region_list ?_
   refine Fi E hu (S0:={ S with r:=S.r+1 }) (w0:=w) (a0:=a) (ds:=Ko ops.toList) (λx hx=>hx) (λS' w' a' aB hK hf' hw' Ay4 pZ hr' B68 B84=>?_) ops.toList 0 _ w wr a (λj=>by simp) Qs h
    (hf.enter ops _) (tH hw) CN3 (Ps.refl _) rfl (Gd.refl _ _) (λ_=>⟨rfl,rfl⟩)
   exact hQ _ _ _ _ hK ⟨hf'.leave,tH hw',⟨Ay4.old,Ay4.lk⟩,⟨pZ.B,pZ.ty,pZ.lk⟩,B68,B84⟩
  |true=>
   simp only[cond_true] at h
   cases hs:Region.noSelect ops with
   |false=>rw[hs] at h;exact h.elim
   |true=>
    rw[hs] at h;simp only[cond_true] at h
    have hp:=Oi E hu hs (S0:={ S with r:=S.r+1 }) (w0:=w) (a0:=a) (ds:=Ko ops.toList) (λx hx=>hx) ops.size (Array.replicate ops.size false) [] [] _ w a h
     (λj o _ hl=>by
      rcases Nat.lt_or_ge j ops.size with h'|h'
      ·simp[h'] at hl
      ·rename_i ho;rw[Array.getElem?_eq_none h'] at ho;cases ho)
     (hf.enter ops _) CN3 (Ps.refl _) rfl (Gd.refl _ _) (λ_=>⟨rfl,rfl⟩) (λp hp=>by cases hp)
    refine wpIn_region_any E.mixed (MJ (λa' R w' hPQ hR=>?_) ops.size _ [] a (Zh { S with r:=S.r+1 } w) { wr with drawn:=wr.drawn+1 } ?_ hp)
    ·obtain⟨S',w1,hK,hf',Ay4,pZ,hr',B68,B84,rfl⟩:=hPQ;exact hQ _ _ _ _ hK ⟨hf',tH hR,⟨Ay4.old,Ay4.lk⟩,⟨pZ.B,pZ.ty,pZ.lk⟩,B68,B84⟩
    ·exact⟨hw.ext.drawn _,hw.loc,hw.len,hw.nF,hw.fresh⟩
def Ex{F:PT SV}:∀{l:List Nat} {i:Nat} {sv:SV},(∀x∈l,x<4000)->(zci F l).get i=some sv->i∈l/\F.get i=some sv/\∃e,sv=.un e
 |[],i,sv,_,h=>by simp[zci,PT.get] at h
 |k::r,i,sv,hl,h=>by
  have hr:∀x∈r,x<4000:=λx hx=>hl x (I3 _ hx)
  simp only[zci] at h
  split at h
  ·rename_i e he;rw[PT.mS _ 12 _ _ _ (by have h1:=hl k (Ib ..);show @LT.lt Nat _ (k+1) (2 ^ 12);omega)] at h
   by_cases hk:k=i
   ·subst hk;rw[H' rfl] at h;simp only[I2] at h;subst h;exact⟨Ib ..,he,e,rfl⟩
   ·rw[E' hk] at h;obtain⟨h1,h2,h3⟩:=Ex hr h;exact⟨I3 _ h1,h2,h3⟩
  ·obtain⟨h1,h2,h3⟩:=Ex hr h;exact⟨I3 _ h1,h2,h3⟩
def zc6{F:PT SV}:∀{tE:List (Nat×CK)} {vs:List Va} {i:Nat} {sv:SV},(∀p∈tE,p.1<4000)->(zlg F tE vs).get i=some sv->
  (∃(j:Nat) (k:CK) (v:Va),tE[j]? = some (i,k)/\vs[j]? = some v/\sv=.un (.v v))\/F.get i=some sv
 |[],vs,i,sv,_,h=>.inr h
 |(a,k)::r,[],i,sv,_,h=>.inr h
 |(a,k)::r,v::vs,i,sv,hl,h=>by
  have hr:∀p∈r,p.1<4000:=λx hx=>hl x (I3 _ hx)
  simp only[zlg] at h;rw[PT.mS _ 12 _ _ _ (by have h1:=hl (a,k) (Ib ..);show @LT.lt Nat _ (a+1) (2 ^ 12);simp only at h1;omega)] at h
  by_cases hk:a=i
  ·subst hk;rw[H' rfl] at h;simp only[I2] at h;exact .inl ⟨0,k,v,rfl,rfl,h.symm⟩
  ·rw[E' hk] at h;rcases zc6 hr h with ⟨j,k',v',h1,h2,h3⟩|h1
   ·exact .inl ⟨j+1,k',v',by simpa using h1,by simpa using h2,h3⟩
   ·exact .inr h1
def U3{S:St}:∀{tE:List (Nat×CK)} {xs:List Va},KY S tE=some xs->xs.length=tE.length/\∀(j i:Nat) (k:CK) (v:Va),tE[j]? = some (i,k)->xs[j]? = some v->∃e,S.F.get i=some (.un e)/\zts S e=some v
 |[],xs,h=>by simp only[KY,I2] at h;subst h;exact⟨rfl,λj i k v hj=>by simp at hj⟩
 |(a,k)::r,xs,h=>by
  simp only[KY] at h
  split at h
  ·rename_i e he
   split at h
   ·rename_i x l hx hl;simp only[I2] at h;subst h;obtain⟨h1,h2⟩:=U3 hl;refine⟨by simp[h1],λj i k' v hj hv=>?_⟩
    cases j with
    |zero=>
     simp only[Ih,I2,Prod.mk.injEq] at hj hv;obtain⟨rfl,rfl⟩:=hj;subst hv;exact⟨e,he,hx⟩
    |succ j=>exact h2 j i k' v (by simpa using hj) (by simpa using hv)
   ·cases h
  ·cases h
def Fp:∀{l:List Nat},C5 l->l.Nodup
 |[],_=>List.nodup_nil
 |x::r,h=>by
  simp only[C5,A',ID] at h;exact List.nodup_cons.2 ⟨M2 h.1,Fp h.2⟩
def Ma{S':St}:∀{Wz:List (Nat×List CK)} {L:List (TypeId×List Va)} {ys:List Va},(Wz.map (·.1)).Nodup->Md S' Wz=some ys->(∀(id:Nat) (t:TypeId) (cs:List Va),L[id]? = some (t,cs)->∃mI,S'.L[id]? = some (t,mI))->
  (Um L Wz ys).length=L.length/\
  (∀(id:Nat),id∉Wz.map (·.1)->(Um L Wz ys)[id]? = L[id]?)/\
  (∀(id:Nat) (t:TypeId) (cs:List Va),id∈Wz.map (·.1)->(Um L Wz ys)[id]? = some (t,cs)->S'.L[id]? = some (t,cs))
 |[],L,ys,_,_,_=>⟨rfl,λ_ _=>rfl,λid t cs h=>by cases h⟩
 |(a,ks)::r,L,ys,hnd,hv,hty=>by
  have Bu2:=List.nodup_cons.1 (by simpa using hnd:(a::r.map (·.1)).Nodup);simp only[Md] at hv
  split at hv
  ·rename_i t' mI l ha hl
   cases hb:Nat.beq mI.length ks.length with
   |false=>rw[hb] at hv;cases hv
   |true=>
    rw[hb] at hv;simp only[cond_true,I2] at hv;subst hv;have hlen:mI.length=ks.length:=Ie hb;have ht:(mI++l).take ks.length=mI:=by rw[<-hlen];exact List.take_left
    have hdr:(mI++l).drop ks.length=l:=by rw[<-hlen];exact List.drop_left
    simp only[Um]
    cases hLa:L[a]? with
    |none=>
     simp only[hdr];obtain⟨h1,h2,h3⟩:=Ma (L:=L) Bu2.2 hl hty;refine⟨h1,λid bG=>h2 id (λh=>bG (I3 _ h)),λid t cs bG hc=>?_⟩;rcases Ik.1 bG with rfl|bG
     ·rw[h2 _ Bu2.1] at hc;rw[hLa] at hc;cases hc
     ·exact h3 id t cs bG hc
    |some q=>
     obtain⟨t0,c0⟩:=q;simp only[ht,hdr];have IX:a<L.length:=(Ia.1 hLa).1;obtain⟨cs1,gZ⟩:=hty a t0 c0 hLa;rw[ha] at gZ;simp only[I2,Prod.mk.injEq] at gZ;obtain⟨rfl,rfl⟩:=gZ
     obtain⟨h1,h2,h3⟩:=Ma (L:=L.set a (t',mI)) Bu2.2 hl (λid t cs hc=>by
      by_cases he:a=id
      ·subst he;rw[List.getElem?_set_self IX] at hc;cases hc;exact⟨_,ha⟩
      ·rw[List.getElem?_set_ne he] at hc;exact hty id t cs hc)
     refine⟨by rw[h1];simp,λid bG=>?_,λid t cs bG hc=>?_⟩
     ·rw[h2 id (λh=>bG (I3 _ h))];exact List.getElem?_set_ne (λe=>bG (by subst e;exact Ib ..))
     ·rcases Ik.1 bG with rfl|bG
      ·rw[h2 _ Bu2.1] at hc;rw[List.getElem?_set_self IX] at hc;cases hc;exact ha
      ·exact h3 id t cs bG hc
  ·cases hv
structure Ha (S:St) (sp:X9) (ds:List Nat):Prop where
 A36:∀i∈sp.A36,i∉ds/\i<4000
 tE:∀p∈sp.tE,p.1<4000
 nd:(sp.Wz.map (·.1)).Nodup
 Wz:∀id∈sp.Wz.map (·.1),id∉S.lk
def CF{S:St}{sp:X9}{ds:List Nat}(h:znd S sp ds):Ha S sp ds:=by
 simp only[znd,A',List.all_eq_true,ID] at h;obtain⟨⟨⟨⟨h1,h2⟩,_⟩,h4⟩,h5⟩:=h;refine⟨λi hi=>⟨M2 (h1 i hi).1,Im (h1 i hi).2⟩,λp hp=>Im (h2 p hp).1,Fp h4,λid bG=>?_⟩;obtain⟨p,hp,rfl⟩:=List.mem_map.1 bG;have:=h5 p hp
 split at this
 ·simp only[A',ID] at this;exact M2 this.2
 ·cases this
def Ow{S:St}{sp:X9}{id:Nat}:id∈G7 S sp↔id<S.L.length/\id∉sp.Wz.map (·.1):=by
 unfold G7;simp only[List.mem_filter,List.mem_range,ID];refine and_congr_right λ_=>?_
 constructor
 ·exact M2
 ·intro h;rw[Bool.eq_false_iff];intro hb;simp only[PG,List.any_eq_true] at hb;obtain⟨y,hy,he⟩:=hb;exact h (Ie he▸hy)
def Ar{n:Nat}{S S':St}{sp:X9}{ds:List Nat}(hs:Ha S sp ds){a a':Act}(hf:TW n S a)(hf':TW n S' a')(hfa:Gd ds a a'){xs ys:List Va}(hx:KY S' sp.tE=some xs):TW n (Yf S sp (xs++ys)) a':=by
 obtain⟨hxl,hxg⟩:=U3 hx;have htk:(xs++ys).take sp.tE.length=xs:=by rw[<-hxl];exact List.take_left
 have Ax9:∀i sv,(Yf S sp (xs++ys)).F.get i=some sv->(∃(j:Nat) (k:CK) (v:Va),sp.tE[j]? = some (i,k)/\xs[j]? = some v/\sv=.un (.v v))\/(i∈sp.A36/\S.F.get i=some sv/\∃e,sv=.un e):=λi sv h=>by
  simp only[Yf,htk] at h;rcases zc6 (λp hp=>hs.tE p hp) h with h1|h1
  ·exact .inl h1
  ·exact .inr (Ex (λx hx=>(hs.A36 x hx).2) h1)
 refine⟨hf'.size,λi x h=>?_,λi r pc x h=>?_⟩
 ·rcases Ax9 i _ h with ⟨j,k,v,h1,h2,h3⟩|⟨h1,h2,_⟩
  ·obtain⟨e,he,hv⟩:=hxg j i k v h1 h2;have:=zdx hv (hf'.fits i e he);cases h3;exact this
  ·have h3:=hf.fits i x h2;rw[<-hfa.2.2 i (hs.A36 i h1).1] at h3;exact EV.gF (S:=S) (λ_ _ h=>h) h3
 ·rcases Ax9 i _ h with ⟨j,k,v,h1,h2,h3⟩|⟨h1,h2,e,h3⟩ <;> cases h3
def zde{l m:List Nat}{k:Nat}(hk:k<=l.length)(h:∀(i b:Nat),l[i]? = some b->m[i]? = some b):m.take k=l.take k:=by
 apply List.ext_getElem?
 intro i;rw[List.getElem?_take,List.getElem?_take]
 by_cases hi:i<k
 ·rw[H' hi,H' hi];have hl:i<l.length:=Nat.lt_of_lt_of_le hi hk;rw[h i l[i] (Io hl),Io hl]
 ·rw[E' hi,E' hi]
def As{S S':St}{sp:X9}{w w' wr aB:Wo}{ds:List Nat}(hs:Ha S sp ds)(hw:Zh S w wr)(hw':Zh S' w' aB)(hB:∀(id b:Nat),S.B[id]? = some b->S'.B[id]? = some b)(hty:∀(id:Nat) (t:TypeId) (cs:List Va),S.L[id]? = some (t,cs)->∃mI,S'.L[id]? = some (t,mI))(hlk:∀id,id<S.L.length->id∉sp.Wz.map (·.1)->S'.L[id]? = S.L[id]?){xs ys:List Va}(hxl:xs.length=sp.tE.length)(hy:Md S' sp.Wz=some ys) :
  (Yf S sp (xs++ys)).L.length=S.L.length/\∀(id:Nat) (t:TypeId) (cs:List Va),(Yf S sp (xs++ys)).L[id]? = some (t,cs)->∃b,S.B[id]? = some b/\aB.heap[b]? = some (Obj.cells cs.toArray t (0,0)):=by
 have hdr:(xs++ys).drop sp.tE.length=ys:=by rw[<-hxl];exact List.drop_left
 obtain⟨h1,h2,h3⟩:=Ma (L:=S.L) hs.nd hy hty;have hL:(Yf S sp (xs++ys)).L=Um S.L sp.Wz ys:=by simp only[Yf,hdr]
 rw[hL];refine⟨h1,λid t cs hc=>?_⟩;have bG:id<S.L.length:=by rw[<-h1];exact(Ia.1 hc).1
 have hb:S.B[id]? = some (S.B[id]'(by rw[<-hw.len];exact bG)):=Io _
 have hS':S'.L[id]? = some (t,cs):=by
  by_cases hm:id∈sp.Wz.map (·.1)
  ·exact h3 id t cs hm hc
  ·rw[h2 id hm] at hc;rw[hlk id bG hm];exact hc
 obtain⟨b',gW,hh⟩:=hw'.loc id t cs hS';rw[hB _ _ hb] at gW;cases gW;exact⟨_,hb,hh⟩
def PS{S:St}{sp:X9}{K:List Va->Prop}(h:Au S sp K):∃xs ys,KY S sp.tE=some xs/\Md S sp.Wz=some ys/\Jv sp.ks (xs++ys)/\K (xs++ys):=by
 unfold Au at h
 split at h
 ·rename_i xs ys hx hy
  cases hk:Jv sp.ks (xs++ys) with
  |false=>rw[hk] at h;exact h.elim
  |true=>rw[hk] at h;exact⟨xs,ys,hx,hy,hk,h⟩
 ·exact h.elim
def zgo{S S':St}{sp:X9}{ds:List Nat}(hs:Ha S sp ds)(WZ:Kh S){vs:List Va}(hL:(Yf S sp vs).L.length=S.L.length)(hLt:∀(id:Nat) (t:TypeId) (cs:List Va),S.L[id]? = some (t,cs)->∃mI,(Yf S sp vs).L[id]? = some (t,mI))(hLk:∀id,id∉sp.Wz.map (·.1)->(Yf S sp vs).L[id]? = S.L[id]?)(yR:Ps (Yf S sp vs) S'):Ps S { S' with lk:=S.lk }/\(∀id,id<S.L.length->id∉sp.Wz.map (·.1)->S'.L[id]? = S.L[id]?):=by
 have h2:∀id,id<S.L.length->id∉sp.Wz.map (·.1)->S'.L[id]? = S.L[id]? := λid bG hm=>by
  have:=yR.lk id (Ow.2 ⟨bG,hm⟩);rw[this.2,hLk id hm]
 refine⟨⟨λid b hb=>yR.B id b hb,λid t cs hc=>?_,λid bG=>⟨bG,h2 id (WZ.lk id bG) (λhm=>hs.Wz id hm bG)⟩⟩,h2⟩;obtain⟨cs1,h1⟩:=hLt id t cs hc;exact yR.ty id t cs1 h1
def zcq{S:St}:∀{l:List (TypeId×List CK)} {n:Nat} {zs:List Va},zcp S n l=some zs->(KH l zs).length=l.length/\(∀j,j<l.length->n+j<S.L.length)/\∀j,(KH l zs)[j]? = if j<l.length then S.L[n+j]? else none
 |[],n,zs,h=>⟨rfl,λj hj=>It hj (Nat.not_lt_zero j),λj=>by simp[KH]⟩
 |(t,ks)::r,n,zs,h=>by
  simp only[zcp] at h
  split at h
  ·rename_i t' cs l hL hl
   cases hb:Nat.beq t' t&&Nat.beq cs.length ks.length with
   |false=>rw[hb] at h;cases h
   |true=>
    rw[hb] at h;simp only[cond_true,I2] at h;subst h;simp only[A'] at hb;have h1:=Ie hb.1;have h2:=Ie hb.2;subst h1;obtain⟨g1,g2,g3⟩:=zcq hl;have ht:(cs++l).take ks.length=cs:=by rw[<-h2];exact List.take_left
    have hdr:(cs++l).drop ks.length=l:=by rw[<-h2];exact List.drop_left
    simp only[KH,ht,hdr];refine⟨by simp[g1],λj hj=>?_,λj=>?_⟩
    ·cases j with
     |zero=>exact(Ia.1 hL).1
     |succ j=>have:=g2 j (by simpa using hj);omega
    ·cases j with
     |zero=>simp[hL]
     |succ j=>
      have:=g3 j;simp only[List.getElem?_cons_succ,List.length_cons];rw[this];have e:n+1+j=n+(j+1):=Qo;rw[e]
      by_cases hj:j<r.length
      ·rw[H' hj,H' Qo]
      ·rw[E' hj,E' Qo]
  ·cases h
def zje{S:St}{n k:Nat}{l:List (Nat×Nat)}(h:zcy S n k l):∀p∈l,p.1<4000/\p.2<k/\S.F.get p.1=some (.un (.loc (n+p.2) 0)):=λp hp=>by
 simp only[zcy,List.all_eq_true,A'] at h;obtain⟨⟨h1,h2⟩,h3⟩:=h p hp;refine⟨Im h1,Im h2,?_⟩
 split at h3
 ·rename_i id bG;rw[bG,Ie h3]
 ·cases h3
def EY{F:PT SV}{n:Nat}:∀{l:List (Nat×Nat)} {i:Nat} {sv:SV},(∀p∈l,p.1<4000)->(zlf F n l).get i=some sv->(∃j,(i,j)∈l/\sv=.un (.loc (n+j) 0))\/F.get i=some sv
 |[],i,sv,_,h=>.inr h
 |(a,j)::r,i,sv,hl,h=>by
  have hr:∀p∈r,p.1<4000:=λx hx=>hl x (I3 _ hx)
  simp only[zlf] at h;rw[PT.mS _ 12 _ _ _ (by have h1:=hl (a,j) (Ib ..);show @LT.lt Nat _ (a+1) (2 ^ 12);simp only at h1;omega)] at h
  by_cases hk:a=i
  ·subst hk;rw[H' rfl] at h;simp only[I2] at h;exact .inl ⟨j,Ib ..,h.symm⟩
  ·rw[E' hk] at h;rcases EY hr h with ⟨q,h1,h2⟩|h1
   ·exact .inl ⟨q,I3 _ h1,h2⟩
   ·exact .inr h1
def zch{S S':St}{sp:X9}{K:List Va->List Nat->Prop}(h:zks S S' sp K):∃xs ys zs,KY S' sp.tE=some xs/\Md S' sp.Wz=some ys/\zcp S' S.L.length sp.aV=some zs/\Jv sp.ks (xs++ys)/\Jv sp.nks zs/\zcy S' S.L.length sp.aV.length sp.ptr/\
  K (xs++ys++zs) ((S'.B.drop S.B.length).take sp.aV.length):=by
 unfold zks at h
 split at h
 ·rename_i zs hz
  cases hb:Jv sp.nks zs&&zcy S' S.L.length sp.aV.length sp.ptr with
  |false=>rw[hb] at h;exact h.elim
  |true=>
   rw[hb] at h;simp only[cond_true] at h;simp only[A'] at hb;obtain⟨xs,ys,h1,h2,h3,h4⟩:=PS h;exact⟨xs,ys,zs,h1,h2,hz,h3,hb.1,hb.2,h4⟩
 ·exact h.elim
def zm5{l m:List Nat}(h:∀(i b:Nat),l[i]? = some b->m[i]? = some b):m.take l.length=l:=by
 have:=zde (I9 l.length) h;rw[this,List.take_length]
def zkt{n:Nat}{S S':St}{sp:X9}{w w' wr aB:Wo}{ds:List Nat}{a a':Act}(hs:Ha S sp ds)(hf:TW n S a)(hw:Zh S w wr)(WZ:Kh S)(hf':TW n S' a')(hw':Zh S' w' aB)(hfa:Gd ds a a')(yR:Ps { S with lk:=G7 S sp } S'){xs ys zs:List Va}(hx:KY S' sp.tE=some xs)(hy:Md S' sp.Wz=some ys)(hz:zcp S' S.L.length sp.aV=some zs)(hp:zcy S' S.L.length sp.aV.length sp.ptr) :
  ((S'.B.drop S.B.length).take sp.aV.length).length=sp.aV.length/\(∀b∈S.B++(S'.B.drop S.B.length).take sp.aV.length,b∈S'.B)/\
  TW n (LY S sp (xs++ys) zs ((S'.B.drop S.B.length).take sp.aV.length)) a'/\Kh (LY S sp (xs++ys) zs ((S'.B.drop S.B.length).take sp.aV.length))/\Ps S (LY S sp (xs++ys) zs ((S'.B.drop S.B.length).take sp.aV.length))/\
  Zh (LY S sp (xs++ys) zs ((S'.B.drop S.B.length).take sp.aV.length)).cB aB aB/\(w'=w->S'.old=S.old->Zh (LY S sp (xs++ys) zs ((S'.B.drop S.B.length).take sp.aV.length)) w aB):=by
 obtain⟨n1,n2,n3⟩:=zcq hz;have hB:∀(id b:Nat),S.B[id]? = some b->S'.B[id]? = some b:=yR.B;have CL9:=zm5 hB;have CK7:=hw.len;have Cj5:=hw'.len
 have hk:S.B.length+sp.aV.length<=S'.B.length:=by
  rcases Nat.eq_zero_or_pos sp.aV.length with h0|h0
  ·have:S.B.length<=S'.B.length:=by
    have:=congrArg List.length CL9;rw[List.length_take] at this;omega
   omega
  ·have:=n2 (sp.aV.length-1) Qo;omega
 have hbl:((S'.B.drop S.B.length).take sp.aV.length).length=sp.aV.length:=by rw[List.length_take,List.length_drop];omega
 have hGB:S.B++(S'.B.drop S.B.length).take sp.aV.length=S'.B.take (S.B.length+sp.aV.length):=by
  rw[List.take_add,CL9]
 have A25:∀(id b:Nat),id<S.B.length+sp.aV.length->S'.B[id]? = some b->(S.B++(S'.B.drop S.B.length).take sp.aV.length)[id]? = some b:=λid b bG hb=>by
  rw[hGB,List.getElem?_take,H' bG];exact hb
 have B51:∀(id b:Nat),(S.B++(S'.B.drop S.B.length).take sp.aV.length)[id]? = some b->S'.B[id]? = some b:=λid b hb=>by
  rw[hGB,List.getElem?_take] at hb
  split at hb
  ·exact hb
  ·cases hb
 obtain⟨t1,t2⟩:=Ma (L:=S.L) hs.nd hy yR.ty;have hlk:∀id,id<S.L.length->id∉sp.Wz.map (·.1)->S'.L[id]? = S.L[id]? := λid bG hm=>(yR.lk id (Ow.2 ⟨bG,hm⟩)).2
 have hxl:=(U3 hx).1;obtain⟨g1,g2⟩:=As hs hw hw' hB yR.ty hlk hxl hy;have hhf:=Ar (ys:=ys) hs hf hf' hfa hx;have hdr:(xs++ys).drop sp.tE.length=ys:=by rw[<-hxl];exact List.drop_left
 have hL:(Yf S sp (xs++ys)).L=Um S.L sp.Wz ys:=by simp only[Yf,hdr]
 have hpp:=zje hp
 have B70:TW n (LY S sp (xs++ys) zs ((S'.B.drop S.B.length).take sp.aV.length)) a':=by
  have CL2:∀(id b:Nat),(Yf S sp (xs++ys)).B[id]? = some b->(LY S sp (xs++ys) zs ((S'.B.drop S.B.length).take sp.aV.length)).B[id]? = some b:=λid b hb=>by
   have gW:S.B[id]? = some b:=hb;exact A25 id b (by have:=(Ia.1 gW).1;omega) (hB id b gW)
  refine⟨hhf.size,λi x h=>?_,λi r pc x h=>?_⟩
  ·rcases EY (λp hp=>(hpp p hp).1) h with ⟨j,h1,h2⟩|h1
   ·obtain⟨_,hj,hF⟩:=hpp (i,j) h1;have hd:=hf'.fits i _ hF;cases h2;obtain⟨b,hb,hv⟩:=hd;exact⟨b,A25 _ _ (by simp only at hj;omega) hb,hv⟩
   ·exact EV.gF (S:=Yf S sp (xs++ys)) CL2 (hhf.fits i x h1)
  ·rcases EY (λp hp=>(hpp p hp).1) h with ⟨j,h1,h2⟩|h1
   ·cases h2
   ·exact hhf.old i r pc x h1
 have nI:∀(id:Nat) (t:TypeId) (cs:List Va),((Yf S sp (xs++ys)).L++KH sp.aV zs)[id]? = some (t,cs)->∃b,(S.B++(S'.B.drop S.B.length).take sp.aV.length)[id]? = some b/\aB.heap[b]? = some (Obj.cells cs.toArray t (0,0)):=λid t cs hc=>by
  by_cases bG:id<S.L.length
  ·rw[Ir (by rw[g1];exact bG)] at hc;obtain⟨b,h1,h2⟩:=g2 id t cs hc;exact⟨b,A25 id b Qo (hB id b h1),h2⟩
  ·rw[List.getElem?_append_right (by rw[g1];omega),g1,n3] at hc
   split at hc
   ·rename_i IX;have e:S.L.length+(id-S.L.length)=id:=Qo;rw[e] at hc;obtain⟨b,h1,h2⟩:=hw'.loc id t cs hc;exact⟨b,A25 id b Qo h1,h2⟩
   ·cases hc
 have hlen:((Yf S sp (xs++ys)).L++KH sp.aV zs).length=(S.B++(S'.B.drop S.B.length).take sp.aV.length).length:=by
  rw[Iq,Iq,g1,n1,hbl,CK7]
 have hnd:(S.B++(S'.B.drop S.B.length).take sp.aV.length).Nodup:=by
  rw[hGB];exact hw'.nF.sublist (List.take_sublist _ _)
 refine⟨hbl,λb hb=>by rw[hGB] at hb;exact List.mem_of_mem_take hb,B70,⟨?_,λid bG=>?_⟩,⟨λid b hb=>?_,λid t cs hc=>?_,λid bG=>⟨bG,?_⟩⟩,⟨?_,nI,hlen,hnd,λid b bG hb=>?_⟩,λe1 e2=>⟨?_,nI,hlen,hnd,λid b bG hb=>?_⟩⟩
 ·show S.old<=(S.B++(S'.B.drop S.B.length).take sp.aV.length).length;have:=WZ.old;rw[Iq];omega
 ·show id<((Yf S sp (xs++ys)).L++KH sp.aV zs).length;have:=WZ.lk id bG;rw[Iq,g1];omega
 ·exact A25 id b (by have:=(Ia.1 hb).1;omega) (hB id b hb)
 ·have bG:id<S.L.length:=(Ia.1 hc).1;obtain⟨u1,u2⟩:(∀(id:Nat) (t:TypeId) (cs:List Va),id∈sp.Wz.map (·.1)->(Um S.L sp.Wz ys)[id]? = some (t,cs)->S'.L[id]? = some (t,cs))/\True:=⟨t2.2,trivial⟩;have IX:id<(Um S.L sp.Wz ys).length:=by rw[t1];exact bG
  have hg:(Um S.L sp.Wz ys)[id]? = some (((Um S.L sp.Wz ys)[id]).1,((Um S.L sp.Wz ys)[id]).2):=Io IX;show ∃mI,((Yf S sp (xs++ys)).L++KH sp.aV zs)[id]? = some (t,mI);rw[Ir (by rw[g1];exact bG),hL]
  by_cases hm:id∈sp.Wz.map (·.1)
  ·have h4:=u1 id _ _ hm hg;obtain⟨mI,h5⟩:=yR.ty id t cs hc;rw[h5] at h4;simp only[I2,Prod.mk.injEq] at h4;exact⟨((Um S.L sp.Wz ys)[id]).2,by rw[hg,<-h4.1]⟩
  ·exact⟨cs,by rw[t2.1 id hm];exact hc⟩
 ·have IX:=WZ.lk id bG;show ((Yf S sp (xs++ys)).L++KH sp.aV zs)[id]? = S.L[id]?;rw[Ir (by rw[g1];exact IX),hL,t2.1 id λhm=>hs.Wz id hm bG]
 ·exact Q0.refl _ _
 ·have h1:id<(S.B++(S'.B.drop S.B.length).take sp.aV.length).length:=(Ia.1 hb).1;have h2:(S.B++(S'.B.drop S.B.length).take sp.aV.length).length<=id:=bG;omega
 ·have hbs:(LY S sp (xs++ys) zs ((S'.B.drop S.B.length).take sp.aV.length)).bs=S'.bs:=by
   show (S.B++(S'.B.drop S.B.length).take sp.aV.length).take S.old=S'.B.take S'.old;rw[e2];have h1:=WZ.old;rw[hGB,List.take_take,Nat.min_eq_left Qo]
  rw[hbs,<-e1];exact hw'.ext
 ·have h1:S'.B[id]? = some b:=B51 id b hb;have:=hw'.fresh id b (by rw[e2];exact bG) h1;rw[e1] at this;exact this
structure zrd (C:VR) (S:St) (w:Wo) (ds:List Nat) (a:Act) (sp:X9) (vs:List Va) (w1:Wo) (a':Act) (aB:Wo):Prop where
 fit:TW C.n (Yf S sp vs) a'
 rel:Zh (Yf S sp vs) w1 aB
 wf:Kh (Yf S sp vs)
 fra:Gd ds a a'
def At{S S':St}{sp:X9}(hnd:(sp.Wz.map (·.1)).Nodup)(hty:∀(id:Nat) (t:TypeId) (cs:List Va),S.L[id]? = some (t,cs)->∃mI,S'.L[id]? = some (t,mI)){xs ys:List Va}(hxl:xs.length=sp.tE.length)(hy:Md S' sp.Wz=some ys) :
  (∀(id:Nat) (t:TypeId) (cs:List Va),S.L[id]? = some (t,cs)->∃mI,(Yf S sp (xs++ys)).L[id]? = some (t,mI))/\(∀id,id∉sp.Wz.map (·.1)->(Yf S sp (xs++ys)).L[id]? = S.L[id]?):=by
 have hdr:(xs++ys).drop sp.tE.length=ys:=by rw[<-hxl];exact List.drop_left
 obtain⟨h1,h2,h3⟩:=Ma (L:=S.L) hnd hy hty;have hL:(Yf S sp (xs++ys)).L=Um S.L sp.Wz ys:=by simp only[Yf,hdr]
 rw[hL];refine⟨λid t cs hc=>?_,h2⟩;have bG:id<(Um S.L sp.Wz ys).length:=by rw[h1];exact(Ia.1 hc).1
 by_cases hm:id∈sp.Wz.map (·.1)
 ·have hg:(Um S.L sp.Wz ys)[id]? = some (((Um S.L sp.Wz ys)[id]).1,((Um S.L sp.Wz ys)[id]).2):=Io bG;have h4:=h3 id _ _ hm hg;obtain⟨mI,h5⟩:=hty id t cs hc;rw[h5] at h4;simp only[I2,Prod.mk.injEq] at h4;exact⟨((Um S.L sp.Wz ys)[id]).2,by rw[hg,<-h4.1]⟩
 ·exact⟨cs,by rw[h2 id hm];exact hc⟩
def C6{n:Nat}{S:St}{a:Act}(hf:TW n S a){x:Operand}{e:EV}(hb:CS S [] x=some e):EV.den S e (a.eval x):=by
 have:=ZP (ops:=#[]) (hf.enter #[] (λ_=>False)).fit (pc:=[]) (λp hp=>by cases hp) (S:={ S with r:=S.r+1 }) (x:=x) (e:=e) (by
  cases x with
  |tmp t=>
   simp only[CS] at hb ⊢
   split at hb
   ·exact hb
   ·rename_i r tL y hg
    cases cA:Nat.beq r S.r&&Cs tL [] with
    |false=>rw[cA] at hb;cases hb
    |true=>
     simp only[A'] at cA;have:=Ie cA.1;have h2:=hf.old t r tL y hg;omega
   ·cases hb
  |const v=>exact hb
  |global g=>exact hb
  |func f=>exact hb)
 exact EV.gF (S:={ S with r:=S.r+1 }) (λ_ _ h=>h) this
def zfk(S:St)(c:Operand)(x:Bool):(rF S c x).L=S.L/\(rF S c x).B=S.B/\(rF S c x).old=S.old/\(rF S c x).lk=S.lk/\(rF S c x).r=S.r:=by
 unfold rF;split
 ·cases Nat.blt _ 4000 <;> exact⟨rfl,rfl,rfl,rfl,rfl⟩
 ·exact⟨rfl,rfl,rfl,rfl,rfl⟩
def TW.rF{n:Nat}{S:St}{a:Act}(hf:TW n S a){c:Operand}{x:Bool}(hc:a.eval c=.bool x):TW n (rF S c x) a:=by
 unfold YtjinkcmkgnofjaaGreat.rF;split
 ·rename_i t
  cases hl:Nat.blt t 4000 with
  |false=>exact hf
  |true=>
   have IX:t<4000:=Im hl;have hg:∀i,(PT.set 12 S.F t (.un (.kb x))).get i=if t=i then some (.un (.kb x)) else S.F.get i:=λi=>PT.mS _ 12 S.F t i (by have h1 : @LT.lt Nat _ t 4000:=IX;show @LT.lt Nat _ (t+1) (2 ^ 12);omega)
   refine⟨hf.size,λi y hy=>?_,λi r pc y hy=>?_⟩
   ·have hy:(PT.set 12 S.F t (.un (.kb x))).get i=some (.un y):=hy;rw[hg i] at hy
    by_cases hti:t=i
    ·subst hti;rw[H' rfl] at hy;simp only[I2,SV.un.injEq] at hy;subst hy;exact hc
    ·rw[E' hti] at hy;exact EV.gF (S:=S) (λ_ _ h=>h) (hf.fits i y hy)
   ·have hy:(PT.set 12 S.F t (.un (.kb x))).get i=some (.gd r pc y):=hy;rw[hg i] at hy
    by_cases hti:t=i
    ·rw[H' hti] at hy;cases hy
    ·rw[E' hti] at hy;exact hf.old i r pc y hy
 ·exact hf
def zhp{S:St}{w wr:Wo}{c:Operand}{x:Bool}(h:Zh S w wr):Zh (rF S c x) w wr:=by
 obtain⟨h1,h2,h3,h4,h5⟩:=zfk S c x;refine⟨?_,?_,?_,?_,?_⟩
 ·unfold St.bs;rw[h2,h3];exact h.ext
 ·rw[h1,h2];exact h.loc
 ·rw[h1,h2];exact h.len
 ·rw[h2];exact h.nF
 ·rw[h2,h3];exact h.fresh
def zle{S:St}{c:Operand}{x:Bool}(h:Kh S):Kh (rF S c x):=by
 obtain⟨h1,h2,h3,h4,h5⟩:=zfk S c x;exact⟨by rw[h2,h3];exact h.old,by rw[h1,h4];exact h.lk⟩
def zho{C:VR}{S:St}{w:Wo}{ds:List Nat}{a:Act}{S':St}{w':Wo}{a':Act}{aB:Wo}{c:Operand}{x:Bool}(h:Mh C (rF S c x) w ds a S' w' a' aB):Mh C S w ds a S' w' a' aB:=by
 obtain⟨h1,h2,h3,h4,h5⟩:=zfk S c x;refine⟨h.fit,h.rel,h.wf,⟨?_,?_,?_⟩,h.fra,?_⟩
 ·have:=h.fr.B;rw[h2] at this;exact this
 ·have:=h.fr.ty;rw[h1] at this;exact this
 ·have:=h.fr.lk;rw[h1,h4] at this;exact this
 ·have:=h.pm;rw[h3] at this;exact this
def Yi{C:VR}(E:zns C){sps:List (Nat×X9)}:∀(c:Code) (S:St) (w wr:Wo) (a:Act) (K:Exit->St->Wo->Prop) (Q:Exit->Act->Wo->Prop),zem C sps c S w K->TW C.n S a->Zh S w wr->Kh S->
  (∀e S' w' a' aB,K e S' w'->Mh C S w (Jn c) a S' w' a' aB->Q e a' aB)->c.wpIn (GB C.rd) 0 C.P Q a wr
 |.skip,S,w,wr,a,K,Q,h,hf,hw,WZ,hQ=>wpIn_skip (hQ _ _ _ _ _ h (Mh.refl _ hf hw WZ))
 |.label _,S,w,wr,a,K,Q,h,hf,hw,WZ,hQ=>wpIn_label (hQ _ _ _ _ _ h (Mh.refl _ hf hw WZ))
 |.exit _,S,w,wr,a,K,Q,h,hf,hw,WZ,hQ=>wpIn_exit (hQ _ _ _ _ _ h (Mh.refl _ hf hw WZ))
 |.ret,S,w,wr,a,K,Q,h,hf,hw,WZ,hQ=>wpIn_ret (hQ _ _ _ _ _ h (Mh.refl _ hf hw WZ))
 |.region _ ops d,S,w,wr,a,K,Q,h,hf,hw,WZ,hQ=>zgb E h hf hw WZ λS' w' a' aB hK he=>hQ _ _ _ _ _ hK he
 |.seq x y,S,w,wr,a,K,Q,h,hf,hw,WZ,hQ=>by
  have Bn0:∀z∈Jn x,z∈Jn (.seq x y):=λz hz=>Ic _ hz
  have CA9:∀z∈Jn y,z∈Jn (.seq x y):=λz hz=>Iz _ hz
  simp only[zem] at h
  split at h
  ·refine wpIn_seq (Yi E x S w wr a _ _ h hf hw WZ λe S' w' a' aB hK he=>?_)
   cases e with
   |normal=>exact Yi E y S' w' aB a' _ _ hK he.fit he.rel he.wf λe2 S2 w2 a2 Rg hY bS=>hQ _ _ _ _ _ hY (he.trans bS Bn0 CA9)
   |_=>exact hQ _ _ _ _ _ hK (he.mono Bn0)
  ·rename_i sp _
   cases hok:znd S sp (Jn x) with
   |false=>rw[hok] at h;exact h.elim
   |true=>
    rw[hok] at h;simp only[cond_true] at h;have hs:=CF hok;have hf0:TW C.n { S with lk:=G7 S sp } a:=⟨hf.size,hf.fits,hf.old⟩;have hw0:Zh { S with lk:=G7 S sp } w wr:=⟨hw.ext,hw.loc,hw.len,hw.nF,hw.fresh⟩;have CN2:Kh { S with lk:=G7 S sp }:=⟨WZ.old,λid bG=>(Ow.1 bG).1⟩
    have out:∀{S':St} {w':Wo} {a':Act} {aB:Wo},Mh C { S with lk:=G7 S sp } w (Jn x) a S' w' a' aB->Mh C S w (Jn (.seq x y)) a { S' with lk:=S.lk } w' a' aB:=λ{S' w' a' aB} he=>by
     have f1:Ps S { S' with lk:=S.lk }:=⟨he.fr.B,he.fr.ty,λid bG=>⟨bG,(he.fr.lk id (Ow.2 ⟨WZ.lk id bG,λhm=>hs.Wz id hm bG⟩)).2⟩⟩
     exact⟨⟨he.fit.size,he.fit.fits,he.fit.old⟩,⟨he.rel.ext,he.rel.loc,he.rel.len,he.rel.nF,he.rel.fresh⟩,⟨he.wf.old,λid bG=>by
      obtain⟨mI,hc'⟩:=f1.ty id (S.L[id]'(WZ.lk id bG)).1 (S.L[id]'(WZ.lk id bG)).2 (Io _);exact(Ia.1 hc').1⟩,f1,he.fra.mono Bn0,he.pm⟩
    cases jY:C.pm with
    |true=>
     rw[jY] at h;simp only[cond_true] at h;obtain⟨kK,h1,h2⟩:=h;refine wpIn_seq (Yi E x _ w wr a _ _ h1 hf0 hw0 CN2 λe S' w' a' aB hK he=>?_)
     cases e with
     |normal=>
      obtain⟨xs,ys,zs,g1,g2,g3,g4,g5,g6,g7⟩:=zch hK;obtain⟨j1,j2,j3,j4,j5,j6,j7⟩:=zkt hs hf hw WZ he.fit he.rel he.fra he.fr g1 g2 g3 g6;obtain⟨p1,p2⟩:=he.pm jY;refine Yi E y _ w aB a' _ _ (DX (VU (VU h2 g4) g5) j1 g7) j3 (j7 p1 p2) j4 λe2 S2 w2 a2 Rg hY bS=>hQ _ _ _ _ _ hY ⟨bS.fit,bS.rel,bS.wf,j5.trans bS.fr,(he.fra.mono Bn0).trans (bS.fra.mono CA9),λhp=>bS.pm hp⟩
     |_=>exact hQ _ _ _ _ _ hK (out he)
    |false=>
     rw[jY] at h;simp only[cond_false] at h;obtain⟨kK,h1,h2⟩:=h;refine wpIn_seq (Yi E x _ w wr a _ _ h1 hf0 hw0 CN2 λe S' w' a' aB hK he=>?_)
     cases e with
     |normal=>
      obtain⟨xs,ys,zs,g1,g2,g3,g4,g5,g6,g7⟩:=zch (hK aB he.rel.ext he.rel.lt);obtain⟨j1,j2,j3,j4,j5,j6,j7⟩:=zkt hs hf hw WZ he.fit he.rel he.fra he.fr g1 g2 g3 g6;refine Yi E y _ aB aB a' _ _ (DX (VU (VU h2 g4) g5) j1 aB (λb hb=>he.rel.lt b (j2 b hb)) g7) ⟨j3.size,j3.fits,j3.old⟩ j6 ⟨I9 _,j4.lk⟩ λe2 S2 w2 a2 Rg hY bS=>hQ _ _ _ _ _ hY ⟨bS.fit,bS.rel,bS.wf,j5.trans ⟨bS.fr.B,bS.fr.ty,bS.fr.lk⟩,(he.fra.mono Bn0).trans (bS.fra.mono CA9),λhp=>by rw[jY] at hp;cases hp⟩
     |_=>exact hQ _ _ _ _ _ hK (out he)
 |.cond c x y,S,w,wr,a,K,Q,h,hf,hw,WZ,hQ=>by
  simp only[zem] at h
  split at h
  ·rename_i hb;have hc:a.eval c=.bool true:=C6 hf hb;refine wpIn_cond_split hc (λhb=>?_) (λhb=>by cases hb);exact Yi E x S w wr a _ _ h hf hw WZ λe S' w' a' aB hK he=>hQ _ _ _ _ _ hK (he.mono λz hz=>Ic _ hz)
  ·rename_i hb;have hc:a.eval c=.bool false:=C6 hf hb;refine wpIn_cond_split hc (λhb=>by cases hb) (λhb=>?_);exact Yi E y S w wr a _ _ h hf hw WZ λe S' w' a' aB hK he=>hQ _ _ _ _ _ hK (he.mono λz hz=>Iz _ hz)
  ·rename_i b hb;have hc:a.eval c=.bool b:=C6 hf hb;refine wpIn_cond_split hc (λhb=>?_) (λhb=>?_)
   ·subst hb;exact Yi E x (rF S c true) w wr a _ _ (h.1 rfl) (hf.rF hc) (zhp hw) (zle WZ) λe S' w' a' aB hK he=>hQ _ _ _ _ _ hK ((zho he).mono λz hz=>Ic _ hz)
   ·subst hb;exact Yi E y (rF S c false) w wr a _ _ (h.2 rfl) (hf.rF hc) (zhp hw) (zle WZ) λe S' w' a' aB hK he=>hQ _ _ _ _ _ hK ((zho he).mono λz hz=>Iz _ hz)
  ·exact h.elim
 |.scope b,S,w,wr,a,K,Q,h,hf,hw,WZ,hQ=>by
  refine LL (Yi E b S w wr a _ _ h hf hw WZ λe S' w' a' aB hK he=>?_)
  cases e with
  |goto l=>exact hK.elim
  |_=>exact hQ _ _ _ _ _ hK he
 |.block id b,S,w,wr,a,K,Q,h,hf,hw,WZ,hQ=>by
  refine wpIn_block (Yi E b S w wr a _ _ h hf hw WZ λe S' w' a' aB hK he=>?_)
  cases e with
  |exit id'=>
   simp only[Exit.inBlock]
   dsimp only at hK
   cases hb:Nat.beq id' id with
   |true=>
    rw[hb] at hK;rw[H' (Ie hb)];exact hQ _ _ _ _ _ hK he
   |false=>
    rw[hb] at hK;rw[E' (λe=>by rw[e,Nat.beq_refl] at hb;cases hb)];exact hQ _ _ _ _ _ hK he
  |_=>exact hQ _ _ _ _ _ hK he
 |.loop b,S,w,wr,a,K,Q,h,hf,hw,WZ,hQ=>by
  simp only[zem] at h
  split at h
  ·exact h.elim
  ·rename_i key DA7
   split at h
   ·exact h.elim
   ·rename_i sp hsp
    cases hok:znd S sp (Jn b) with
    |false=>rw[hok] at h;exact h.elim
    |true=>
     rw[hok] at h;simp only[cond_true] at h;have hs:=CF hok
     cases jY:C.pm with
     |true=>
      rw[jY] at h;simp only[cond_true] at h;obtain⟨J4,μ,Bj0,tZ⟩:=h
      have mk:∀(S':St) (a':Act) (aB:Wo) (xs ys:List Va),TW C.n S' a'->Zh S' w aB->S'.old=S.old->Gd (Jn b) a a'->(∀(id b:Nat),S.B[id]? = some b->S'.B[id]? = some b)->
        (∀(id:Nat) (t:TypeId) (cs:List Va),S.L[id]? = some (t,cs)->∃mI,S'.L[id]? = some (t,mI))->(∀id,id<S.L.length->id∉sp.Wz.map (·.1)->S'.L[id]? = S.L[id]?)->
        KY S' sp.tE=some xs->Md S' sp.Wz=some ys->zrd C S w (Jn b) a sp (xs++ys) w a' aB:=by
       intro S' a' aB xs ys h1 h2 h3 h4 h5 h6 h7 h8 h9;obtain⟨g1,g2⟩:=As hs hw h2 h5 h6 h7 (U3 h8).1 h9;refine⟨Ar hs hf h1 h4 h8,⟨?_,g2,by rw[g1];exact hw.len,hw.nF,hw.fresh⟩,⟨WZ.old,λid bG=>by rw[g1];exact(Ow.1 bG).1⟩,h4⟩;have hbs:S'.bs=S.bs:=by unfold St.bs;rw[h3];exact zde WZ.old h5
       have:=h2.ext;rw[hbs] at this;exact this
      obtain⟨xs,ys,hx,hy,hk,hI⟩:=PS Bj0
      refine Dv (λn a' aB=>∃xs ys S',μ (xs++ys)=n/\J4 (xs++ys)/\Jv sp.ks (xs++ys)/\xs.length=sp.tE.length/\Md S' sp.Wz=some ys/\(∀(id:Nat) (t:TypeId) (cs:List Va),S.L[id]? = some (t,cs)->∃mI,S'.L[id]? = some (t,mI))/\zrd C S w (Jn b) a sp (xs++ys) w a' aB)
       (m:=μ (xs++ys)) ⟨xs,ys,S,rfl,hI,hk,(U3 hx).1,hy,λ_ _ cs h=>⟨cs,h⟩,mk S a wr xs ys hf hw rfl (Gd.refl _ _) (λ_ _ h=>h) (λ_ _ cs h=>⟨cs,h⟩) (λ_ _ _=>rfl) hx hy⟩ ?_
      rintro n a' aB ⟨xs,ys,S',rfl,hI,hk,hxl,hyl,hty,hH⟩;obtain⟨t1,t2⟩:=At hs.nd hty hxl hyl
      have hlen:(Yf S sp (xs++ys)).L.length=S.L.length:=by
       have:=hH.rel.len;rw[this];exact hw.len.symm
      refine Yi E b _ w aB a' _ _ (VU tZ hk hI) hH.fit hH.rel hH.wf λe S2 w2 a2 Rg hK he=>?_
      obtain⟨f1,f2⟩:=zgo hs WZ hlen t1 t2 he.fr;obtain⟨p1,p2⟩:=he.pm jY;subst p1
      cases e with
      |normal=>
       obtain⟨xs',ys',eJ,hy',hk',hI',IX⟩:=PS hK;refine⟨μ (xs'++ys'),IX,xs',ys',S2,rfl,hI',hk',(U3 eJ).1,hy',f1.ty,?_⟩;exact mk S2 a2 Rg xs' ys' he.fit he.rel p2 (hH.fra.trans he.fra) f1.B f1.ty f2 eJ hy'
      |_=>
       exact hQ _ _ _ _ _ hK ⟨⟨he.fit.size,he.fit.fits,he.fit.old⟩,⟨he.rel.ext,he.rel.loc,he.rel.len,he.rel.nF,he.rel.fresh⟩,
        ⟨he.wf.old,λid bG=>by
         obtain⟨mI,hc'⟩:=f1.ty id (S.L[id]'(WZ.lk id bG)).1 (S.L[id]'(WZ.lk id bG)).2 (Io _);exact(Ia.1 hc').1⟩,f1,hH.fra.trans he.fra,λ_=>⟨rfl,p2⟩⟩
     |false=>
      rw[jY] at h;simp only[cond_false] at h;obtain⟨J4,μ,Bj0,tZ⟩:=h
      have mk:∀(S':St) (w':Wo) (a':Act) (aB:Wo) (xs ys:List Va),TW C.n S' a'->Zh S' w' aB->Gd (Jn b) a a'->(∀(id b:Nat),S.B[id]? = some b->S'.B[id]? = some b)->
        (∀(id:Nat) (t:TypeId) (cs:List Va),S.L[id]? = some (t,cs)->∃mI,S'.L[id]? = some (t,mI))->(∀id,id<S.L.length->id∉sp.Wz.map (·.1)->S'.L[id]? = S.L[id]?)->
        KY S' sp.tE=some xs->Md S' sp.Wz=some ys->zrd C S.cB aB (Jn b) a sp (xs++ys) aB a' aB:=by
       intro S' w' a' aB xs ys h1 h2 h4 h5 h6 h7 h8 h9;obtain⟨g1,g2⟩:=As hs hw h2 h5 h6 h7 (U3 h8).1 h9;have hf1:=Ar (ys:=ys) hs hf h1 h4 h8;refine⟨⟨hf1.size,hf1.fits,hf1.old⟩,⟨Q0.refl _ _,g2,by show (Yf S sp (xs++ys)).L.length=_;rw[g1];exact hw.len,hw.nF,λid b bG hb=>?_⟩,⟨I9 _,λid bG=>by show id<(Yf S sp (xs++ys)).L.length;rw[g1];exact(Ow.1 bG).1⟩,h4⟩;have:id<S.B.length:=(Ia.1 hb).1;have DA1:S.B.length<=id:=bG;omega
      obtain⟨xs,ys,hx,hy,hk,hI⟩:=PS (Bj0 wr hw.ext hw.lt)
      refine Dv (λn a' aB=>∃xs ys S',μ (xs++ys) aB=n/\J4 (xs++ys) aB/\Jv sp.ks (xs++ys)/\xs.length=sp.tE.length/\Md S' sp.Wz=some ys/\(∀(id:Nat) (t:TypeId) (cs:List Va),S.L[id]? = some (t,cs)->∃mI,S'.L[id]? = some (t,mI))/\zrd C S.cB aB (Jn b) a sp (xs++ys) aB a' aB)
       (m:=μ (xs++ys) wr) ⟨xs,ys,S,rfl,hI,hk,(U3 hx).1,hy,λ_ _ cs h=>⟨cs,h⟩,mk S w a wr xs ys hf hw (Gd.refl _ _) (λ_ _ h=>h) (λ_ _ cs h=>⟨cs,h⟩) (λ_ _ _=>rfl) hx hy⟩ ?_
      rintro n a' aB ⟨xs,ys,S',rfl,hI,hk,hxl,hyl,hty,hH⟩;obtain⟨t1,t2⟩:=At hs.nd hty hxl hyl
      have hlen:(Yf S sp (xs++ys)).L.length=S.L.length:=by
       have:(Yf S.cB sp (xs++ys)).L.length=S.B.length:=hH.rel.len;rw[<-hw.len] at this;exact this
      refine Yi E b _ aB aB a' _ _ (VU tZ hk aB hH.rel.lt hI) hH.fit hH.rel hH.wf λe S2 w2 a2 Rg hK he=>?_
      have pZ:Ps (Yf S sp (xs++ys)) S2:=⟨he.fr.B,he.fr.ty,he.fr.lk⟩;obtain⟨f1,f2⟩:=zgo hs WZ hlen t1 t2 pZ
      cases e with
      |normal=>
       obtain⟨xs',ys',eJ,hy',hk',hI',IX⟩:=PS (hK Rg he.rel.ext he.rel.lt);refine⟨μ (xs'++ys') Rg,IX,xs',ys',S2,rfl,hI',hk',(U3 eJ).1,hy',f1.ty,?_⟩;exact mk S2 w2 a2 Rg xs' ys' he.fit he.rel (hH.fra.trans he.fra) f1.B f1.ty f2 eJ hy'
      |_=>
       exact hQ _ _ _ _ _ hK ⟨⟨he.fit.size,he.fit.fits,he.fit.old⟩,⟨he.rel.ext,he.rel.loc,he.rel.len,he.rel.nF,he.rel.fresh⟩,
        ⟨he.wf.old,λid bG=>by
         obtain⟨mI,hc'⟩:=f1.ty id (S.L[id]'(WZ.lk id bG)).1 (S.L[id]'(WZ.lk id bG)).2 (Io _);exact(Ia.1 hc').1⟩,f1,hH.fra.trans he.fra,λhp=>by rw[jY] at hp;cases hp⟩
 |.rangeFunc _ _ _ _,_,_,_,_,_,_,h,_,_,_,_=>h.elim
 |.goto _,_,_,_,_,_,_,h,_,_,_,_=>h.elim
 |.refuse _,_,_,_,_,_,_,h,_,_,_,_=>h.elim
def zgq:List Va->Nat->PT SV
 |[],_=>.leaf
 |v::r,i=>PT.set 12 (zgq r (i+1)) i (.un (.v v))
def zcf:∀{l:List Va} {k i:Nat} {sv:SV},k+l.length<=4000->(zgq l k).get i=some sv->∃v,l[i-k]? = some v/\k<=i/\sv=.un (.v v)
 |[],k,i,sv,_,h=>by simp[zgq,PT.get] at h
 |v::r,k,i,sv,hl,h=>by
  simp only[zgq] at h;simp only[List.length_cons] at hl;rw[PT.mS _ 12 _ _ _ (by show @LT.lt Nat _ (k+1) (2 ^ 12);have e:(2:Nat) ^ 12=4096:=rfl;omega)] at h
  by_cases hk:k=i
  ·subst hk;rw[H' rfl] at h;simp only[I2] at h;exact⟨v,Qs,I9 _,h.symm⟩
  ·rw[E' hk] at h;obtain⟨u,h1,h2,h3⟩:=zcf Qo h;refine⟨u,?_,Qo,h3⟩;have:i-k=(i-(k+1))+1:=Qo;rw[this];simpa using h1
def GE(args:List Va):St:={ F:=zgq args 0,L:=[],B:=[],old:=0,lk:=[],r:=1 }
def zhh(C:VR)(S:St)(w:Wo):List ResultVar->(List Va->Prop)->Prop
 |[],K=>K []
 |.tmp t::r,K=>match Lf S [] (.tmp t) with
  |some v=>zhh C S w r λl=>K (v::l)
  |none=>False
 |.cell p t::r,K=>match C.T t,CS S [] (.tmp p) with
  |some ty,some (.loc id 0)=>match S.L[id]? with
   |some (_,cs)=>bif Nat.beq cs.length ty.ks.length then
     (match ty.val cs with
      |some v=>zhh C S w r λl=>K (v::l)
      |none=>False)
    else False
   |none=>False
  |some ty,some (.el o n)=>zgd ty.ks λvs=>match ty.val vs with
   |some v=>Q2 S.bs w o n vs/\zhh C S w r λl=>K (v::l)
   |none=>False
  |_,_=>False
def zjw:List Va->Va
 |[v]=>v
 |l=>.tuple l.toArray
def zon(C:VR)(sps:List (Nat×X9))(args:List Va)(body:Code)(res:List ResultVar)(w:Wo)(R:Va->Wo->Prop):Prop:=
 zem C sps body (GE args) w λe S w'=>match e with
  |.normal|.ret=>zhh C S w' res λl=>bif C.pm then R (zjw l) w' else ∀wr,Q0 S.bs w' wr->R (zjw l) wr
  |_=>False
def zqe{C:VR}(E:zns C){S:St}{w wr:Wo}{a:Act}(hf:TW C.n S a)(hw:Zh S w wr):∀{res:List ResultVar} {K:List Va->Prop},zhh C S w res K->
  ∃l,K l/\l.length=res.length/\(res.mapM (m:=Sem) fun
   |.tmp t=>pure (a.tmps.getD t undef)
   |.cell p t=>do loadVar t (<-asAddr (a.tmps.getD p undef))).run C.P wr=.ok l wr:=by
 have hd:∀{x:Operand} {e:EV},CS S [] x=some e->EV.den S e (a.eval x):=λ{x e} hb=>by
  have:=ZP (ops:=#[]) (hf.enter #[] (λ_=>False)).fit (pc:=[]) (λp hp=>by cases hp) (S:={ S with r:=S.r+1 }) (x:=x) (e:=e) (by
   cases x with
   |tmp t=>
    simp only[CS] at hb ⊢
    split at hb
    ·exact hb
    ·rename_i r tL y hg
     cases cA:Nat.beq r S.r&&Cs tL [] with
     |false=>rw[cA] at hb;cases hb
     |true=>
      simp only[A'] at cA;have:=Ie cA.1;have h2:=hf.old t r tL y hg;omega
    ·cases hb
   |const v=>exact hb
   |global g=>exact hb
   |func f=>exact hb)
  exact EV.gF (S:={ S with r:=S.r+1 }) (λ_ _ h=>h) this
 intro res
 induction res with
 |nil=>intro K h;exact⟨[],h,rfl,Qs⟩
 |cons x r ih=>
  intro K h
  cases x with
  |tmp t=>
   simp only[zhh] at h
   split at h
   ·rename_i v hv;obtain⟨l,h1,h2,h3⟩:=ih h
    have hv':a.tmps.getD t undef=v:=by
     unfold Lf at hv
     split at hv
     ·rename_i e he;exact zdx hv (hd he)
     ·cases hv
    refine⟨v::l,h1,by simp[h2],?_⟩;simp only[List.mapM_cons,Sem.run_bind,Sem.run_pure,Result.andThen_ok,h3,hv']
   ·exact h.elim
  |cell p t=>
   simp only[zhh] at h
   split at h
   ·rename_i ty id ht he;obtain⟨b,hb,hx⟩:=hd he;simp only[Act.eval] at hx
    split at h
    ·rename_i t' cs hl
     cases hc:Nat.beq cs.length ty.ks.length with
     |false=>rw[hc] at h;exact h.elim
     |true=>
      rw[hc] at h;simp only[cond_true] at h
      split at h
      ·rename_i v hv;obtain⟨l,h1,h2,h3⟩:=ih h
       have hl2:=Ti E.T ht hv (Ie hc) (a:=⟨b,0,none⟩) (w:=wr) (λj y hy=>by
        rw[Addr.add_lit,KD hw hl hb,Nat.zero_add];exact hy)
       refine⟨v::l,h1,by simp[h2],?_⟩;have ha:(asAddr (a.tmps.getD p undef)).run C.P wr=.ok ⟨b,0,none⟩ wr:=by rw[hx];rfl
       simp only[List.mapM_cons,Sem.run_bind,ha,Sem.run_pure,Result.andThen_ok,hl2,h3]
      ·exact h.elim
    ·exact h.elim
   ·rename_i ty o n ht he;obtain⟨ad,ho,hx⟩:=hd he;simp only[Act.eval] at hx;obtain⟨vs,hlen,h⟩:=TF h
    split at h
    ·rename_i v hv;obtain⟨hcx,h⟩:=h;obtain⟨l,h1,h2,h3⟩:=ih h;have hl2:=Ti E.T ht hv hlen (a:=ad.add n) (w:=wr) (hcx.cells hw.ext ho);refine⟨v::l,h1,by simp[h2],?_⟩;have ha:(asAddr (a.tmps.getD p undef)).run C.P wr=.ok (ad.add n) wr:=by rw[hx];rfl
     simp only[List.mapM_cons,Sem.run_bind,ha,Sem.run_pure,Result.andThen_ok,hl2,h3]
    ·exact h.elim
   ·exact h.elim
def Ff{C:VR}(E:zns C){sps:List (Nat×X9)}{f:FuncId}{fn:Func}{body:Code}{args:List Va}{w:Wo}{R:Va->Wo->Prop}(hf:C.P.funcs[f]? = some fn)(hb:fn.body=some body)(hn:fn.ntmps=C.n)(hargs:args.length<=C.n)(hn4:C.n<=4000)(sV:C.rd=none)(h:zon C sps args body fn.results.toList w R):Calls C.P f args.toArray w λe w'=>∃v wv,e=.returned v/\(C.pm->wv=w/\Q0 [] w w')/\(C.pm->R v wv)/\(C.pm=false->R v w'):=by
 refine(callsIn_wide (n:=0)).1 (callsIn_of_wp hf hb trivial ?_);have hF:GB C.rd=Fence.wide:=by rw[sV];rfl
 rw[<-hF]
 have B70:TW C.n (GE args) { tmps:=args.toArray++Array.replicate (fn.ntmps-args.toArray.size) undef,defers:=[] }:=by
  have Ax9:∀i sv,(GE args).F.get i=some sv->∃v,args[i]? = some v/\sv=.un (.v v):=λi sv hs=>by
   obtain⟨v,h1,_,h3⟩:=zcf Qo hs;exact⟨v,by simpa using h1,h3⟩
  refine⟨by simp[hn];omega,λi x hx=>?_,λi r pc x hx=>?_⟩
  ·obtain⟨v,h1,h2⟩:=Ax9 i _ hx;cases h2;show _=v;rw[Array.getD_eq_getD_getElem?,Array.getElem?_append_left (by simpa using (Ia.1 h1).1)];simp[h1]
  ·obtain⟨v,h1,h2⟩:=Ax9 i _ hx;cases h2
 have tH:Zh (GE args) w w:=⟨Q0.refl _ _,λid t cs hl=>by simp[GE] at hl,rfl,List.nodup_nil,λid b _ hb=>by simp[GE] at hb⟩;refine Yi E body (GE args) w w _ _ _ h B70 tH ⟨Ig _,λid bG=>by cases bG⟩ λe S w' a' aB hK he=>?_
 have fin:zhh C S w' fn.results.toList (λl=>bif C.pm then R (zjw l) w' else ∀wr,Q0 S.bs w' wr->R (zjw l) wr)->a'.defers=[]/\∃v,(results fn a'.tmps).run C.P aB=.ok v aB/\∃v' wv,Ending.returned v=.returned v'/\(C.pm->wv=w/\Q0 [] w aB)/\(C.pm->R v' wv)/\(C.pm=false->R v' aB):=λhr=>by
  obtain⟨l,h1,h2,h3⟩:=zqe E he.fit he.rel hr;refine⟨he.fra.1,zjw l,?_,zjw l,w',rfl,λhp=>?_,λhp=>?_,λhp=>?_⟩
  ·simp only[results,Sem.run_bind,Array.mapM_eq_mapM_toList,Sem.run_map];refine(congrArg (λr:Result (List Va)=>(r.andThen λa w'=>Result.ok a.toArray w').andThen λvs w'=>(Pure.pure (if h:vs.size=1 then vs[0] else .tuple vs):Sem Va).run C.P w') h3).trans ?_;simp only[Result.andThen_ok,Sem.run_pure]
   congr 1
   cases l with
   |nil=>rfl
   |cons x r=>
    cases r with
    |nil=>rfl
    |cons y q=>simp[zjw]
  ·obtain⟨p1,p2⟩:=he.pm hp;refine⟨p1,?_⟩;have hx:=he.rel.ext;rw[<-p1];have hbs:S.bs=[]:=by unfold St.bs;rw[p2];rfl
   rw[hbs] at hx;exact hx
  ·rw[hp] at h1;exact h1
  ·rw[hp] at h1;exact h1 aB he.rel.ext
 cases e with
 |normal=>exact fin hK
 |ret=>exact fin hK
 |_=>exact hK.elim
def zjg{C:VR}(E:zns C){sps:List (Nat×X9)}{f:FuncId}{fn:Func}{body:Code}{args:List Va}{w:Wo}{bs:List Nat}{r:Va}(hf:C.P.funcs[f]? = some fn)(hb:fn.body=some body)(hn:fn.ntmps=C.n)(hargs:args.length<=C.n)(hn4:C.n<=4000)(jY:C.pm)(sV:C.rd=none)(h:∀wr,Q0 bs w wr->zon C sps args body fn.results.toList wr λv _=>v=r):Q3 bs C.P f args.toArray w r:=λwr hx=>
 (Ff E hf hb hn hargs hn4 sV (h wr hx)).mono λe w' ⟨v,_,he,h1,h2,_⟩=>by
  have:=h2 jY;subst this;exact⟨he,(h1 jY).2⟩
def zl4{C:VR}(E:zns C){sps:List (Nat×X9)}{f:FuncId}{fn:Func}{body:Code}{args:List Va}{w:Wo}{R:Va->Wo->Prop}(hf:C.P.funcs[f]? = some fn)(hb:fn.body=some body)(hn:fn.ntmps=C.n)(hargs:args.length<=C.n)(hn4:C.n<=4000)(jY:C.pm=false)(sV:C.rd=none)(h:zon C sps args body fn.results.toList w R):Calls C.P f args.toArray w λe w'=>∃v,e=.returned v/\R v w':=
 (Ff E hf hb hn hargs hn4 sV h).mono λe w' ⟨v,_,he,_,_,h3⟩=>⟨v,he,h3 jY⟩
def PN{w:Wo}{b:Nat}{cs:Array Va}{t:TypeId}{fz:Nat×Nat}(h:w.heap[b]? = some (.cells cs t fz))(k:Nat):w.cell? ⟨b,k,none⟩=cs[k]? := by
 simp[World.cell?,h]
def VV{w:Wo}{b:Nat}{o:Obj}(h:w.heap[b]? = some o):b<w.heap.size:=by
 rcases Nat.lt_or_ge b w.heap.size with hl|hl
 ·exact hl
 ·rw[Array.getElem?_eq_none_iff.2 hl] at h;cases h
def PM{bs:List Nat}{w:Wo}{b k0:Nat}{cs:List Va}{t:TypeId}{fz:Nat×Nat}(h:w.heap[b]? = some (.cells cs.toArray t fz))(hb:b∉bs){k:Nat}{v:Va}(hk:cs[k0+k]? = some v):V0 bs w (some ⟨b,k0,none⟩) k v:=
 ⟨⟨b,k0,none⟩,rfl,hb,by rw[Addr.add_lit,PN h];simpa using hk⟩
def UE{bs:List Nat}{w:Wo}{o:OA}{n:Nat}{v:Va}(h:V0 bs w o n v):Q2 bs w o n [v]:=h
def JS{bs:List Nat}{w:Wo}{o:OA}:∀{n:Nat} {vs:List Va},(∀j v,vs[j]? = some v->V0 bs w o (n+j) v)->Q2 bs w o n vs
 |_,[],_=>trivial
 |n,[v],h=>h 0 v rfl
 |n,v::u::r,h=>⟨h 0 v rfl,JS (vs:=u::r) λj x hj=>by
   have:=h (j+1) x (by simpa using hj);rw[show n+1+j=n+(j+1) by omega];exact this⟩
def Mp{bs:List Nat}{w:Wo}{b k0:Nat}{cs:List Va}{t:TypeId}{fz:Nat×Nat}(h:w.heap[b]? = some (.cells cs.toArray t fz))(hb:b∉bs){n:Nat}{vs:List Va}(hk:∀j v,vs[j]? = some v->cs[k0+(n+j)]? = some v):Q2 bs w (some ⟨b,k0,none⟩) n vs:=
 JS λj v hj=>PM h hb (hk j v hj)
def Q2.ext{bs:List Nat}{w w':Wo}{o:OA}{n:Nat}{vs:List Va}(h:Q2 bs w o n vs)(hx:Q0 bs w w'):Q2 bs w' o n vs:=
 JS λj v hj=>(h.get j v hj).ext hx
def Q2.less{bs cs:List Nat}{w:Wo}{o:OA}{n:Nat}{vs:List Va}(h:Q2 bs w o n vs)(hs:∀x∈cs,x∈bs):Q2 cs w o n vs:=
 JS λj v hj=>(h.get j v hj).less hs
def Ts{bs:List Nat}{w w':Wo}{b:Nat}{o:Obj}(h:w.heap[b]? = some o)(hx:Q0 bs w w')(hb:b∉bs):w'.heap[b]? = some o:=by
 rw[hx.block b (VV h) hb];exact h
def Nu{w:Wo}{b k n:Nat}{cs vs:List Va}{t:TypeId}{fz:Nat×Nat}(h:w.heap[b]? = some (.cells cs.toArray t fz)):(RN w (some ⟨b,k,none⟩) n vs).heap[b]? = some (.cells (zfl cs (k+n) vs).toArray t fz):=H0 vs w b k n cs t fz h
def zhy(bs:List Nat)(a:Addr):∀(vs:List Va) (w:Wo) (n:Nat),a.block∈bs->Q0 bs w (eY w a n vs)
 |[],w,n,_=>Q0.refl _ _
 |v::r,w,n,h=>((Q0.refl bs w).setCell (p:=a.add n) (.inr (by rw[Zv];exact h)) v).trans (zhy bs a r _ _ h)
def MH{bs:List Nat}{w:Wo}{o:OA}{n:Nat}{vs:List Va}(h:∀a,o=some a->a.block∈bs):Q0 bs w (RN w o n vs):=by
 cases o with
 |none=>exact Q0.refl _ _
 |some a=>exact zhy bs a vs w n (h a rfl)
def zfw{bs:List Nat}{w:Wo}{b k0 n k:Nat}{cs:List Va}{t:TypeId}(h:w.heap[b]? = some (.cells cs.toArray t (0,0)))(hb:b∉bs)(hk:k0+(n+k)<=cs.length):Xx bs w (some ⟨b,k0,none⟩) n k:=
 ⟨⟨b,k0,none⟩,rfl,hb,λj h1 h2=>by
  rw[Addr.add_lit,PN h];refine⟨⟨cs[k0+j]' Qo,Qs⟩,?_⟩;simp[World.frozen?,h]⟩
def Q0.fresh{bs cs:List Nat}{w0 w w':Wo}(h:Q0 bs w0 w)(k:Q0 cs w w')(hc:∀x∈cs,w0.heap.size<=x\/x∈bs):Q0 bs w0 w':=
 ⟨k.os.trans h.os,k.tape.trans h.tape,k.output.trans h.output,IC h.size k.size,λi hi hb=>(k.block i (Nat.lt_of_lt_of_le hi h.size) (λhx=>by
  rcases hc i hx with h1|h1
  ·omega
  ·exact hb h1)).trans (h.block i hi hb)⟩
def P4{bs:List Nat}{P:Program}{f:FuncId}{args:Array Va}{w:Wo}{v:Va}(h:∀wr,Q0 bs w wr->Calls P f args wr λe w'=>∃v0,e=.returned v0/\(v0=v/\Q0 [] wr w')):Q3 bs P f args w v:=
 λwr hx=>(h wr hx).mono λe w' ⟨v0,he,hv,eJ⟩=>⟨by rw[he,hv],eJ⟩
structure MK where
 IL:Int
 on:Bool
 v:Int
 w:Int
 sum:Int
 deriving DecidableEq,Inhabited
structure Jx where
 R4:Int
 Sy:Int
 WI:Int
 locals:List Int
 RW:List Bool
 deriving DecidableEq,Inhabited
structure ZL where
 IW:Bool
 IG:Int
 name:ByteArray
 R2:Int
 IF:Int
 period:Int
 next:Int
 sum:Int
 IY:Jx
 IH:List MK
 deriving DecidableEq,Inhabited
structure Pv where
 state:Int
 II:Int
 R8:Int
 nice:Int
 mask:Int
 v:Int
 sum:Int
 IW:Int
 load:Int
 deriving DecidableEq,Inhabited
structure Pe where
 up:Bool
 cur:Int
 WC:Int
 busy:Int
 idle:Int
 deriving DecidableEq,Inhabited
structure Q7 where
 now:Int
 IF:List Pe
 IK:List Pv
 IE:List ZL
 deriving DecidableEq,Inhabited
structure ztr where
 kind:Int
 rJ:Int
 n:Int
 deriving DecidableEq,Inhabited
def gi{α:Type}[Inhabited α](l:List α)(i:Int):α:=l.getD i.toNat default
def zot{α:Type}[Inhabited α](l:List α)(k:Nat):gi l (k:Int)=l.getD k default:=rfl
def XT{α:Type}[Inhabited α]{l:List α}{k:Nat}(h:k<l.length):gi l (k:Int)=l[k]:=by
 simp[zot,List.getD_eq_getElem?_getD,h]
def zr0{α:Type}[Inhabited α]{l:List α}{k:Nat}(h:k<l.length):l[k]? = some (gi l (k:Int)):=by
 rw[XT h];simp[h]
def ziv{α:Type}[Inhabited α]{l:List α}{i:Int}(h0:0<=i)(h1:i<l.length):gi l i∈l:=by
 obtain⟨k,rfl⟩:=Int.eq_ofNat_of_zero_le h0;have:k<l.length:=Qo;rw[XT this];exact List.getElem_mem this
def zos{α:Type}[Inhabited α]{l m:List α}(hl:l.length=m.length)(h:∀k:Nat,k<l.length->gi l (k:Int)=gi m (k:Int)):l=m:=by
 refine List.ext_getElem hl λk h1 h2=>?_
 have:=h k h1
 rwa[XT h1,XT h2] at this
def zun{α β:Type}[Inhabited α][Inhabited β](f:α->β)(l:List α){i:Int}(h0:0<=i)(hi:i<(l.length:Int)):gi (l.map f) i=f (gi l i):=by
 obtain⟨k,rfl⟩:=Int.eq_ofNat_of_zero_le h0;rw[XT (by simp;omega),XT Qo];simp
def QD{α:Type}[Inhabited α](l:List α)(x:α){i j:Int}(h0:0<=i)(hi:i<(l.length:Int))(hj:0<=j):gi (l.set i.toNat x) j=if i=j then x else gi l j:=by
 obtain⟨k,rfl⟩:=Int.eq_ofNat_of_zero_le h0;obtain⟨q,rfl⟩:=Int.eq_ofNat_of_zero_le hj;simp only[zot,Ii,List.getD_eq_getElem?_getD,List.getElem?_set]
 by_cases hkq:k=q
 ·subst hkq;have:k<l.length:=Qo;simp[this]
 ·have:¬((k:Int)=q):=Qo;simp[hkq,this]
def TY(s:MK):List Va:=[I s.IL,.bool s.on,I s.v,I s.w,I s.sum]
def Ys(t:Pv):List Va:=[I t.state,I t.II,I t.R8,I t.nice,I t.mask,I t.v,I t.sum,I t.IW,I t.load]
def K5(c:Pe):List Va:=[.bool c.up,I c.cur,I c.WC,I c.busy,I c.idle]
def zom(o:ztr):List Va:=[I o.kind,I o.rJ,I o.n]
def Jk(n:Int):List Va:=[I n]
def K4(b:Bool):List Va:=[.bool b]
structure MG where
 lO:OA
 lC:Nat
 dO:OA
 dC:Nat
 sO:OA
 sC:Nat
 deriving Inhabited
def YC(g:ZL)(m:MG):List Va:=[.bool g.IW,I g.IG,.string g.name,I g.R2,I g.IF,I g.period,I g.next,I g.sum,
 I g.IY.R4,I g.IY.Sy,I g.IY.WI,.slice m.lO g.IY.locals.length m.lC,.slice m.dO g.IY.RW.length m.dC,.slice m.sO g.IH.length m.sC]
def Rd{α:Type}[Inhabited α](enc:α->List Va)(z:Nat)(bs:List Nat)(w:Wo)(o:OA)(l:List α):Prop:=
 ∀i:Int,0<=i->i<(l.length:Int)->Q2 bs w o (Int.toNat i*z) (enc (gi l i))
def Rd.ext{α:Type}[Inhabited α]{enc:α->List Va}{z:Nat}{bs:List Nat}{w w':Wo}{o:OA}{l:List α}(h:Rd enc z bs w o l)(hx:Q0 bs w w'):Rd enc z bs w' o l:=
 λi h0 h1=>(h i h0 h1).ext hx
def Rd.less{α:Type}[Inhabited α]{enc:α->List Va}{z:Nat}{bs cs:List Nat}{w:Wo}{o:OA}{l:List α}(h:Rd enc z bs w o l)(hs:∀x∈cs,x∈bs):Rd enc z cs w o l:=
 λi h0 h1=>(h i h0 h1).less hs
def V0.wide{bs cs:List Nat}{w:Wo}{o:OA}{n:Nat}{v:Va}(h:V0 bs w o n v)(hs:∀x∈cs,x∈bs\/w.heap.size<=x):V0 cs w o n v:=by
 obtain⟨a,ho,hb,hc⟩:=h;refine⟨a,ho,λhx=>?_,hc⟩;have IX:=World.block_lt_of_cell? w _ hc;rw[Zv] at IX;rcases hs _ hx with h1|h1
 ·exact hb h1
 ·omega
def Q2.wide{bs cs:List Nat}{w:Wo}{o:OA}{n:Nat}{vs:List Va}(h:Q2 bs w o n vs)(hs:∀x∈cs,x∈bs\/w.heap.size<=x):Q2 cs w o n vs:=
 JS λj v hj=>(h.get j v hj).wide hs
def Rd.wide{α:Type}[Inhabited α]{enc:α->List Va}{z:Nat}{bs cs:List Nat}{w:Wo}{o:OA}{l:List α}(h:Rd enc z bs w o l)(hs:∀x∈cs,x∈bs\/w.heap.size<=x):Rd enc z cs w o l:=
 λi h0 h1=>(h i h0 h1).wide hs
def Q2.some{bs:List Nat}{w:Wo}{o:OA}{n:Nat}{v:Va}{r:List Va}(h:Q2 bs w o n (v::r)):o.isSome:=by
 obtain⟨a,rfl,_,_⟩:=h.get 0 v rfl;rfl
def Rd.ix{α:Type}[Inhabited α]{enc:α->List Va}{z:Nat}{bs:List Nat}{w:Wo}{o:OA}{l:List α}(h:Rd enc z bs w o l)(he:∀x,∃v r,enc x=v::r){i:Int}(h0:0<=i)(h1:i<(l.length:Int)):Ix o l.length i:=by
 obtain⟨v,r,e⟩:=he (gi l i);have:=h i h0 h1;rw[e] at this;exact⟨h0,h1,this.some⟩
def Zz(x:MK):∃v r,TY x=v::r:=⟨_,_,rfl⟩
def QF(x:Pv):∃v r,Ys x=v::r:=⟨_,_,rfl⟩
def Zy(x:Pe):∃v r,K5 x=v::r:=⟨_,_,rfl⟩
def VY(x:Int):∃v r,Jk x=v::r:=⟨_,_,rfl⟩
def Af(x:Bool):∃v r,K4 x=v::r:=⟨_,_,rfl⟩
abbrev zia:=Rd TY 5
abbrev zq9:=Rd Ys 9
abbrev zvs:=Rd K5 5
abbrev znn:=Rd Jk 1
abbrev zre:=Rd K4 1
structure K0 (bs:List Nat) (w:Wo) (o:OA) (gs:List ZL) (ms:Nat->MG):Prop where
 cells:∀i:Int,0<=i->i<(gs.length:Int)->Q2 bs w o (Int.toNat i*14) (YC (gi gs i) (ms i.toNat))
 locals:∀i:Int,0<=i->i<(gs.length:Int)->znn bs w (ms i.toNat).lO (gi gs i).IY.locals
 RW:∀i:Int,0<=i->i<(gs.length:Int)->zre bs w (ms i.toNat).dO (gi gs i).IY.RW
 IH:∀i:Int,0<=i->i<(gs.length:Int)->zia bs w (ms i.toNat).sO (gi gs i).IH
def K0.ext{bs:List Nat}{w w':Wo}{o:OA}{gs:List ZL}{ms:Nat->MG}(h:K0 bs w o gs ms)(hx:Q0 bs w w'):K0 bs w' o gs ms:=
 ⟨λi a b=>(h.cells i a b).ext hx,λi a b=>(h.locals i a b).ext hx,λi a b=>(h.RW i a b).ext hx,λi a b=>(h.IH i a b).ext hx⟩
def K0.less{bs cs:List Nat}{w:Wo}{o:OA}{gs:List ZL}{ms:Nat->MG}(h:K0 bs w o gs ms)(hs:∀x∈cs,x∈bs):K0 cs w o gs ms:=
 ⟨λi a b=>(h.cells i a b).less hs,λi a b=>(h.locals i a b).less hs,λi a b=>(h.RW i a b).less hs,λi a b=>(h.IH i a b).less hs⟩
def K0.wide{bs cs:List Nat}{w:Wo}{o:OA}{gs:List ZL}{ms:Nat->MG}(h:K0 bs w o gs ms)(hs:∀x∈cs,x∈bs\/w.heap.size<=x):K0 cs w o gs ms:=
 ⟨λi a b=>(h.cells i a b).wide hs,λi a b=>(h.locals i a b).wide hs,λi a b=>(h.RW i a b).wide hs,λi a b=>(h.IH i a b).wide hs⟩
def K0.ix{bs:List Nat}{w:Wo}{o:OA}{gs:List ZL}{ms:Nat->MG}(h:K0 bs w o gs ms){i:Int}(h0:0<=i)(h1:i<(gs.length:Int)):Ix o gs.length i:=
 ⟨h0,h1,(h.cells i h0 h1).some⟩
def Y5(p:Nat)(vs:List Va):Int:=match vs[p]? with
 |some (.int _ i)=>i
 |_=>0
def zl1(I:Nat->Prop)(vs:List Va):Prop:=∃k:Nat,I k/\vs=[.int .i64 (k:Int)]
def J5(n:Nat)(p:Nat)(vs:List Va):Nat:=((n:Int)+1-Y5 p vs).toNat
def Xr{B:(List Va->Prop)->(List Va->Nat)->Int->Prop}(n:Nat){si:Int}(s:Nat)(hs:si=s)(I:Nat->Prop)(h0:I s)(hB:∀k:Nat,I k->B (zl1 I) (J5 n 0) (k:Int)) :
  ∃(IZ:List Va->Prop) (mu:List Va->Nat),IZ [.int .i64 si]/\∀i:Int,IZ [.int .i64 i]->B IZ mu i:=by
 refine⟨zl1 I,J5 n 0,⟨s,h0,by rw[hs]⟩,?_⟩;rintro i ⟨k,hI,he⟩;simp only[I6,I7,true_and,and_true] at he;subst he;exact hB k hI
def QB{n k:Nat}{I:Nat->Prop}(hk:k<n)(hI:I (k+1)):zl1 I [.int .i64 ((k:Int)+1)]/\J5 n 0 [.int .i64 ((k:Int)+1)]<J5 n 0 [.int .i64 (k:Int)]:=by
 refine⟨⟨k+1,hI,Qs⟩,?_⟩;simp only[J5,Y5,Ih];omega
def zod(I:Nat->Wo->Prop)(vs:List Va)(w:Wo):Prop:=∃k:Nat,I k w/\vs=[.int .i64 (k:Int)]
def Zk(n:Nat)(p:Nat)(vs:List Va)(_:Wo):Nat:=J5 n p vs
def P0{B:(List Va->Wo->Prop)->(List Va->Wo->Nat)->Int->Wo->Prop}{bs L:List Nat}{wv:Wo}(n:Nat){si:Int}(s:Nat)(hs:si=s)(I:Nat->Wo->Prop)(h0:∀wr,Q0 bs wv wr->(∀bq∈L,bq<wr.heap.size)->I s wr)(hB:∀(k:Nat) (w1:Wo),(∀bq∈L,bq<w1.heap.size)->I k w1->B (zod I) (Zk n 0) (k:Int) w1) :
  ∃(IZ:List Va->Wo->Prop) (mu:List Va->Wo->Nat),(∀wr,Q0 bs wv wr->(∀bq∈L,bq<wr.heap.size)->IZ [.int .i64 si] wr)/\∀(i:Int) (w1:Wo),(∀bq∈L,bq<w1.heap.size)->IZ [.int .i64 i] w1->B IZ mu i w1:=by
 refine⟨zod I,Zk n 0,λwr hx hq=>⟨s,h0 wr hx hq,by rw[hs]⟩,?_⟩;rintro i w1 hq ⟨k,hI,he⟩;simp only[I6,I7,true_and,and_true] at he;subst he;exact hB k w1 hq hI
def Z4{n k:Nat}{I:Nat->Wo->Prop}{wr w1:Wo}(hk:k<n)(hI:I (k+1) wr):zod I [.int .i64 ((k:Int)+1)] wr/\Zk n 0 [.int .i64 ((k:Int)+1)] wr<Zk n 0 [.int .i64 (k:Int)] w1:=by
 refine⟨⟨k+1,hI,Qs⟩,?_⟩;simp only[Zk,J5,Y5,Ih];omega
def zoc(I:Int->Nat->Prop)(vs:List Va):Prop:=∃(x:Int) (k:Nat),I x k/\vs=[.int .i64 x,.int .i64 (k:Int)]
def TM{B:(List Va->Prop)->(List Va->Nat)->Int->Int->Prop}(n:Nat){xi si:Int}(s:Nat)(hs:si=s)(I:Int->Nat->Prop)(h0:I xi s)(hB:∀(x:Int) (k:Nat),I x k->B (zoc I) (J5 n 1) x (k:Int)) :
  ∃(IZ:List Va->Prop) (mu:List Va->Nat),IZ [.int .i64 xi,.int .i64 si]/\∀(x i:Int),IZ [.int .i64 x,.int .i64 i]->B IZ mu x i:=by
 refine⟨zoc I,J5 n 1,⟨xi,s,h0,by rw[hs]⟩,?_⟩;rintro x i ⟨x',k,hI,he⟩;simp only[I6,I7,true_and,and_true] at he;obtain⟨rfl,rfl⟩:=he;exact hB x k hI
def QG{n k:Nat}{I:Int->Nat->Prop}{x x':Int}(hk:k<n)(hI:I x' (k+1)):zoc I [.int .i64 x',.int .i64 ((k:Int)+1)]/\J5 n 1 [.int .i64 x',.int .i64 ((k:Int)+1)]<J5 n 1 [.int .i64 x,.int .i64 (k:Int)]:=by
 refine⟨⟨x',k+1,hI,Qs⟩,?_⟩;simp only[J5,Y5,Ih,List.getElem?_cons_succ];omega
def YQ:maxLen<=9223372036854775807:=by simp[maxLen]
def zkr{k n:Nat}(h:(k:Int)<(n:Int))(hn:n<=maxLen):Qq .i64 ((k:Int)+1):=by
 have:=YQ;exact⟨Qo,Qo⟩
end Go.Proofs.YtjinkcmkgnofjaaGreat
