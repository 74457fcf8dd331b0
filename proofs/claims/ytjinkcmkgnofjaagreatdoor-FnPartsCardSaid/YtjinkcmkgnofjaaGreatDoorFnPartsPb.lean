/- Part 2 of what the law FnParts needs. -/
import Derived.Test.YtjinkcmkgnofjaaGreatDoorFnPartsPa
import Derived.RangeFuncRecord
import Derived.OrdersIn
import Derived.TacticsIn
import Derived.Scope
set_option linter.all false
set_option maxRecDepth 100000
set_option maxHeartbeats 8000000
namespace Go.Proofs.YtjinkcmkgnofjaaGreatDoor
open Go.RowKit
def M7(r:Option Nat):Fence:={ Fence.wide with round:=r }
def znm(r:Option Nat)(n:Nat):(M7 r).room n:=λd h=>by simp[M7,Fence.wide] at h
def KV{r:Option Nat}{n:Nat}{P:Program}{f:FuncId}{args:Array Va}{w:Wo}{R:Ending->Wo->Prop}(h:Calls P f args w R):CallsIn (M7 r) n P f args w R:=(callsIn_wide (n:=n)).2 h
def z1e{r:Option Nat}{n:Nat}{P:Program}{f:FuncId}{args:Array Va}{w:Wo}{R:Ending->Wo->Prop}(h:CallsIn (M7 r) n P f args w R):Calls P f args w R:=(callsIn_wide (n:=n)).1 h
def zix{r:Option Nat}{n m:Nat}{P:Program}{l:Nat}{f:FuncId}{tmps:Array Va}{asg body:Code}{w:Wo}{R:Ending->Wo->Prop}(h:RoundIn Fence.wide n P l f tmps asg body w R):RoundIn (M7 r) m P l f tmps asg body w R:=
 ⟨trivial,λc cs _=>h.2 c cs (room_wide _)⟩
def zxx{r:Option Nat}{n:Nat}{P:Program}{row:String}{args:Array Va}{w:Wo}{R:Va->Wo->Prop}(h:Rows P row args w R):RowsIn (M7 r) n P row args w R:=λc cs _=>by
 obtain⟨v,w',hr,hs⟩:=h c cs;exact⟨v,w',hr,(stepsIn_wide (P:=P)).2 hs⟩
def zrv{r:Option Nat}{P:Program}{o:Oper}{a:Act}{w:Wo}{next:Act->Wo->Prop}{Q:Exit->Act->Wo->Prop}(hd:∀c,o.op≠.defer c)(h:o.uponIn (M7 r) 0 P a next Q ((execOp a.eval o).run P w)):o.wpIn (M7 r) 0 P a w next Q:=
 ⟨λ_ _=>trivial,by rw[Oper.semAt_eq _ _ _ hd];exact h⟩
def z5s{r:Option Nat}{P:Program}{o:Oper}{a:Act}{w:Wo}{next:Act->Wo->Prop}{Q:Exit->Act->Wo->Prop}(hd:∀c,o.op≠.defer c)(h:o.wpIn (M7 r) 0 P a w next Q):o.uponIn (M7 r) 0 P a next Q ((execOp a.eval o).run P w):=by
 have:=h.2;rw[Oper.semAt_eq _ _ _ hd] at this;exact this
def zjs{P:Program}{o:Oper}{ρ:Operand->Va}{c:Call}(hc:o.op=.defer c)(w:Wo):(∃d w',(execOp ρ o).run P w=.ok (.defer d) w')\/∃x w',(execOp ρ o).run P w=.halt x w':=by
 simp only[execOp,hc,Sem.run_bind]
 cases hr:(resolve ρ c o.type).run P w with
 |ok d w'=>exact .inl ⟨d,w',by simp[Result.andThen]⟩
 |halt x w'=>exact .inr ⟨x,w',by simp[Result.andThen]⟩
def zoc{P:Program}{C:Wo->Prop}{o:Oper}{ρ:Operand->Va}{w:Wo}{v:Va}(h:Oper.quietUpon P C w v ((execOp ρ o).run P w)):∀c,o.op≠.defer c:=λc hc=>by
 rcases zjs (P:=P) (ρ:=ρ) hc w with ⟨d,w',hr⟩|⟨x,w',hr⟩ <;> (rw[hr] at h;exact h)
def BC{r:Option Nat}{P:Program}{C:Wo->Prop}{o:Oper}{a:Act}{K:Act->Prop}{K':Act->Wo->Prop}{Q':Exit->Act->Wo->Prop}{w:Wo}(hw:C w)(h:∀a w',C w'->K a->K' a w')(hh:o.quiet P a C K):o.wpIn (M7 r) 0 P a w K' Q':=by
 obtain⟨v,h1,h2⟩:=hh;have h3:=h1 w hw;refine zrv (zoc h3) ?_;unfold Oper.quietAt at h3;generalize (execOp a.eval o).run P w=res at *
 cases res with
 |ok n w'=>
  cases n <;> simp only[Oper.quietUpon] at h3 <;> simp only[Oper.uponIn]
  case value u=>
   obtain⟨e1,e2⟩:=h3;rw[e1,e2];exact h _ _ hw h2
  case skip=>
   obtain⟨e1,e2⟩:=h3;rw[e1,<-e2];exact h _ _ hw h2
  case enter f args=>
   obtain⟨e1,e2⟩:=h3;rw[e1];exact⟨λhx=>(by simp[M7,Fence.wide] at hx),KV (e2.mono λe kA ⟨he,hc⟩=>by subst he;exact h _ _ hc h2)⟩
 |halt x w'=>exact h3.elim
section
variable {P:Program}{b:Frame}{a:Act}{k:List Item}{cs:List Frame}{w:Wo}
def T5{c:Code}:step P (lone (b.atR a (.code (.scope c)::k)) cs w)=.next (lone (b.atR a (.code c :: .inScope c::k)) cs w):=
 step_lone_go (by simp[stepG,stepG.exec,Frame.atR])
def zij{c:Code}:step P (lone (b.atR a (.inScope c::k)) cs w)=.next (lone (b.atR a k) cs w):=
 step_lone_go (by simp[stepG,stepG.exec,Frame.atR])
end
section
variable {F:Fence}{n:Nat}{P:Program}{Q:Exit->Act->Wo->Prop}{a:Act}{w:Wo}
def DA{c:Code}(h:c.wpIn F n P (Exit.noGoto Q) a w):(Code.scope c).wpIn F n P Q a w:=by
 intro b k cs hro hb hr;have h0:(lone (b.atR a (.code (.scope c)::k)) cs w).fenced P F:=fenced_calm hb hr rfl;obtain⟨e,a₁,w₁,hq,vX⟩:=h b (.inScope c::k) cs hro hb hr
 cases e with
 |normal=>exact⟨.normal,a₁,w₁,hq,.head h0 T5 (StepsIn.trans vX (.one (fenced_calm hb hr rfl) zij))⟩
 |exit id=>exact⟨.exit id,a₁,w₁,hq,λk' hk=>.head h0 T5 (vX.1 k' (by simp[exitTo,hk])),λhr' hk=>(let ⟨k₁,h1,h2⟩:=vX.2 hr' (by simp[exitTo,hk]);⟨k₁,h1,.head h0 T5 h2⟩)⟩
 |goto l=>exact hq.elim
 |ret=>exact⟨_,a₁,w₁,hq,.of_steps (.one h0 T5) vX⟩
 |panic ch=>exact⟨_,a₁,w₁,hq,.of_steps (.one h0 T5) vX⟩
 |outgrown=>exact⟨_,a₁,w₁,hq,.of_steps (.one h0 T5) vX⟩
def Gc{c:Code}(I:Nat->Act->Wo->Prop){m:Nat}(h₀:I m a w)(round:∀m a w,I m a w->c.wpIn F n P (Exit.then (λa' w'=>∃j,j<m/\I j a' w') Q) a w):(Code.loop c).wpIn F n P Q a w:=by
 intro b k cs hro hb hr
 have key:∀m a w,I m a w->∃e a' w',Q e a' w'/\ArrivesIn (Machine.fenced P F) P (lone (b.atR a (.code c :: .inLoop c::k)) cs w) b k cs e a' w':=by
  intro m
  induction m using Nat.strongRecOn with
  |_ m ih=>
   intro a w hI;obtain⟨e,a₁,w₁,hq,vX⟩:=round m a w hI b (.inLoop c::k) cs hro hb hr
   cases e with
   |normal=>
    obtain⟨j,IW,hI₁⟩:=hq;obtain⟨e₂,a₂,w₂,hq₂,harr₂⟩:=ih j IW a₁ w₁ hI₁;exact⟨e₂,a₂,w₂,hq₂,.of_steps (StepsIn.trans vX (.one (fenced_calm hb hr rfl) stepR_inLoop)) harr₂⟩
   |exit id=>exact⟨_,a₁,w₁,hq,.pass (x:=.inLoop c) rfl (λ_ _=>.inl Qs) vX⟩
   |goto l=>exact⟨_,a₁,w₁,hq,.pass (x:=.inLoop c) rfl (λ_ _=>.inl Qs) vX⟩
   |ret=>exact⟨_,a₁,w₁,hq,.pass (x:=.inLoop c) rfl (λ_ _=>.inl Qs) vX⟩
   |panic ch=>exact⟨_,a₁,w₁,hq,.pass (x:=.inLoop c) rfl (λ_ _=>.inl Qs) vX⟩
   |outgrown=>exact⟨_,a₁,w₁,hq,.pass (x:=.inLoop c) rfl (λ_ _=>.inl Qs) vX⟩
 obtain⟨e,a',w',hq,vX⟩:=key m a w h₀;exact⟨e,a',w',hq,.of_steps (.one (fenced_calm hb hr rfl) stepR_loop) vX⟩
end
def zm8(v:Va)(vs:List Va):Sem Next:=do let d <-Deferred.ofValue v vs.toArray;invoke d.target d.args
def zcp(m:String)(v:Va)(vs:List Va):Sem Next:=invoke (.fn (.method m) #[]) (#[v]++vs.toArray)
def O7(P:Program)(v:Va)(vs:List Va)(w:Wo)(R:Ending->Wo->Prop):Prop:=
 (∃(f:FuncId) (as0:Array Va),(zm8 v vs).run P w=.ok (.enter f as0) w/\Calls P f as0 w R) \/
 ∃(l:Nat) (f:FuncId) (tmps:Array Va) (asg body:Code),(zm8 v vs).run P w=.ok (.round l f tmps asg body) w/\RoundIn Fence.wide 0 P l f tmps asg body w R
def O7.mono{P:Program}{v:Va}{vs:List Va}{w:Wo}{R R':Ending->Wo->Prop}(h:O7 P v vs w R)(hr:∀e w',R e w'->R' e w'):O7 P v vs w R':=by
 rcases h with ⟨f,as0,h1,h2⟩|⟨l,f,tmps,asg,body,h1,h2⟩
 ·exact .inl ⟨f,as0,h1,h2.mono hr⟩
 ·exact .inr ⟨l,f,tmps,asg,body,h1,h2.mono hr⟩
def zyd(C:V1)(t:TypeId):Bool:=match C.T t with
 |some { agg:=_,ks:=_,d:=.int _ }=>true
 |_=>false
def FN(C:V1):Op->Bool
 |.alloc _|.box _ _|.store _ _ _|.buildSlice _ _ _=>true
 |.call { callee:=.value (.func f),args:=_,argTypes:=_ } => !(zpx C.pf f).isSome
 |.call { callee:=.builtin b,args:=_,argTypes:=_ }=>match b with
  |.append|.copy=>true
  |_=>false
 |.call { callee:=.value (.tmp _),args:=_,argTypes:=_ } | .call { callee:=.invoke _ _,args:=_,argTypes:=_ }=>true
 |.makeSlice _ _ _|.makeMap _ _|.lookup _ _ _ _|.mapUpdate _ _ _ _|.insert _ _ _ _|.range _ _|.next _ _=>true
 |.convert s d _ => !(zyd C s&&zyd C d)
 |_=>false
def St.bT(S:St):St:={ S with old:=S.B.length }
def Q9(B:List Nat)(w w':Wo):Prop:=∀b∈B,w'.heap[b]? = w.heap[b]?
def z72:Builtin->List RK
 |.append=>[.cell .slice]
 |_=>[.cell (.int .i64)]
def zxg(args:Array Operand):Array Bool:=args.map λ| .const _=>true|_=>false
def Me(z:Nat):List (Nat×Operand)->Nat->List Va->Option (List Va)
 |[],_,[]=>some []
 |(i,_)::r,k,v::vs=>bif Nat.beq i k&&Nat.beq v.cells.toList.length z then
   match Me z r (k+1) vs with
   |some l=>some (v.cells.toList++l)
   |none=>none
  else none
 |_,_,_=>none
def zeo(C:V1)(S:St)(w:Wo)(d:Option Tmp)(t:TypeId)(cells:List Va)(e:Nat->EV)(K:St->Wo->Prop):Prop:=
 ∀b,w.heap.size<=b->EG C { S with L:=S.L++[(t,cells)],B:=S.B++[b] } d (.un (e S.L.length)) λS'=>K S' w
def NN(C:V1)(S:St)(w:Wo)(d:Option Tmp)(t:TypeId)(cells:List Va)(e:Nat->EV)(K:St->Wo->Prop):Prop:=
 bif C.pm then False else ∀b w',Q0 S.bs w w'->w.heap.size<=b->w'.heap[b]? = some (Obj.cells cells.toArray t (0,0))->b∉S.B->EG C S.bT d (.un (e b)) λS'=>K S' w'
def KE(l:List Nat)(x:Nat):Bool:=l.any λy=>Nat.beq y x
def zmc(C:V1)(o:Oper):Option (List Operand×List RK×Bool×(List Va->Sem Va)):=
 match o.op with
 |.makeSlice t l c=>some ([l,c],[.cell .slice],false,λ| [x,y]=>Instr.makeSlice t x y|_=>pure undef)
 |.makeMap t none=>some ([],[.cell .map],false,λ_=>Instr.makeMap t none)
 |.makeMap t (some r)=>some ([r],[.cell .map],false,λ| [x]=>Instr.makeMap t (some x)|_=>pure undef)
 |.lookup t x i ok=>match z6v C o.type with
  |some rk=>some ([x,i],rk,false,λ| [a,b]=>Instr.lookup t a b ok|_=>pure undef)
  |none=>none
 |.mapUpdate t m k x=>some ([m,k,x],[],true,λ| [a,b,c]=>do Instr.mapUpdate t a b c;pure undef|_=>pure undef)
 |.insert t m k x=>some ([m,k,x],[],true,λ| [a,b,c]=>do Instr.mapUpdate t a b c;pure undef|_=>pure undef)
 |.range t x=>some ([x],[.cell .ptr],false,λ| [a]=>Instr.range t a|_=>pure undef)
 |.convert s d x=>match z6v C o.type with
  |some rk=>some ([x],rk,false,λ| [a]=>convert s d a|_=>pure undef)
  |none=>none
 |_=>none
def zff{C:V1}{o:Oper}{xs:List Operand}{rk:List RK}{u:Bool}{f:List Va->Sem Va}(h:zmc C o=some (xs,rk,u,f))(ρ:Operand->Va){P:Program}{w w':Wo}{v:Va}(hr:(f (xs.map ρ)).run P w=.ok v w') :
  (execOp ρ o).run P w=.ok (if u then .skip else .value v) w':=by
 unfold zmc at h
 split at h
 case h_5 t m k x ho=>
  simp only[I0,Prod.mk.injEq] at h;obtain⟨rfl,rfl,rfl,rfl⟩:=h;simp only[List.map_cons,List.map_nil,Sem.run_bind,Sem.run_pure] at hr;simp only[execOp,ho,Sem.run_bind,Sem.run_pure,if_true];generalize (Instr.mapUpdate t (ρ m) (ρ k) (ρ x)).run P w=q at hr ⊢
  cases q <;> simp_all [Result.andThen]
 case h_6 t m k x ho=>
  simp only[I0,Prod.mk.injEq] at h;obtain⟨rfl,rfl,rfl,rfl⟩:=h;simp only[List.map_cons,List.map_nil,Sem.run_bind,Sem.run_pure] at hr;simp only[execOp,ho,Sem.run_bind,Sem.run_pure,if_true];generalize (Instr.mapUpdate t (ρ m) (ρ k) (ρ x)).run P w=q at hr ⊢
  cases q <;> simp_all [Result.andThen]
 all_goals
  (try split at h)
  all_goals first
   |cases h;done
   | (rename_i ho _ _ _
      simp only[I0,Prod.mk.injEq] at h;obtain⟨rfl,rfl,rfl,rfl⟩:=h;simp only[List.map_cons,List.map_nil] at hr;simp[execOp,ho,hr]
      done)
   | (rename_i ho
      simp only[I0,Prod.mk.injEq] at h;obtain⟨rfl,rfl,rfl,rfl⟩:=h;simp only[List.map_cons,List.map_nil] at hr;simp[execOp,ho,hr])
def MC(w:Wo)(b:Nat)(s:ByteArray)(p:Nat):Wo:={ w with heap:=w.heap.setIfInBounds b (.stringIter s p) }
def z5v(C:V1)(S:St)(w:Wo)(o:Oper)(pc:List (Nat×Bool))(K:St->Wo->Prop):Prop:=
 match o.op with
 |.alloc t=>match C.T t with
  |some ty=>bif ty.ks.contains .other then False
   else match o.dst with
    |some d=>bif KE C.vis d then NN C S w o.dst t (ty.ks.map zv) (λb=>.el (some ⟨b,0,none⟩) 0) K else zeo C S w o.dst t (ty.ks.map zv) (λi=>.loc i 0) K
    |none=>False
  |none=>False
 |.box t x=>match Ho S pc x with
  |some v=>match o.dst with
    |some d=>bif KE C.vis d then NN C S w o.dst t v.cells.toList (λb=>.el (some ⟨b,0,none⟩) 0) K else zeo C S w o.dst t v.cells.toList (λi=>.loc i 0) K
    |none=>False
  |none=>False
 |.buildSlice t n parts=>match C.T t,Lh S pc (parts.toList.map (·.2)) with
  |some { agg:=_,ks:=_,d:=.slice e z },some vs=>match C.T e,Me z parts.toList 0 vs with
   |some _,some cells=>bif Nat.beq n vs.length&&Nat.blt 0 z&&Nat.blt 0 n&&Nat.blt (n*z) 16777216 then
     (match o.dst with
      |some d=>bif KE C.vis d then NN C S w o.dst e cells (λb=>.v (.slice (some ⟨b,0,none⟩) n n)) K else zeo C S w o.dst e cells (λi=>.ls i n) K
      |none=>False)
    else False
   |_,_=>False
  |_,_=>False
 |.store t x y=>match C.T t,zf0 S pc x,Ho S pc y with
  |some ty,some (.loc id off),some v=>match S.L[id]? with
   |some (t',cs)=>bif Nat.beq v.cells.toList.length ty.ks.length&&Nat.ble (off+v.cells.toList.length) cs.length&&Zk v.cells.toList && !KE S.lk id then
     K { S with L:=S.L.set id (t',cs.take off++v.cells.toList++cs.drop (off+v.cells.toList.length)) } w
    else False
   |none=>False
  |some ty,some (.le id i m),some v=>match S.L[id]? with
   |some (t',cs)=>bif Nat.beq v.cells.toList.length ty.ks.length&&Nat.beq v.cells.toList.length 1&&Zk [v] && !KE S.lk id then
     (i.toNat+m<cs.length)/\znj (cs.map z7r) λvs=>cs.set (i.toNat+m) v=vs/\K { S with L:=S.L.set id (t',vs) } w
    else False
   |none=>False
  |some ty,some (.el ob n),some v=>bif Nat.beq v.cells.toList.length ty.ks.length&&Zk v.cells.toList && !C.pm&&Nat.blt 0 ty.ks.length then
    Xh S.bs w ob n v.cells.toList.length/\K S (Rw w ob n v.cells.toList)
   else False
  |some ty,some (.v (.pointer ob)),some v=>bif Nat.beq v.cells.toList.length ty.ks.length&&Zk v.cells.toList && !C.pm&&Nat.blt 0 ty.ks.length then
    Xh S.bs w ob 0 v.cells.toList.length/\K S (Rw w ob 0 v.cells.toList)
   else False
  |_,_,_=>False
 |.call { callee:=.value (.func f),args:=args,argTypes:=_ }=>match zpx C.ef f,Lh S pc args.toList with
  |some rks,some vs=>bif C.pm then False else ∀wr,Q0 S.bs w wr->(∀b∈S.B,b<wr.heap.size)->Jx S wr (zoe S pc args.toList)
    (Calls C.P f vs.toArray wr λe w'=>DF rks λr=>e=.returned r/\Q9 S.B wr w'/\EG C S.bT o.dst (.un (.v r)) λS'=>K S' w')
  |_,_=>False
 |.call { callee:=.builtin bi,args:=args,argTypes:=ts }=>match Lh S pc args.toList with
  |some vs=>bif C.pm then False else ∀wr,Q0 S.bs w wr->(∀b∈S.B,b<wr.heap.size)->Jx S wr (zoe S pc args.toList)
    (DF (z72 bi) λr=>∃w',(builtin bi ts o.type (zxg args) vs.toArray).run C.P wr=.ok (.value r) w'/\Q9 S.B wr w'/\EG C S.bT o.dst (.un (.v r)) λS'=>K S' w')
  |none=>False
 |.call { callee:=.value (.tmp t),args:=args,argTypes:=_ }=>match Ho S pc (.tmp t),Lh S pc args.toList,z6v C o.type with
  |some v,some vs,some rks=>bif C.pm then False else ∀wr,Q0 S.bs w wr->(∀b∈S.B,b<wr.heap.size)->Jx S wr (zoe S pc args.toList)
    (O7 C.P v vs wr λe w'=>DF rks λr=>e=.returned r/\Q9 S.B wr w'/\EG C S.bT o.dst (.un (.v r)) λS'=>K S' w')
  |_,_,_=>False
 |.call { callee:=.invoke rc m,args:=args,argTypes:=_ }=>match Ho S pc rc,Lh S pc args.toList,z6v C o.type with
  |some v,some vs,some rks=>bif C.pm then False else ∀wr,Q0 S.bs w wr->(∀b∈S.B,b<wr.heap.size)->Jx S wr (zoe S pc args.toList)
    (∃(f:FuncId) (as0:Array Va),(zcp m v vs).run C.P wr=.ok (.enter f as0) wr/\Calls C.P f as0 wr λe w'=>DF rks λr=>e=.returned r/\Q9 S.B wr w'/\EG C S.bT o.dst (.un (.v r)) λS'=>K S' w')
  |_,_,_=>False
 |.next it true=>match Ho S pc it with
  |some (.pointer ob)=>bif C.pm then False else ∀wr,Q0 S.bs w wr->(∀b∈S.B,b<wr.heap.size)->
    ∃(b:Nat) (s:ByteArray) (pos:Nat),ob=some ⟨b,0,none⟩/\b∉S.B/\wr.heap[b]? = some (.stringIter s pos)/\
     (s.size<=pos->EG C S.bT o.dst (.un (.v (.tuple #[.bool false]))) λS'=>K S' wr)/\
     (pos<s.size->EG C S.bT o.dst (.un (.v (.tuple #[.bool true,.int .i64 pos,.int .i32 (Utf8.decode s pos).1]))) λS'=>K S' (MC wr b s (pos+(Utf8.decode s pos).2)))
  |_=>False
 |_=>match zmc C o with
  |some (xs,rk,u,f)=>match Lh S pc xs with
   |some vs=>bif C.pm then False else ∀wr,Q0 S.bs w wr->(∀b∈S.B,b<wr.heap.size)->
     (bif u then (match o.dst with
      |none=>∃w',(f vs).run C.P wr=.ok undef w'/\Q9 S.B wr w'/\K S.bT w'
      |some _=>False)
     else DF rk λr=>∃w',(f vs).run C.P wr=.ok r w'/\Q9 S.B wr w'/\EG C S.bT o.dst (.un (.v r)) λS'=>K S' w')
   |none=>False
  |none=>False
structure Km (S S':St):Prop where
 B:∀(id b:Nat),S.B[id]? = some b->S'.B[id]? = some b
 ty:∀(id:Nat) (t:TypeId) (cs:List Va),S.L[id]? = some (t,cs)->∃nL:List Va,S'.L[id]? = some (t,nL)
 lk:∀id∈S.lk,id∈S'.lk/\S'.L[id]? = S.L[id]?
def Km.refl(S:St):Km S S:=⟨λ_ _ h=>h,λ_ _ cs h=>⟨cs,h⟩,λ_ h=>⟨h,rfl⟩⟩
def Km.trans{S S' uE:St}(h:Km S S')(k:Km S' uE):Km S uE:=
 ⟨λid b hb=>k.B id b (h.B id b hb),λid t cs hc=>(let ⟨cs1,h1⟩:=h.ty id t cs hc;k.ty id t cs1 h1),λid hi=>⟨(k.lk id (h.lk id hi).1).1,((k.lk id (h.lk id hi).1).2).trans (h.lk id hi).2⟩⟩
def Km.bQ{S S':St}(h:Km S S')(d:Option Tmp)(sv:SV):Km S (S'.bQ d sv):=by
 cases d <;> exact⟨h.B,h.ty,h.lk⟩
def Zs.bQ{S:St}{w wr:Wo}(h:Zs S w wr)(d:Option Tmp)(sv:SV):Zs (S.bQ d sv) w wr:=by
 cases d <;> exact⟨h.ext,h.loc,h.len,h.oN,h.fresh⟩
def Le{l:List Nat}{x:Nat}(h:KE l x=false):x∉l:=by
 intro hx;have:KE l x:=by simp only[KE,List.any_eq_true];exact⟨x,hx,Nat.beq_refl x⟩
 rw[h] at this;cases this
structure Gt (S:St):Prop where
 old:S.old<=S.B.length
 lk:∀id∈S.lk,id<S.L.length
def Gt.bQ{S:St}(h:Gt S)(d:Option Tmp)(sv:SV):Gt (S.bQ d sv):=by
 cases d <;> exact⟨h.old,h.lk⟩
def Gt.bT{S:St}(h:Gt S):Gt S.bT:=⟨I7 _,h.lk⟩
def Zs.push{S:St}{w wr:Wo}(h:Zs S w wr)(ho:S.old<=S.B.length)(t:TypeId)(cells:List Va) :
  Zs { S with L:=S.L++[(t,cells)],B:=S.B++[wr.heap.size] } w (wr.alloc (.cells cells.toArray t)):=by
 have IW:∀b∈S.B,b<wr.heap.size:=λb hb=>by
  obtain⟨id,bB⟩:=List.getElem?_of_mem hb;have hl:id<S.L.length:=by rw[h.len];exact(I8.1 bB).1
  obtain⟨b',gV,hh⟩:=h.loc id (S.L[id]).1 (S.L[id]).2 (by rw[Il hl]);rw[bB] at gV;cases gV;exact za8 hh
 have hbs:(S.B++[wr.heap.size]).take S.old=S.B.take S.old:=List.take_append_of_le_length ho;refine⟨?_,λid t' cs hl=>?_,by simp[h.len],?_,λid b bB hb=>?_⟩
 ·show Q0 ((S.B++[wr.heap.size]).take S.old) w _;rw[hbs];exact h.ext.alloc _
 ·by_cases hi:id<S.L.length
  ·have hl':S.L[id]? = some (t',cs):=by rw[<-hl];exact(Ip hi).symm
   obtain⟨b,hb,hh⟩:=h.loc id t' cs hl';refine⟨b,?_,(Below.heap_alloc wr _ b (za8 hh)).trans hh⟩;show (S.B++[wr.heap.size])[id]? = some b;rw[Ip (by rw[<-h.len];exact hi)];exact hb
  ·have hi':id=S.L.length:=by
    have:id<(S.L++[(t,cells)]).length:=(I8.1 hl).1;simp at this;omega
   subst hi';simp only[List.getElem?_concat_length,I0,Prod.mk.injEq] at hl;obtain⟨rfl,rfl⟩:=hl;refine⟨wr.heap.size,?_,heap_alloc_new wr _⟩;show (S.B++[wr.heap.size])[S.L.length]? = _;rw[h.len];simp
 ·refine List.nodup_append.2 ⟨h.oN,Qs,λx hx y hy=>?_⟩;simp only[IA] at hy;subst hy;have:=IW x hx;omega
 ·have gV:(S.B++[wr.heap.size])[id]? = some b:=hb
  by_cases hi:id<S.B.length
  ·rw[Ip hi] at gV;exact h.fresh id b bB gV
  ·have:id=S.B.length:=by
    have:id<(S.B++[wr.heap.size]).length:=(I8.1 gV).1;simp at this;omega
   subst this;simp at gV;subst gV;exact h.ext.size
def Zs.age{S:St}{w wr Wp:Wo}(h:Zs S w wr)(hk:Q9 S.B wr Wp):Zs S.bT Wp Wp:=
 ⟨Q0.refl _ _,λid t cs hl=>by
  obtain⟨b,hb,hh⟩:=h.loc id t cs hl;exact⟨b,hb,(hk b (List.mem_of_getElem? hb)).trans hh⟩,h.len,h.oN,λid b bB hb=>by
  have:id<S.B.length:=(I8.1 hb).1;simp only[St.bT] at bB;omega⟩
def Zs.lt{S:St}{w wr:Wo}(h:Zs S w wr):∀b∈S.B,b<wr.heap.size:=λb hb=>by
 obtain⟨id,bB⟩:=List.getElem?_of_mem hb;have hl:id<S.L.length:=by rw[h.len];exact(I8.1 bB).1
 obtain⟨b',gV,hh⟩:=h.loc id (S.L[id]).1 (S.L[id]).2 (by rw[Il hl]);rw[bB] at gV;cases gV;exact za8 hh
def Zs.C49{S:St}{w wr:Wo}(h:Zs S w wr){i j b:Nat}(hi:S.B[i]? = some b)(hj:S.B[j]? = some b):i=j:=by
 obtain⟨h1l,h1e⟩:=I8.1 hi;obtain⟨h2l,h2e⟩:=I8.1 hj;have hp:=List.pairwise_iff_getElem.1 h.oN;rcases Nat.lt_trichotomy i j with IW|heq|hgt
 ·exact Ir (h1e.trans h2e.symm) (hp i j h1l h2l IW)
 ·exact heq
 ·exact Ir (h2e.trans h1e.symm) (hp j i h2l h1l hgt)
def zm1{P:Program}{T:TypeId->Option Ty}(hT:zv9 P T){t:TypeId}{ty:Ty}(ht:T t=some ty)(kD:ty.ks.contains .other=false) :
  ∃i z,P.info? t=some i/\i.zero=some z/\z.cells=(ty.ks.map zv).toArray:=by
 obtain⟨i,z,hi,hz,_,hks⟩:=(hT.facts ht).info;refine⟨i,z,hi,hz,?_⟩
 have h0:∀(l:List Va),(l.map K2).contains .other=false->(l.map K2).map zv=l:=by
  intro l
  induction l with
  |nil=>intro _;rfl
  |cons x r ih=>
   intro hc;simp only[List.map_cons,List.contains_cons,H'] at hc;have hx:K2 x≠.other:=by intro e;rw[e] at hc;simp at hc
   simp only[List.map_cons,ih hc.2,<-zkw hx]
 have h1:=h0 z.cells.toList (by rw[hks];exact kD);rw[hks] at h1;rw[h1,Array.toArray_toList]
def EV.gE{S S':St}(h:zay S S'):∀{e:EV} {u:Va},EV.den S e u->EV.den S' e u
 |.v _,_,h'=>h'
 |.el _ _,_,h'=>h'
 |.loc _ _,_,⟨b,hb,h'⟩=>⟨b,h _ _ hb,h'⟩
 |.ls _ _,_,⟨b,hb,h'⟩=>⟨b,h _ _ hb,h'⟩
 |.le _ _ _,_,⟨b,hb,h'⟩=>⟨b,h _ _ hb,h'⟩
 |.no,_,h'=>h'
 |.kb _,_,h'=>h'
def Kl.mono{n:Nat}{S S':St}{ops:Array Oper}{D:Nat->Prop}{a:Act}(h:Kl n S ops D a)(hl:zay S S')(hF:S'.F=S.F)(hr:S'.r=S.r):Kl n S' ops D a:=
 ⟨⟨h.fit.size,λi s hs=>by
  rw[hF] at hs;have:=h.fit.fits i s hs
  cases s with
  |un x=>exact EV.gE hl this
  |gd r pc x=>
   intro hrr;rw[hr] at hrr;have h1:=this hrr;exact⟨λhp=>EV.gE hl (h1.1 hp),h1.2⟩⟩,λi pc x hx=>by rw[hF,hr] at hx;exact h.dn i pc x hx,λi r pc x hx=>by rw[hF] at hx;rw[hr];exact h.st i r pc x hx⟩
def zmi(cs:List Va):Nat->List Va->List Va
 |_,[]=>cs
 |k,v::r=>zmi (cs.set k v) (k+1) r
def D0:∀(vs cs:List Va) (k:Nat),k+vs.length<=cs.length->zmi cs k vs=cs.take k++vs++cs.drop (k+vs.length)
 |[],cs,k,_=>by simp[zmi]
 |v::r,cs,k,h=>by
  simp only[zmi,List.length_cons] at *;rw[D0 r (cs.set k v) (k+1) (by simp;omega)];have hk:k<cs.length:=Qo;rw[List.take_succ_eq_append_getElem (by simpa using hk),List.getElem_set_self,List.take_set_of_le (I7 _),List.drop_set_of_lt Qo];simp[Nat.add_assoc,Nat.add_comm 1]
def EN:∀(vs:List Va) (w:Wo) (b k n:Nat) (cs:List Va) (t:TypeId) (fz:Nat×Nat),w.heap[b]? = some (.cells cs.toArray t fz)->
  (dV w ⟨b,k,none⟩ n vs).heap[b]? = some (.cells (zmi cs (k+n) vs).toArray t fz)
 |[],_,_,_,_,_,_,_,h=>h
 |v::r,w,b,k,n,cs,t,fz,h=>by
  simp only[dV,zmi];refine EN r _ b k (n+1) (cs.set (k+n) v) t fz ?_;rw[Addr.add_lit];simp only[World.setCell,Array.getElem?_modify,if_true,h,Option.map_some,Option.isSome_none,Bool.false_eq_true,if_false];simp
structure zwe (C:V1) (S:St) (w:Wo) (o:Oper) (a:Act) (K:St->Wo->Prop) (N:Act->Wo->Prop):Prop where
 go:∀(S1:St) (w' Wp:Wo) (e:EV) (v:Va),Km S S1->S1.F=S.F->S1.r=S.r->Gt S1->Zs S1 w' Wp->(C.pm->w'=w/\S1.old=S.old)->EV.den S1 e v->(∀x,o.dst=some x->x<C.n/\x<4000)->K (S1.bQ o.dst (.un e)) w'->N (a.put o.dst v) Wp
def zl2{C:V1}{S:St}{w:Wo}{o:Oper}{a:Act}{K:St->Wo->Prop}{N:Act->Wo->Prop}(hN:zwe C S w o a K N){wr:Wo}(hw:Zs S w wr)(WK:Gt S){t:TypeId}{cells:List Va}{e:Nat->EV}(h:zeo C S w o.dst t cells e K){v:Va}(hv:EV.den { S with L:=S.L++[(t,cells)],B:=S.B++[wr.heap.size] } (e S.L.length) v):N (a.put o.dst v) (wr.alloc (.cells cells.toArray t)):=by
 obtain⟨h1,h2⟩:=YO (h wr.heap.size hw.ext.size);refine hN.go { S with L:=S.L++[(t,cells)],B:=S.B++[wr.heap.size] } w _ (e S.L.length) v ⟨λid b hb=>?_,λid t' cs hc=>⟨cs,?_⟩,λid hi=>⟨hi,?_⟩⟩ rfl rfl ⟨by simp;have:=WK.old;omega,λid hi=>by have:=WK.lk id hi;simp;omega⟩ (hw.push WK.old t cells) (λ_=>⟨rfl,rfl⟩) hv h2 h1
 ·show (S.B++[wr.heap.size])[id]? = some b;rw[Ip (I8.1 hb).1];exact hb
 ·show (S.L++[(t,cells)])[id]? = some (t',cs);rw[Ip (I8.1 hc).1];exact hc
 ·exact Ip (WK.lk id hi)
def zl3{C:V1}{S:St}{w:Wo}{o:Oper}{a:Act}{K:St->Wo->Prop}{N:Act->Wo->Prop}(hN:zwe C S w o a K N){wr:Wo}(hw:Zs S w wr)(WK:Gt S){t:TypeId}{cells:List Va}{e:Nat->EV}(h:NN C S w o.dst t cells e K){v:Va}(hv:EV.den S.bT (e wr.heap.size) v):N (a.put o.dst v) (wr.alloc (.cells cells.toArray t)):=by
 have IW:=hw.lt;unfold NN at h
 have jZ:C.pm=false:=by
  cases hp:C.pm with
  |false=>rfl
  |true=>rw[hp] at h;exact h.elim
 rw[jZ] at h;simp only[cond_false] at h;obtain⟨h1,h2⟩:=YO (h wr.heap.size (wr.alloc (.cells cells.toArray t)) (hw.ext.alloc _) hw.ext.size (heap_alloc_new wr _) (λhb=>by have:=IW _ hb;omega));exact hN.go S.bT _ _ _ v ⟨λ_ _ h=>h,λ_ _ cs h=>⟨cs,h⟩,λid hi=>⟨hi,rfl⟩⟩ rfl rfl WK.bT (hw.age λb hb=>Below.heap_alloc wr _ b (IW b hb)) (λhp=>by rw[jZ] at hp;cases hp) hv h2 h1
def DC{z:Nat}(hz:0<z):∀{ps:List (Nat×Operand)} {k:Nat} {vs cells:List Va},Me z ps k vs=some cells->ps.length=vs.length/\cells.length=vs.length*z/\
  ∀(pre:List Va),pre.length=k*z->∀(init:List Va),init.length=vs.length*z->
   Instr.fill (λi=>some (i*z,z)) (pre++init).toArray ((ps.map (·.1)).zip vs)=some (pre++cells).toArray
 |[],k,[],cells,h=>by
  simp only[Me,I0] at h;subst h;refine⟨rfl,Qs,λpre _ init hi=>?_⟩;have:init=[]:=List.eq_nil_of_length_eq_zero (by simpa using hi);subst this;simp[Instr.fill]
 |(i,x)::ps,k,v::vs,cells,h=>by
  simp only[Me] at h
  cases hb:(Nat.beq i k&&Nat.beq v.cells.toList.length z) with
  |false=>rw[hb] at h;cases h
  |true=>
   rw[hb] at h;simp only[cond_true] at h;simp only[A'] at hb;have e1:i=k:=Ib hb.1;have e2:v.cells.toList.length=z:=Ib hb.2;subst e1
   split at h
   ·rename_i l hl;simp only[I0] at h;subst h;obtain⟨h1,h2,h3⟩:=DC hz hl;refine⟨by simp[h1],by simp[h2,e2,Nat.add_mul];omega,λpre hp init hi=>?_⟩;have sI:v.cells.size=z:=by simpa using e2
    have hvl:(v::vs).length*z=z+vs.length*z:=by simp[Nat.add_mul,Nat.add_comm]
    rw[hvl] at hi
    have hc:(decide (v.cells.size≠z)||decide (i*z+v.cells.size>(pre++init).toArray.size))=false:=by
     simp only[sI,List.size_toArray,Io,hp,hi];simp
    simp only[List.map_cons,List.zip_cons_cons,Instr.fill];rw[hc];simp only[Bool.false_eq_true,if_false]
    have CV7:∀(l:List Va) (j:Nat) (arr:List Va),(l.zipIdx j).foldl (λcs (c,j)=>cs.setIfInBounds (i*z+j) c) arr.toArray=(zmi arr (i*z+j) l).toArray:=by
     intro l
     induction l with
     |nil=>intro j arr;rfl
     |cons c l ih=>
      intro j arr;simp only[List.zipIdx_cons,List.foldl_cons,zmi];rw[show (arr.toArray.setIfInBounds (i*z+j) c)=(arr.set (i*z+j) c).toArray by simp];exact ih (j+1) _
    have hz2:(v.cells.zipIdx.foldl (λcs (c,j)=>cs.setIfInBounds (i*z+j) c) (pre++init).toArray)=(pre++v.cells.toList++init.drop z).toArray:=by
     rw[<-Array.foldl_toList,Array.toList_zipIdx];rw[CV7 v.cells.toList 0 (pre++init),D0 _ _ _ (by simp[hp,hi,sI])];have t1:(pre++init).take (i*z)=pre:=by rw[<-hp];exact List.take_left
     have t2:(pre++init).drop (i*z+z)=init.drop z:=by rw[<-hp,List.drop_append];simp
     simp only[Nat.add_zero,e2,t1,t2]
    rw[hz2];have:=h3 (pre++v.cells.toList) (by simp[hp,sI,Nat.add_mul]) (init.drop z) (by simp[hi])
    simpa using this
   ·cases h
 |[],_,_::_,_,h=>by simp[Me] at h
 |(_,_)::_,_,[],_,h=>by simp[Me] at h
def zfi{P:Program}(t:TypeId)(v:Va)(w:Wo):(newVar t v).run P w=.ok ⟨w.heap.size,0,none⟩ (w.alloc (.cells v.cells t)):=by
 simp[newVar,newRow]
def Zs.A98{S:St}{w wr:Wo}(h:Zs S w wr){id b off:Nat}{t:TypeId}{cs vs:List Va}(hl:S.L[id]? = some (t,cs))(hb:S.B[id]? = some b)(hlen:off+vs.length<=cs.length)(hold:S.old<=S.B.length) :
  Zs { S with L:=S.L.set id (t,cs.take off++vs++cs.drop (off+vs.length)) } w (dV wr ⟨b,off,none⟩ 0 vs):=by
 obtain⟨b',gV,hh⟩:=h.loc id t cs hl;rw[hb] at gV;cases gV;have bB:id<S.L.length:=(I8.1 hl).1
 have Ab5:b∈S.bs\/w.heap.size<=b:=by
  by_cases ho:S.old<=id
  ·exact .inr (h.fresh id b ho hb)
  ·refine .inl ?_;have:(S.B.take S.old)[id]? = some b:=by rw[List.getElem?_take,C' Qo];exact hb
   exact List.mem_of_getElem? this
 obtain⟨r1,r2,r3⟩:=D2 vs wr ⟨b,off,none⟩ 0;refine⟨⟨r1.trans h.ext.os,r2.trans h.ext.tape,r3.trans h.ext.output,by rw[M9];exact h.ext.size,λk hk hnb=>?_⟩,λid' t' nL hl'=>?_,by simp[h.len],h.oN,h.fresh⟩
 ·refine(OR vs wr ⟨b,off,none⟩ 0 k ?_).trans (h.ext.block k hk hnb);rintro rfl;rcases Ab5 with hm|hm
  ·exact hnb hm
  ·exact Nat.lt_irrefl _ (Nat.lt_of_lt_of_le hk hm)
 ·by_cases he:id=id'
  ·subst he;simp only[List.getElem?_set_self bB,I0,Prod.mk.injEq] at hl';obtain⟨rfl,rfl⟩:=hl';refine⟨b,hb,?_⟩;rw[EN vs wr b off 0 cs _ _ hh,Nat.add_zero,D0 _ _ _ hlen]
  ·have hl2:S.L[id']? = some (t',nL):=by rw[<-hl'];exact(List.getElem?_set_ne he).symm
   obtain⟨b2,cD,hh2⟩:=h.loc id' t' nL hl2;refine⟨b2,cD,?_⟩
   rw[OR vs wr ⟨b,off,none⟩ 0 b2 (by
    show b2≠b;rintro rfl;exact he (h.C49 hb cD))]
   exact hh2
def Zs.A99{S:St}{w wr:Wo}(h:Zs S w wr){a:Addr}{n:Nat}{vs:List Va}(hb:a.block∉S.bs)(IW:a.block<w.heap.size):Zs S (dV w a n vs) (dV wr a n vs):=by
 obtain⟨r1,r2,r3⟩:=D2 vs wr a n;obtain⟨q1,q2,q3⟩:=D2 vs w a n;refine⟨⟨by rw[r1,q1];exact h.ext.os,by rw[r2,q2];exact h.ext.tape,by rw[r3,q3];exact h.ext.output,by rw[M9,M9];exact h.ext.size,λk hk hnb=>?_⟩,λid t cs hl=>?_,h.len,h.oN,λid b ho bB=>by rw[M9];exact h.fresh id b ho bB⟩
 ·rw[M9] at hk;have he:=h.ext.block k hk hnb
  by_cases hka:k=a.block
  ·subst hka;exact zj2 vs wr w a n he
  ·rw[OR vs wr a n k hka,OR vs w a n k hka];exact he
 ·obtain⟨b,bB,hh⟩:=h.loc id t cs hl;refine⟨b,bB,?_⟩;rw[OR vs wr a n b]
  ·exact hh
  ·rintro rfl
   by_cases ho:S.old<=id
   ·have:=h.fresh id _ ho bB;omega
   ·refine hb (List.mem_of_getElem? (i:=id) ?_);show (S.B.take S.old)[id]? = _;rw[List.getElem?_take,C' Qo];exact bB
def Xh.run{P:Program}{S:St}{w wr:Wo}(h:Zs S w wr){ob:OA}{n:Nat}{vs:List Va}(hx:Xh S.bs w ob n vs.length)(Bq0:0<vs.length)(h1:Zk vs){a:Addr}(ho:ob=some a) :
  (storeCells (a.add n) vs 0).run P wr=.ok () (dV wr (a.add n) 0 vs)/\a.block∉S.bs/\a.block<w.heap.size:=by
 obtain⟨a',ha,hb,hc⟩:=hx;rw[ho] at ha;cases ha;obtain⟨⟨u,hu⟩,_⟩:=hc n (I7 _) Qo;have IW:a.block<w.heap.size:=by have:=World.block_lt_of_cell? w _ hu;rwa[ZW] at this
 refine⟨VA vs wr (a.add n) 0 (JV h1) λj _ hj=>?_,hb,IW⟩;obtain⟨⟨u',hu'⟩,hf'⟩:=hc (n+j) Qo Qo;have he:=h.ext.block a.block IW hb;rw[JJ];refine⟨⟨u',?_⟩,?_⟩
 ·rw[<-hu'];exact World.cell?_of_block (w:=w) (by rw[ZW];exact he)
 ·rw[<-hf'];exact frozen?_of_block (by rw[ZW];exact he)
def zfq:∀(vs:List Va) (w:Wo) (a:Addr) (n k:Nat),dV w (a.add n) k vs=dV w a (n+k) vs
 |[],_,_,_,_=>rfl
 |v::r,w,a,n,k=>by
  simp only[dV,JJ];exact zfq r _ a n (k+1)
def zmk{P:Program}{T:TypeId->Option Ty}(hT:zv9 P T){t:TypeId}{ty:Ty}(ht:T t=some ty){a:Addr}{v:Va}(hl:v.cells.toList.length=ty.ks.length){w w':Wo}(h:(storeCells a v.cells.toList).run P w=.ok () w'):(storeVar t a v).run P w=.ok () w':=by
 obtain⟨i,z,hi,_,sI,_⟩:=(hT.facts ht).info;have hn:¬v.cells.size≠ty.ks.length:=by simpa using hl
 simp only[storeVar,Sem.run_bind,Yy hi,Result.andThen_ok,sI,Sem.run_ite,B' hn,Sem.run_pure,h]
def zve(parts:Array (Nat×Operand))(f:Operand->Va):(parts.map λ(i,x)=>(i,f x)).toList=(parts.toList.map (·.1)).zip ((parts.toList.map (·.2)).map f):=by
 have:(parts.map λ(i,x)=>(i,f x)).toList=parts.toList.map λ(i,x)=>(i,f x):=Qs
 rw[this];generalize parts.toList=q
 induction q with
 |nil=>rfl
 |cons y q ih=>simp[ih]
theorem zem{C:V1}{S:St}{w:Wo}{o:Oper}{a:Act}{K:St->Wo->Prop}{N:Act->Wo->Prop}(hN:zwe C S w o a K N){wr:Wo}(hw:Zs S w wr)(WK:Gt S){t:TypeId}{cells:List Va}{e1 e2:Nat->EV}{v:Va}(h:match o.dst with
   |some d=>bif KE C.vis d then NN C S w o.dst t cells e1 K else zeo C S w o.dst t cells e2 K
   |none=>False)(h1:EV.den S.bT (e1 wr.heap.size) v)(h2:EV.den { S with L:=S.L++[(t,cells)],B:=S.B++[wr.heap.size] } (e2 S.L.length) v):N (a.put o.dst v) (wr.alloc (.cells cells.toArray t)):=by
 split at h
 ·rename_i d hd
  cases hm:KE C.vis d with
  |true=>
   rw[hm] at h;simp only[cond_true] at h;exact zl3 hN hw WK h h1
  |false=>
   rw[hm] at h;simp only[cond_false] at h;exact zl2 hN hw WK h h2
 ·exact h.elim
def z41{S:St}{w wr:Wo}(hw:Zs S w wr)(b:Nat):(S.B++[b])[S.L.length]? = some b:=by rw[hw.len];simp
theorem Kh{Q:Exit->Act->Wo->Prop}{C:V1}{S:St}{w wr:Wo}{a:Act}{K:St->Wo->Prop}{N:Act->Wo->Prop}{o:Oper}(hdn:o.dst=none)(hN:zwe C S w o a K N)(hw:Zs S w wr)(WK:Gt S)(hT:zv9 C.P C.T){t:TypeId}{x y:Operand}(ho:o.op=.store t x y){ty:Ty}(ht:C.T t=some ty){e:EV}(hx:EV.den S e (a.eval x)){v:Va}(hy:a.eval y=v)(h:match e with
   |.loc id off=>match S.L[id]? with
    |some (t',cs)=>bif Nat.beq v.cells.toList.length ty.ks.length&&Nat.ble (off+v.cells.toList.length) cs.length&&Zk v.cells.toList && !KE S.lk id then
      K { S with L:=S.L.set id (t',cs.take off++v.cells.toList++cs.drop (off+v.cells.toList.length)) } w
     else False
    |none=>False
   |.le id i m=>match S.L[id]? with
    |some (t',cs)=>bif Nat.beq v.cells.toList.length ty.ks.length&&Nat.beq v.cells.toList.length 1&&Zk [v] && !KE S.lk id then
      (i.toNat+m<cs.length)/\znj (cs.map z7r) λvs=>cs.set (i.toNat+m) v=vs/\K { S with L:=S.L.set id (t',vs) } w
     else False
    |none=>False
   |.el ob n=>bif Nat.beq v.cells.toList.length ty.ks.length&&Zk v.cells.toList && !C.pm&&Nat.blt 0 ty.ks.length then
     Xh S.bs w ob n v.cells.toList.length/\K S (Rw w ob n v.cells.toList)
    else False
   |.v (.pointer ob)=>bif Nat.beq v.cells.toList.length ty.ks.length&&Zk v.cells.toList && !C.pm&&Nat.blt 0 ty.ks.length then
     Xh S.bs w ob 0 v.cells.toList.length/\K S (Rw w ob 0 v.cells.toList)
    else False
   |_=>False):o.uponIn (M7 C.rd) 0 C.P a N Q ((execOp a.eval o).run C.P wr):=by
 have hgo:∀(S1:St) (w' Wp:Wo),Km S S1->S1.F=S.F->S1.r=S.r->Gt S1->Zs S1 w' Wp->(C.pm->w'=w/\S1.old=S.old)->K S1 w'->N (a.put o.dst undef) Wp:=λS1 w' Wp h1 h2 h3 h4 h5 h7 h6=>
  hN.go S1 w' Wp (.v undef) undef h1 h2 h3 h4 h5 h7 rfl (λx hx=>by rw[hdn] at hx;cases hx) (by rw[hdn];exact h6)
 have We:∀{ad:Addr} {w':Wo},a.eval x=.pointer (some ad)->v.cells.toList.length=ty.ks.length->(storeCells ad v.cells.toList).run C.P wr=.ok () w'->(execOp a.eval o).run C.P wr=.ok .skip w':=λ{ad w'} h1 h2 h3=>by
  have:=zmk hT ht h2 h3;simp[execOp,ho,h1,hy,Instr.storeAt,Instr.sureAddr,this]
 have SS:∀{id:Nat} {t':TypeId} {cs r:List Va},S.L[id]? = some (t',cs)->KE S.lk id=false->Km S { S with L:=S.L.set id (t',r) }:=λ{id t' cs r} hl hm=>
  ⟨λ_ _ h=>h,λid' t2 cs2 h2=>by
   show ∃nL,(S.L.set id (t',r))[id']? = some (t2,nL)
   by_cases he:id=id'
   ·subst he;rw[hl] at h2;cases h2;exact⟨r,List.getElem?_set_self (I8.1 hl).1⟩
   ·exact⟨cs2,by rw[List.getElem?_set_ne he];exact h2⟩,λid' hi=>⟨hi,by
   show (S.L.set id (t',r))[id']? = _;exact List.getElem?_set_ne (by rintro rfl;exact Le hm hi)⟩⟩
 cases e with
 |loc id off=>
  obtain⟨b,hb,hxp⟩:=hx
  dsimp only at h
  split at h
  ·rename_i t' cs hl
   cases hc:(Nat.beq v.cells.toList.length ty.ks.length&&Nat.ble (off+v.cells.toList.length) cs.length&&Zk v.cells.toList && !KE S.lk id) with
   |false=>rw[hc] at h;exact h.elim
   |true=>
    rw[hc] at h;simp only[cond_true] at h;simp only[A',ID] at hc;obtain⟨⟨⟨c1,c2⟩,c3⟩,c4⟩:=hc;have c1:=Ib c1;have c2:=Ik c2
    have hrc:=VA (P:=C.P) v.cells.toList wr ⟨b,off,none⟩ 0 (JV c3) (λj _ hj=>by
     rw[Addr.add_lit,Hf hw hl hb];obtain⟨b',gV,hh⟩:=hw.loc id t' cs hl;rw[hb] at gV;cases gV;have IW:off+j<cs.length:=Qo;refine⟨⟨cs[off+j],Il IW⟩,?_⟩;simp[World.frozen?,hh])
    rw[We hxp c1 hrc];exact hgo _ _ _ (SS hl c4) rfl rfl ⟨WK.old,λid hi=>by simpa using WK.lk id hi⟩ (hw.A98 hl hb c2 WK.old) (λ_=>⟨rfl,rfl⟩) h
  ·exact h.elim
 |le id i m=>
  obtain⟨b,hb,h0,hxp⟩:=hx
  dsimp only at h
  split at h
  ·rename_i t' cs hl
   cases hc:(Nat.beq v.cells.toList.length ty.ks.length&&Nat.beq v.cells.toList.length 1&&Zk [v] && !KE S.lk id) with
   |false=>rw[hc] at h;exact h.elim
   |true=>
    rw[hc] at h;simp only[cond_true] at h;simp only[A',ID] at hc;obtain⟨⟨⟨c1,c2⟩,c3⟩,c4⟩:=hc;have c1:=Ib c1;have c2:=Ib c2;obtain⟨IW,h⟩:=h;obtain⟨_,_,rfl,h⟩:=P7 h
    have hvc:v.cells.toList=[v]:=by
     cases v with
     |agg cs=>cases c3
     |_=>rfl
    rw[<-hvc] at c3
    have hrc:=VA (P:=C.P) v.cells.toList wr ⟨b,i.toNat+m,none⟩ 0 (JV c3) (λj _ hj=>by
     rw[Addr.add_lit,Hf hw hl hb];obtain⟨b',gV,hh⟩:=hw.loc id t' cs hl;rw[hb] at gV;cases gV;have IW:i.toNat+m+j<cs.length:=Qo;refine⟨⟨cs[i.toNat+m+j],Il IW⟩,?_⟩;simp[World.frozen?,hh])
    rw[We hxp c1 hrc];have kE:=hw.A98 (vs:=v.cells.toList) hl hb (off:=i.toNat+m) Qo WK.old
    have he:cs.take (i.toNat+m)++v.cells.toList++cs.drop (i.toNat+m+v.cells.toList.length)=cs.set (i.toNat+m) v:=by
     rw[<-D0 _ _ _ Qo,hvc];rfl
    rw[he] at kE;exact hgo _ _ _ (SS hl c4) rfl rfl ⟨WK.old,λid hi=>by simpa using WK.lk id hi⟩ kE (λ_=>⟨rfl,rfl⟩) h
  ·exact h.elim
 |el ob n=>
  obtain⟨ad,hob,hxp⟩:=hx
  dsimp only at h
  cases hc:(Nat.beq v.cells.toList.length ty.ks.length&&Zk v.cells.toList && !C.pm&&Nat.blt 0 ty.ks.length) with
  |false=>rw[hc] at h;exact h.elim
  |true=>
   rw[hc] at h;simp only[cond_true] at h;simp only[A',ID] at hc;obtain⟨⟨⟨c1,c2⟩,c3⟩,c4⟩:=hc;have c1:=Ib c1;have c4:0<ty.ks.length:=Ik c4;obtain⟨h1,h2⟩:=h;obtain⟨hr,hbs,IW⟩:=h1.run (P:=C.P) hw Qo c2 hob;rw[We hxp c1 hr,zfq,Nat.add_zero];subst hob;exact hgo S _ _ (Km.refl S) rfl rfl WK (hw.A99 hbs IW) (λhp=>by rw[hp] at c3;cases c3) h2
 |v x0=>
  cases x0 with
  |pointer ob=>
    simp only[EV.den] at hx
    dsimp only at h
    cases hc:(Nat.beq v.cells.toList.length ty.ks.length&&Zk v.cells.toList && !C.pm&&Nat.blt 0 ty.ks.length) with
    |false=>rw[hc] at h;exact h.elim
    |true=>
     rw[hc] at h;simp only[cond_true] at h;simp only[A',ID] at hc;obtain⟨⟨⟨c1,c2⟩,c3⟩,c4⟩:=hc;have c1:=Ib c1;have c4:0<ty.ks.length:=Ik c4;obtain⟨h1,h2⟩:=h;obtain⟨ad,hob,_⟩:=id h1;obtain⟨hr,hbs,IW⟩:=h1.run (P:=C.P) hw Qo c2 hob;rw[Addr.add_zero'] at hr;rw[We (by rw[hx,hob]) c1 hr];subst hob;exact hgo S _ _ (Km.refl S) rfl rfl WK (hw.A99 hbs IW) (λhp=>by rw[hp] at c3;cases c3) h2
  |_=>exact h.elim
 |ls id len=>exact h.elim
 |no=>exact h.elim
 |kb x=>exact h.elim
def zui{C:V1}(hT:zv9 C.P C.T)(RA:∀f ks,zpx C.ef f=some ks->P3 C.P f){S:St}{w wr:Wo}{ops:Array Oper}{D:Nat->Prop}{o:Oper}{a:Act}{pc:List (Nat×Bool)}{K:St->Wo->Prop}{N:Act->Wo->Prop}{Q:Exit->Act->Wo->Prop}(hf:Kl C.n S ops D a)(hw:Zs S w wr)(WK:Gt S)(hp:EF ops a pc)(hN:zwe C S w o a K N)(h:z5v C S w o pc K)(hnd:∀t x y,o.op=.store t x y->o.dst=none):o.wpIn (M7 C.rd) 0 C.P a wr N Q:=by
 refine zrv (λc hc=>by unfold z5v at h;simp[hc,zmc] at h) ?_;unfold z5v at h
 split at h
 case h_1 t ho=>
  split at h
  ·rename_i ty ht
   cases hc:ty.ks.contains .other with
   |true=>rw[hc] at h;exact h.elim
   |false=>
    rw[hc] at h;simp only[cond_false] at h;obtain⟨i,z,hi,hz,hzc⟩:=zm1 hT ht hc
    have We:(execOp a.eval o).run C.P wr=.ok (.value (.pointer (some ⟨wr.heap.size,0,none⟩))) (wr.alloc (.cells (ty.ks.map zv).toArray t)):=by
     simp[execOp,ho,Instr.alloc,zeroValue,JW hi,hz,zfi,hzc]
    rw[We];simp only[Oper.uponIn];exact zem hN hw WK h ⟨_,rfl,by rw[Addr.add_zero']⟩ ⟨wr.heap.size,z41 hw _,rfl⟩
  ·exact h.elim
 case h_2 t x ho=>
  split at h
  ·rename_i v hv;have hv':=QY hf.fit hp hv
   have We:(execOp a.eval o).run C.P wr=.ok (.value (.pointer (some ⟨wr.heap.size,0,none⟩))) (wr.alloc (.cells v.cells.toList.toArray t)):=by
    simp[execOp,ho,Instr.box,zfi,hv']
   rw[We];simp only[Oper.uponIn];exact zem hN hw WK h ⟨_,rfl,by rw[Addr.add_zero']⟩ ⟨wr.heap.size,z41 hw _,rfl⟩
  ·exact h.elim
 case h_3 t n parts ho=>
  split at h
  ·rename_i ag ks e z vs ht hvs;have hv':=XY hf.fit hp hvs
   split at h
   ·rename_i ety cells hte Cw0
    cases hb:(Nat.beq n vs.length&&Nat.blt 0 z&&Nat.blt 0 n&&Nat.blt (n*z) 16777216) with
    |false=>rw[hb] at h;exact h.elim
    |true=>
     rw[hb] at h;simp only[cond_true] at h;simp only[A'] at hb;obtain⟨⟨⟨b1,b2⟩,b3⟩,b4⟩:=hb;have b1:=Ib b1;have b2:0<z:=Ik b2;have b3:0<n:=Ik b3;have b4:n*z<16777216:=Ik b4;obtain⟨d,hu,_,pI⟩:=(hT.facts ht).desc;obtain⟨inf,rfl,pH,Cy0⟩:=MT pI.symm;obtain⟨i2,z2,hi2,hz2,DX9,_⟩:=(hT.facts hte).info;rw[pH] at hi2;cases hi2;obtain⟨_,qT,AR2⟩:=DC b2 Cw0;have hf0:=AR2 [] Qs (((Array.range (n*z)).map (z2.cells[· % z2.cells.size]!)).toList) (by simp[b1]);simp only[List.nil_append,Array.toArray_toList] at hf0;have AG8:=zve parts a.eval;rw[hv'] at AG8
     have hn0:¬n*z=0:=by
      have:=Nat.mul_pos b3 b2;omega
     have Cv6:¬n*z>2 ^ 24:=by
      have:(2:Nat) ^ 24=16777216:=rfl;omega
     have We:(execOp a.eval o).run C.P wr=.ok (.value (.slice (some ⟨wr.heap.size,0,none⟩) n n)) (wr.alloc (.cells cells.toArray e)):=by
      simp only[execOp,ho,Instr.buildSlice,Sem.run_bind,run_underlying hu,Result.andThen_ok,Yy pH,Cy0,Sem.run_ite,B' Cv6,B' hn0,zeroValue,JW pH,hz2,Sem.run_pure,AG8,hf0,newRow,run_newObj];rfl
     rw[We];simp only[Oper.uponIn];exact zem hN hw WK h rfl ⟨wr.heap.size,z41 hw _,rfl⟩
   ·exact h.elim
  ·exact h.elim
 case h_4 t x y ho=>
  have hdn:=hnd t x y ho
  split at h
  ·rename_i ty id off v ht hx hy;exact Kh hdn hN hw WK hT ho ht (Yo hf.fit hp hx) (QY hf.fit hp hy) h
  ·rename_i ty id i m v ht hx hy;exact Kh hdn hN hw WK hT ho ht (Yo hf.fit hp hx) (QY hf.fit hp hy) h
  ·rename_i ty ob n v ht hx hy;exact Kh hdn hN hw WK hT ho ht (Yo hf.fit hp hx) (QY hf.fit hp hy) h
  ·rename_i ty ob v ht hx hy;exact Kh hdn hN hw WK hT ho ht (Yo hf.fit hp hx) (QY hf.fit hp hy) h
  ·exact h.elim
 case h_5 f args ts ho=>
  split at h
  ·rename_i rks vs hef hvs;have hv:=XY hf.fit hp hvs;have ea:args.map a.eval=vs.toArray:=by rw[<-hv,<-Array.toList_map,Array.toArray_toList]
   have jZ:C.pm=false:=by
    cases hp:C.pm with
    |false=>rfl
    |true=>rw[hp] at h;exact h.elim
   rw[jZ] at h;simp only[cond_false] at h;rw[zox (RA f rks hef) args ts a ho,ea];simp only[Oper.uponIn];refine⟨λhx=>(by simp[M7,Fence.wide] at hx),KV ((Jx.out hw (h wr hw.ext hw.lt)).mono λe w' he=>?_)⟩;obtain⟨r,rfl,hk,hp⟩:=UG he;obtain⟨h1,h2⟩:=YO hp;exact hN.go S.bT _ _ (.v r) r ⟨λ_ _ h=>h,λ_ _ cs h=>⟨cs,h⟩,λid hi=>⟨hi,rfl⟩⟩ rfl rfl WK.bT (hw.age hk) (λhp=>by rw[jZ] at hp;cases hp) rfl h2 h1
  ·exact h.elim
 case h_6 bi args ts ho=>
  split at h
  ·rename_i vs hvs;have hv:=XY hf.fit hp hvs;have ea:args.map a.eval=vs.toArray:=by rw[<-hv,<-Array.toList_map,Array.toArray_toList]
   have jZ:C.pm=false:=by
    cases hp:C.pm with
    |false=>rfl
    |true=>rw[hp] at h;exact h.elim
   rw[jZ] at h;simp only[cond_false] at h;obtain⟨r,w',We,hk,hp⟩:=UG (Jx.out hw (h wr hw.ext hw.lt))
   have uH:(execOp a.eval o).run C.P wr=.ok (.value r) w':=by
    rw[<-We];simp only[execOp,ho,resolve,Sem.run_bind,Sem.run_pure,Result.andThen_ok,invoke,ea];rfl
   rw[uH];obtain⟨h1,h2⟩:=YO hp;exact hN.go S.bT _ _ (.v r) r ⟨λ_ _ h=>h,λ_ _ cs h=>⟨cs,h⟩,λid hi=>⟨hi,rfl⟩⟩ rfl rfl WK.bT (hw.age hk) (λhp=>by rw[jZ] at hp;cases hp) rfl h2 h1
  ·exact h.elim
 case h_7 t args ts ho=>
  split at h
  ·rename_i v vs rks hv0 hvs hrk;have hv1:=QY hf.fit hp hv0;have hv:=XY hf.fit hp hvs;have ea:args.map a.eval=vs.toArray:=by rw[<-hv,<-Array.toList_map,Array.toArray_toList]
   have jZ:C.pm=false:=by
    cases hp:C.pm with
    |false=>rfl
    |true=>rw[hp] at h;exact h.elim
   rw[jZ] at h;simp only[cond_false] at h
   have hgo:∀(e:Ending) (w':Wo),(DF rks λr=>e=.returned r/\Q9 S.B wr w'/\EG C S.bT o.dst (.un (.v r)) λS'=>K S' w')->(match e with
     |.returned v=>N (a.put o.dst v) w'
     |.panicked chain=>Q (.panic chain) a w'
     |.outgrown=>LetsOut Q):=λe w' he=>by
    obtain⟨r,rfl,hk,hp⟩:=UG he;obtain⟨h1,h2⟩:=YO hp;exact hN.go S.bT _ _ (.v r) r ⟨λ_ _ h=>h,λ_ _ cs h=>⟨cs,h⟩,λid hi=>⟨hi,rfl⟩⟩ rfl rfl WK.bT (hw.age hk) (λhp=>by rw[jZ] at hp;cases hp) rfl h2 h1
   rcases Jx.out hw (h wr hw.ext hw.lt) with ⟨f,as0,We,hc⟩|⟨l,f,tmps,asg,body,We,hc⟩
   ·have uH:(execOp a.eval o).run C.P wr=.ok (.enter f as0) wr:=by
     rw[<-We];simp only[execOp,ho,resolve,zm8,ea,hv1]
    rw[uH];simp only[Oper.uponIn];exact⟨λhx=>(by simp[M7,Fence.wide] at hx),KV (hc.mono λe w' he=>by have:=hgo e w' he;cases e <;> exact this)⟩
   ·have uH:(execOp a.eval o).run C.P wr=.ok (.round l f tmps asg body) wr:=by
     rw[<-We];simp only[execOp,ho,resolve,zm8,ea,hv1]
    rw[uH];simp only[Oper.uponIn];exact⟨λhx=>(by simp[M7,Fence.wide] at hx),zix (hc.mono λe w' he=>by have:=hgo e w' he;cases e <;> exact this)⟩
  ·exact h.elim
 case h_8 rc m args ts ho=>
  split at h
  ·rename_i v vs rks hv0 hvs hrk;have hv1:=QY hf.fit hp hv0;have hv:=XY hf.fit hp hvs;have ea:args.map a.eval=vs.toArray:=by rw[<-hv,<-Array.toList_map,Array.toArray_toList]
   have jZ:C.pm=false:=by
    cases hp:C.pm with
    |false=>rfl
    |true=>rw[hp] at h;exact h.elim
   rw[jZ] at h;simp only[cond_false] at h;obtain⟨f,as0,We,hc⟩:=Jx.out hw (h wr hw.ext hw.lt)
   have uH:(execOp a.eval o).run C.P wr=.ok (.enter f as0) wr:=by
    rw[<-We];simp only[execOp,ho,resolve,Sem.run_bind,Sem.run_pure,Result.andThen_ok,zcp,ea,hv1]
   rw[uH];simp only[Oper.uponIn];refine⟨λhx=>(by simp[M7,Fence.wide] at hx),KV (hc.mono λe w' he=>?_)⟩;obtain⟨r,rfl,hk,hp⟩:=UG he;obtain⟨h1,h2⟩:=YO hp;exact hN.go S.bT _ _ (.v r) r ⟨λ_ _ h=>h,λ_ _ cs h=>⟨cs,h⟩,λid hi=>⟨hi,rfl⟩⟩ rfl rfl WK.bT (hw.age hk) (λhp=>by rw[jZ] at hp;cases hp) rfl h2 h1
  ·exact h.elim
 case h_9 it ho=>
  split at h
  ·rename_i ob hx;have eJ:=QY hf.fit hp hx
   have jZ:C.pm=false:=by
    cases hp:C.pm with
    |false=>rfl
    |true=>rw[hp] at h;exact h.elim
   rw[jZ] at h;simp only[cond_false] at h;obtain⟨b,s,pos,rfl,hb,hh,h1,h2⟩:=h wr hw.ext hw.lt;have hg:(getObj b).run C.P wr=.ok (.stringIter s pos) wr:=by simp[getObj,Sem.run,hh]
   by_cases IW:pos<s.size
   ·have SS:(setObj b (.stringIter s (pos+(Utf8.decode s pos).2))).run C.P wr=.ok () (MC wr b s (pos+(Utf8.decode s pos).2)):=by
     simp[setObj,Sem.run,hh,MC]
    have We:(execOp a.eval o).run C.P wr=.ok (.value (.tuple #[.bool true,.int .i64 pos,.int .i32 (Utf8.decode s pos).1])) (MC wr b s (pos+(Utf8.decode s pos).2)):=by
     simp[execOp,ho,eJ,Instr.next,hg,IW,SS,goInt]
    rw[We];simp only[Oper.uponIn];obtain⟨g1,g2⟩:=YO (h2 IW)
    have hk:Q9 S.B wr (MC wr b s (pos+(Utf8.decode s pos).2)):=λx hx=>by
     have cU:b≠x:=λe=>hb (e▸hx)
     simp only[MC];rw[Array.getElem?_setIfInBounds_ne cU]
    exact hN.go S.bT _ _ (.v _) _ ⟨λ_ _ h=>h,λ_ _ cs h=>⟨cs,h⟩,λid hi=>⟨hi,rfl⟩⟩ rfl rfl WK.bT (hw.age hk) (λhp=>by rw[jZ] at hp;cases hp) rfl g2 g1
   ·have We:(execOp a.eval o).run C.P wr=.ok (.value (.tuple #[.bool false])) wr:=by
     simp[execOp,ho,eJ,Instr.next,hg,IW]
    rw[We];simp only[Oper.uponIn];obtain⟨g1,g2⟩:=YO (h1 (Nat.le_of_not_lt IW));exact hN.go S.bT _ _ (.v _) _ ⟨λ_ _ h=>h,λ_ _ cs h=>⟨cs,h⟩,λid hi=>⟨hi,rfl⟩⟩ rfl rfl WK.bT (hw.age λ_ _=>rfl) (λhp=>by rw[jZ] at hp;cases hp) rfl g2 g1
  ·exact h.elim
 case h_10=>
  split at h
  ·rename_i xs rk u f hpr
   split at h
   ·rename_i vs hvs;have hv:=XY hf.fit hp hvs
    have jZ:C.pm=false:=by
     cases hp:C.pm with
     |false=>rfl
     |true=>rw[hp] at h;exact h.elim
    rw[jZ] at h;simp only[cond_false] at h;have h:=h wr hw.ext hw.lt
    cases u with
    |true=>
     simp only[cond_true] at h
     split at h
     ·rename_i hd;obtain⟨w',hr,hk,hK⟩:=h;rw[<-hv] at hr;rw[zff hpr a.eval hr];simp only[if_true,Oper.uponIn];exact hN.go S.bT _ _ (.v undef) undef ⟨λ_ _ h=>h,λ_ _ cs h=>⟨cs,h⟩,λid hi=>⟨hi,rfl⟩⟩ rfl rfl WK.bT (hw.age hk) (λhp=>by rw[jZ] at hp;cases hp) rfl (λx hx=>by rw[hd] at hx;cases hx) (by rw[hd];exact hK)
     ·exact h.elim
    |false=>
     simp only[cond_false] at h;obtain⟨r,w',hr,hk,hp⟩:=UG h;rw[<-hv] at hr;rw[zff hpr a.eval hr];simp only[Bool.false_eq_true,if_false,Oper.uponIn];obtain⟨h1,h2⟩:=YO hp;exact hN.go S.bT _ _ (.v r) r ⟨λ_ _ h=>h,λ_ _ cs h=>⟨cs,h⟩,λid hi=>⟨hi,rfl⟩⟩ rfl rfl WK.bT (hw.age hk) (λhp=>by rw[jZ] at hp;cases hp) rfl h2 h1
   ·exact h.elim
  ·exact h.elim
def zp4{G:Prop->Prop}{d:TD}{op:BinOp}{a b:Va}{K:Va->Prop}(h:zng G d op a b K):∃v,K v:=by
 have kk:∀{p:Prop} [Decidable p] {A:Prop},(bif decide p then A else False)->A:=λ{p _ A} h=>by
  by_cases hk:p
  ·simpa[hk] using h
  ·simp[hk] at h
 unfold zng at h
 split at h <;> first
  |exact h.elim
  |exact⟨_,h⟩
  |exact⟨_,h.2⟩
  |exact⟨_,(kk h).2⟩
  |exact⟨_,kk h⟩
def zmb{a b:Operand}{cb:Bool}{x y:Va}{K:Va->Prop}(h:Bk a b cb x y K):∃v,K v:=by
 unfold Bk at h
 split at h <;> first|exact h.elim|exact⟨_,h⟩
def zni{C:V1}{S:St}{w:Wo}{ops:Array Oper}{o:Oper}{pc:List (Nat×Bool)}{K:EV->K7->Prop}(h:z6g C S w ops o pc K):∃e fact,K e fact:=by
 unfold z6g at h
 split at h
 case h_3=>
  split at h
  ·split at h
   ·split at h
    ·exact⟨_,_,h⟩
    ·exact h.elim
   ·split at h
    ·exact⟨_,_,h⟩
    ·exact h.elim
   ·split at h
    ·obtain⟨v,h⟩:=zmb h;exact⟨_,_,h⟩
    ·exact h.elim
  ·exact h.elim
 case h_5=>
  split at h
  ·rename_i ty u v ht hu hv
   cases hb:z7f ty.d _ C.wr with
   |true=>
    rw[hb] at h;simp only[cond_true] at h;obtain⟨v,h⟩:=Ka h;exact⟨_,_,h.2⟩
   |false=>
    rw[hb] at h;simp only[cond_false] at h;obtain⟨v,h⟩:=zp4 h;exact⟨_,_,h⟩
  ·exact h.elim
 case h_14=>
  (repeat' split at h) <;> first
   |exact h.elim
   |(obtain⟨l,_,h⟩:=NK h;obtain⟨u,_,h⟩:=Es h;exact⟨_,_,h.2⟩)
 case h_19=>
  split at h
  ·obtain⟨l,_,h⟩:=P7 h
   split at h
   ·exact⟨_,_,h.2⟩
   ·exact h.elim
  ·rename_i ty ob ht hx
   cases hk:ty.ks.isEmpty with
   |true=>rw[hk] at h;exact h.elim
   |false=>
    rw[hk] at h;obtain⟨l,_,h⟩:=P7 h
    split at h
    ·exact⟨_,_,h.2⟩
    ·exact h.elim
  ·(repeat' split at h) <;> first
    |exact h.elim
    |exact⟨_,_,h⟩
  ·(repeat' split at h) <;> first
    |exact h.elim
    |(obtain⟨v,h⟩:=Ka h;exact⟨_,_,h.2⟩)
  ·exact h.elim
 case h_21=>
  (repeat' split at h) <;> first
   |exact h.elim
   |(obtain⟨v,h⟩:=UG h;exact⟨_,_,h.2⟩)
 case h_16=>
  split at h
  ·rename_i ty v ht hx
   cases ho':ty.d.AO9 with
   |true=>rw[ho'] at h;exact h.elim
   |false=>rw[ho'] at h;exact⟨_,_,h⟩
  ·exact h.elim
 case h_17=>
  (repeat' split at h) <;> first
   |exact h.elim
   |(obtain⟨v,h⟩:=UG h;exact⟨_,_,h.2⟩)
 all_goals
  (repeat' split at h) <;> first
   |exact h.elim
   |exact⟨_,_,h⟩
   |exact⟨_,_,h.2⟩
   |(obtain⟨v,h⟩:=Ka h;exact⟨_,_,h.2⟩)
def Eb(o:Oper):Bool:=
 match o.op,o.dst with
 |.store _ _ _,some _=>true
 |.defer _,_=>true
 |_,_=>false
def z4i(dn:Nat->Bool)(o:Oper):Bool:=
 match o.guard with
 |some (j,_)=>dn j
 |none=>true
def zsi(S:St)(ops:Array Oper)(o:Oper):Bool:=match o.guard with
 |none=>false
 |some (j,_)=>match (ops[j]?).bind (·.dst) with
  |some d=>match S.F.get d with
   |some (.gd _ _ .no)=>true
   |_=>false
  |none=>false
def N5(S:St)(ops:Array Oper)(pc:List (Nat×Bool))(o:Oper):Bool:=zsi S ops o||o.op.operands.toList.any λx=>match zf0 S pc x with
 |some .no=>true
 |_=>false
def Ef{n:Nat}{S:St}{ops:Array Oper}{a:Act}(hf:AJ n S ops a){pc:List (Nat×Bool)}{o:Oper}(pG:zqy S ops o=some pc)(h:N5 S ops pc o):¬EF ops a pc:=λhp=>by
 unfold N5 at h;rcases Bool.or_eq_true_iff.1 h with h|h
 ·unfold zsi at h
  split at h
  ·cases h
  ·rename_i j want hg
   split at h
   ·rename_i d hd
    split at h
    ·rename_i r vG hv;unfold zqy at pG;rw[hg] at pG;simp only[hd,hv] at pG
     cases hr:Nat.beq r S.r with
     |false=>rw[hr] at pG;cases pG
     |true=>
      rw[hr] at pG;simp only[cond_true,I0] at pG;subst pG;exact((hf.fits d _ hv (Ib hr)).1 λp hm=>hp p (I1 _ hm)).elim
    ·cases h
   ·cases h
 ·obtain⟨x,_,hx⟩:=List.any_eq_true.1 h
  split at hx
  ·rename_i hv;exact(Yo hf hp hv).elim
  ·cases hx
def zdb(C:V1)(ops:Array Oper)(dn:Nat->Bool)(o:Oper)(S:St)(w:Wo)(K:K7->St->Wo->Prop):Prop:=
 bif z4i dn o && !Eb o then
  match zqy S ops o with
  |none=>False
  |some pc=>bif N5 S ops pc o then EG C S o.dst (zik S pc .no) λS'=>K none S' w else bif FN C o.op then (match pc with
   |[]=>z5v C S w o [] (K none)
   |pc=>bif zvg S ops pc then Ds S ops pc (z5v C S w o pc (K none))/\(Ds S ops pc False->EG C S o.dst (zik S pc .no) λS'=>K none S' w) else False)
   else z6g C S w ops o pc λe f=>EG C S o.dst (zik S pc e) λS'=>K f S' w
 else False
structure z3d (C:V1) (S:St) (w:Wo) (ops:Array Oper) (D:Nat->Prop) (o:Oper) (a:Act) (S':St) (w':Wo) (a':Act) (Wp:Wo):Prop where
 fit:Kl C.n S' ops D a'
 rel:Zs S' w' Wp
 wf:Gt S'
 fr:Km S S'
 r:S'.r=S.r
 put:∃v,a'=a.put o.dst v
 pm:C.pm->w'=w/\S'.old=S.old
def zqz{S:St}{ops:Array Oper}{D:Nat->Prop}{n:Nat}{a:Act}(hf:Kl n S ops D a){o:Oper}{pc:List (Nat×Bool)}(h:zqy S ops o=some pc)(hg:∀j b,o.guard=some (j,b)->D j):∀p∈pc,D p.1:=by
 unfold zqy at h
 split at h
 ·simp only[I0] at h;subst h;intro p hp;cases hp
 ·rename_i j want hgd
  split at h
  ·rename_i d hd
   split at h
   ·simp only[I0] at h;subst h;intro p hp;simp only[IA] at hp;subst hp;exact hg j want hgd
   ·rename_i r vG b hv
    cases hr:Nat.beq r S.r with
    |false=>rw[hr] at h;cases h
    |true=>
     rw[hr] at h;simp only[cond_true,I0] at h;subst h;intro p hp;rcases Ii.1 hp with rfl|hp
     ·exact hg j want hgd
     ·have:=Ib hr;subst this;exact hf.dn d vG _ hv p hp
   ·rename_i r vG hv
    cases hr:Nat.beq r S.r with
    |false=>rw[hr] at h;cases h
    |true=>
     rw[hr] at h;simp only[cond_true,I0] at h;subst h;intro p hp;rcases Ii.1 hp with rfl|hp
     ·exact hg j want hgd
     ·have:=Ib hr;subst this;exact hf.dn d vG _ hv p hp
   ·cases h
  ·cases h
structure zr0 (C:V1):Prop where
 T:zv9 C.P C.T
 pf:∀f ks,zpx C.pf f=some ks->P3 C.P f
 ef:∀f ks,zpx C.ef f=some ks->P3 C.P f
 mixed:C.P.follows .mixedOrders=true
def zdc{C:V1}(E:zr0 C){ops:Array Oper}{D D':Nat->Prop}{dn:Nat->Bool}{i:Nat}{o:Oper}{S:St}{w wr:Wo}{a:Act}{K:K7->St->Wo->Prop}{N:Act->Wo->Prop}{Q:Exit->Act->Wo->Prop}(hu:BA ops)(ho:ops[i]? = some o)(hi:¬D i)(hD:∀j,D j->zwa ops j)(hDD:∀j,D j->D' j)(hdn:∀j,dn j->zwa ops j->D j)(hf:Kl C.n S ops D a)(hw:Zs S w wr)(WK:Gt S)(hN:∀f S' w' a' Wp,K f S' w'->z3d C S w ops D' o a S' w' a' Wp->N a' Wp)(h:zdb C ops dn o S w K) :
  if Region.wanted o (yielded ops a.tmps) then o.wpIn (M7 C.rd) 0 C.P a wr N Q else N (a.put o.dst undef) wr:=by
 unfold zdb at h
 cases hb:(z4i dn o && !Eb o) with
 |false=>rw[hb] at h;exact h.elim
 |true=>
  rw[hb] at h;simp only[cond_true] at h;simp only[A',ID] at hb
  have hg:∀j b,o.guard=some (j,b)->D j:=λj b hgd=>by
   refine hdn j ?_ ⟨o,by rw[Array.mem_toList_iff];exact Array.mem_of_getElem? ho,b,hgd⟩;have:=hb.1;unfold z4i at this;rw[hgd] at this;exact this
  split at h
  ·exact h.elim
  ·rename_i pc pG;have AR6:=zqz hf pG hg;have pJ:=Hn hf.fit pG
   cases hdd:N5 S ops pc o with
   |true=>
    rw[hdd] at h;simp only[cond_true] at h;have hp:=Ef hf.fit pG hdd;rw[B' (λvZ=>hp (pJ.1 vZ))];obtain⟨h1,h2⟩:=YO h;exact hN _ _ _ _ _ h1 ⟨hf.put hu ho hi hD hDD AR6 h2 ⟨λhp'=>Ir hp' hp,λ_=>rfl⟩,hw.bQ _ _,WK.bQ _ _,(Km.refl S).bQ _ _,by cases o.dst <;> rfl,⟨undef,rfl⟩,λ_=>⟨rfl,by cases o.dst <;> rfl⟩⟩
   |false=>
   rw[hdd] at h;simp only[cond_false] at h
   cases he:FN C o.op with
   |true=>
    rw[he] at h;simp only[cond_true] at h
    have run:EF ops a pc->z5v C S w o pc (K none)->o.wpIn (M7 C.rd) 0 C.P a wr N Q:=λC06 h=>by
     refine zui E.T E.ef hf hw WK C06 ⟨λS1 w' Wp e v h1 h2 h3 h4 h5 h9 h6 h7 h8=>?_⟩ h (λt x y hs=>?_)
     ·refine hN none _ _ _ _ h8 ⟨?_,h5.bQ _ _,h4.bQ _ _,h1.bQ _ _,by cases o.dst <;> exact h3,⟨v,rfl⟩,λhp=>by cases o.dst <;> exact h9 hp⟩;have hf1:Kl C.n S1 ops D a:=hf.mono h1.B h2 h3;exact hf1.put (pc:=[]) hu ho hi hD hDD (λp hp=>by cases hp) h7 ⟨λ_=>h6,λhn=>Ir (λp hp=>by cases hp) hn⟩
     ·have:=hb.2;unfold Eb at this;rw[hs] at this
      cases hd:o.dst with
      |none=>rfl
      |some d=>rw[hd] at this;cases this
    split at h
    ·have vZ:Region.wanted o (yielded ops a.tmps):=pJ.2 (λp hp=>by cases hp);rw[C' vZ];exact run (λp hp=>by cases hp) h
    ·cases hpo:zvg S ops pc with
     |false=>rw[hpo] at h;exact h.elim
     |true=>
      rw[hpo] at h;simp only[cond_true] at h
      by_cases hp:EF ops a pc
      ·rw[C' (pJ.2 hp)];exact run hp (za6 hf.fit hp h.1)
      ·rw[B' (λvZ=>hp (pJ.1 vZ))];obtain⟨h1,h2⟩:=YO (h.2 (zld hf.fit hpo hp));exact hN _ _ _ _ _ h1 ⟨hf.put hu ho hi hD hDD AR6 h2 ⟨λhp'=>Ir hp' hp,λ_=>rfl⟩,hw.bQ _ _,WK.bQ _ _,(Km.refl S).bQ _ _,by cases o.dst <;> rfl,⟨undef,rfl⟩,λ_=>⟨rfl,by cases o.dst <;> rfl⟩⟩
   |false=>
    rw[he] at h;simp only[cond_false] at h
    by_cases hp:EF ops a pc
    ·rw[C' (pJ.2 hp)];obtain⟨e,fact,v,hK,CG3,kI,hq⟩:=ziw E.T E.pf hf.fit hp h;obtain⟨h1,h2⟩:=YO hK;refine BC (C:=Zs S w) (K:=λa'=>a'=a.put o.dst v) hw (λa' w' hw' ha'=>?_) ⟨v,λWp hw'=>hq S w a rfl (λ_ _ h=>h) kI Wp hw',rfl⟩;subst ha';exact hN _ _ _ _ _ h1 ⟨hf.put hu ho hi hD hDD AR6 h2 ⟨λ_=>CG3,λhn=>Ir hp hn⟩,hw'.bQ _ _,WK.bQ _ _,(Km.refl S).bQ _ _,by cases o.dst <;> rfl,⟨v,rfl⟩,λ_=>⟨rfl,by cases o.dst <;> rfl⟩⟩
    ·rw[B' (λvZ=>hp (pJ.1 vZ))];obtain⟨e,fact,hK⟩:=zni h;obtain⟨h1,h2⟩:=YO hK;exact hN _ _ _ _ _ h1 ⟨hf.put hu ho hi hD hDD AR6 h2 ⟨λhp'=>Ir hp' hp,λ_=>rfl⟩,hw.bQ _ _,WK.bQ _ _,(Km.refl S).bQ _ _,by cases o.dst <;> rfl,⟨undef,rfl⟩,λ_=>⟨rfl,by cases o.dst <;> rfl⟩⟩
def zxt(C:V1)(ops:Array Oper):List Oper->Nat->St->Wo->(St->Wo->Prop)->Prop
 |[],_,S,w,K=>K S w
 |o::rest,k,S,w,K=>zdb C ops (λj=>Nat.blt j k) o S w λ_ S' w'=>zxt C ops rest (k+1) S' w' K
def H1:List Oper->List Nat
 |[]=>[]
 |o::r=>match o.dst with
  |some d=>d::H1 r
  |none=>H1 r
def DY(ds:List Nat)(a a':Act):Prop:=a'.defers=a.defers/\a'.tmps.size=a.tmps.size/\∀i,i∉ds->a'.tmps.getD i undef=a.tmps.getD i undef
def DY.refl(ds:List Nat)(a:Act):DY ds a a:=⟨rfl,rfl,λ_ _=>rfl⟩
def DY.trans{ds:List Nat}{a b c:Act}(h:DY ds a b)(k:DY ds b c):DY ds a c:=⟨k.1.trans h.1,k.2.1.trans h.2.1,λi hi=>(k.2.2 i hi).trans (h.2.2 i hi)⟩
def DY.mono{ds es:List Nat}{a b:Act}(h:DY ds a b)(hs:∀x∈ds,x∈es):DY es a b:=⟨h.1,h.2.1,λi hi=>h.2.2 i (λhx=>hi (hs i hx))⟩
def DY.put(a:Act)(d:Option Tmp)(v:Va)(ds:List Nat)(h:∀x,d=some x->x∈ds):DY ds a (a.put d v):=by
 cases d with
 |none=>exact DY.refl _ _
 |some d=>
  refine⟨rfl,by simp[Act.put],λi hi=>?_⟩;have:d≠i:=λe=>hi (e▸h d rfl)
  simp only[Act.put,Array.getD_eq_getD_getElem?];rw[Array.getElem?_setIfInBounds_ne this]
def At{C:V1}(E:zr0 C){ops:Array Oper}(hu:BA ops){K:St->Wo->Prop}{Q:Exit->Act->Wo->Prop}{ds:List Nat}{S0:St}{w0:Wo}{a0:Act}(hds:∀x∈H1 ops.toList,x∈ds)(hQ:∀S' w' a' Wp,K S' w'->Kl C.n S' ops (λj=>j<ops.size/\zwa ops j) a'->Zs S' w' Wp->Gt S'->Km S0 S'->S'.r=S0.r->DY ds a0 a'->(C.pm->w'=w0/\S'.old=S0.old)->Q .normal a' Wp) :
  ∀(l:List Oper) (k:Nat) (S:St) (w wr:Wo) (a:Act),(∀j,l[j]? = ops[k+j]?)->k+l.length=ops.size->zxt C ops l k S w K->Kl C.n S ops (λj=>j<k/\zwa ops j) a->Zs S w wr->Gt S->Km S0 S->S.r=S0.r->DY ds a0 a->(C.pm->w=w0/\S.old=S0.old)->
   wpListIn (M7 C.rd) 0 C.P ops Q l a wr
 |[],k,S,w,wr,a,_,hk,h,hf,hw,WK,vJ,hr,hfa,jZ=>by
  have:k=ops.size:=by simpa using hk
  subst this;exact hQ S w a wr h hf hw WK vJ hr hfa jZ
 |o::rest,k,S,w,wr,a,hl,hk,h,hf,hw,WK,vJ,hr,hfa,jZ=>by
  have ho:ops[k]? = some o:=by simpa using (hl 0).symm
  have hod:∀x,o.dst=some x->x∈ds:=λx hx=>by
   refine hds x ?_;have hm:o∈ops.toList:=by rw[Array.mem_toList_iff];exact Array.mem_of_getElem? ho
   clear hk hl h;generalize ops.toList=q at hm
   induction q with
   |nil=>cases hm
   |cons y q ih=>
    simp only[H1];rcases Ii.1 hm with rfl|hm
    ·rw[hx];exact I9 ..
    ·split
     ·exact I1 _ (ih hm)
     ·exact ih hm
  have cE:=zdc E (i:=k) (D':=λj=>j<k+1/\zwa ops j) (N:=λa' w'=>wpListIn (M7 C.rd) 0 C.P ops Q rest a' w') (Q:=Q) hu ho (λhd=>Nat.lt_irrefl _ hd.1) (λj hj=>hj.2) (λj hj=>⟨Nat.lt_succ_of_lt hj.1,hj.2⟩)
   (λj h1 h2=>⟨Ik h1,h2⟩) hf hw WK (λf S' w' a' Wp hK hL=>by
    obtain⟨v,rfl⟩:=hL.put;exact At E hu hds hQ rest (k+1) S' w' Wp _ (λj=>by have:=hl (j+1);simpa[Nat.add_assoc,Nat.add_comm 1 j] using this) (by simp at hk;omega) hK hL.fit hL.rel hL.wf (vJ.trans hL.fr) (hL.r.trans hr) (hfa.trans (DY.put a o.dst v ds hod)) (λhp=>⟨(hL.pm hp).1.trans (jZ hp).1,(hL.pm hp).2.trans (jZ hp).2⟩)) h
  unfold wpListIn
  by_cases hwt:Region.wanted o (yielded ops a.tmps)=true
  ·rw[C' hwt] at cE ⊢;exact cE
  ·rw[B' hwt] at cE ⊢;exact⟨λ_ _=>trivial,cE⟩
def z1d{C:V1}{ops:Array Oper}{dn:Nat->Bool}{o:Oper}{S:St}{w:Wo}{K:K7->St->Wo->Prop}(h:zdb C ops dn o S w K):∀c,o.op≠.defer c:=λc hc=>by
 unfold zdb at h;have:Eb o:=by simp[Eb,hc]
 rw[this] at h;simp at h
def V0(ops:Array Oper)(o:Oper)(a:Act):Option (Sem Next):=if Region.wanted o (yielded ops a.tmps) then some (execOp a.eval o) else none
def YS(P:Program)(R:Wo->Prop)(s:Option (Sem Next))(v:Va):Prop:=
 match s with
 |some s=>∀w,R w->Oper.quietUpon P R w v (s.run P w)
 |none=>v=undef
def j8(P:Program)(o:Oper)(a:Act)(w:Wo)(N:Va->Wo->Prop):Prop:=
 match (execOp a.eval o).run P w with
 |.ok (.value v) w'=>N v w'
 |.ok .skip w'=>N undef w'
 |.ok (.enter f args) w'=>Calls P f args w' λe kA=>∃v,e=.returned v/\N v kA
 |.ok (.row row args) w'=>Rows P row args w' λv kA=>N v kA
 |.ok (.round l f tmps asg body) w'=>RoundIn Fence.wide 0 P l f tmps asg body w' λe kA=>∃v,e=.returned v/\N v kA
 |_=>False
def Te:List Oper->List Nat->List Nat
 |[],acc=>acc
 |o::r,acc=>Te r (acc++[o.after.toList.foldl (λs e=>if Region.binds .any e then s ||| 2 ^ e.on ||| acc.getD e.on 0 else s) 0])
def zka(M:List Nat)(i j:Nat):Bool := !(M.getD j 0).testBit i
def HF(P:Program)(ops:Array Oper)(un:Nat->Nat->Bool)(Q:Act->(Wo->Prop)->Prop):Nat->Array Bool->List (Nat×Option (Sem Next)×Va)->Act->(Wo->Prop)->Prop
 |0,Rx,_,a,R=>Region.ready .any ops Rx=[]/\Q a R
 |n+1,Rx,Pd,a,R=>(Region.ready .any ops Rx=[]->Q a R)/\∀i∈Region.ready .any ops Rx,∀o,ops[i]? = some o->
   (∃v,YS P R (V0 ops o a) v/\HF P ops un Q n (Rx.setIfInBounds i true) ((i,V0 ops o a,v)::Pd) (a.put o.dst v) R) \/
   (Region.wanted o (yielded ops a.tmps)/\∀w,R w->j8 P o a w λv w'=>∃R':Wo->Prop,R' w'/\(∀p∈Pd,un p.1 i->YS P R' p.2.1 p.2.2)/\
    HF P ops un Q n (Rx.setIfInBounds i true) Pd (a.put o.dst v) R')
section
variable {P:Program}{ops:Array Oper}{un:Nat->Nat->Bool}{Q:Act->(Wo->Prop)->Prop}
def Ni{o:Oper}{a:Act}{w:Wo}{N N':Va->Wo->Prop}(h:∀v w,N v w->N' v w)(hh:j8 P o a w N):j8 P o a w N':=by
 unfold j8 at *;generalize (execOp a.eval o).run P w=r at *
 cases r with
 |ok n w'=>
  cases n <;> dsimp only at hh ⊢
  case value v=>exact h _ _ hh
  case skip=>exact h _ _ hh
  case enter f args=>exact hh.mono λe kA ⟨v,he,hn⟩=>⟨v,he,h _ _ hn⟩
  case row row args=>exact hh.mono λv kA hn=>h _ _ hn
  case round l f tmps asg body=>exact hh.mono λe kA ⟨v,he,hn⟩=>⟨v,he,h _ _ hn⟩
  all_goals exact hh
 |halt x w'=>exact hh
def z1a{o:Oper}{a:Act}{w:Wo}{N:Va->Wo->Prop}{K:Act->Wo->Prop}{Q':Exit->Act->Wo->Prop}{r:Option Nat}(hh:j8 P o a w N)(h:∀v w',N v w'->K (a.put o.dst v) w'):o.wpIn (M7 r) 0 P a w K Q':=by
 refine zrv (λc hc=>by unfold j8 at hh;rcases zjs (P:=P) (ρ:=a.eval) hc w with ⟨d,w',hr⟩|⟨x,w',hr⟩ <;> (rw[hr] at hh;exact hh)) ?_;unfold j8 at hh;generalize (execOp a.eval o).run P w=r at *
 cases r with
 |ok n w'=>
  cases n <;> dsimp only at hh <;> simp only[Oper.uponIn]
  case value v=>exact h _ _ hh
  case skip=>exact h _ _ hh
  case enter f args=>exact⟨λhx=>(by simp[M7,Fence.wide] at hx),KV (hh.mono λe kA ⟨v,he,hn⟩=>by subst he;exact h _ _ hn)⟩
  case row row args=>exact⟨λhx=>(by simp[M7,Fence.wide] at hx),zxx (hh.mono λv kA hn=>h _ _ hn)⟩
  case round l f tmps asg body=>exact⟨λhx=>(by simp[M7,Fence.wide] at hx),zix (hh.mono λe kA ⟨v,he,hn⟩=>by subst he;exact h _ _ hn)⟩
 |halt x w'=>exact hh.elim
def zp3{o:Oper}{a:Act}{w:Wo}{K:Act->Wo->Prop}{r:Option Nat}(hd:∀c,o.op≠.defer c)(hh:o.wpIn (M7 r) 0 P a w K λ_ _ _=>False)(hp:∀a' w',K a' w'->∃v,a'=a.put o.dst v):j8 P o a w λv w'=>K (a.put o.dst v) w':=by
 have hh:=z5s hd hh;unfold j8;generalize (execOp a.eval o).run P w=r at *
 cases r with
 |ok n w'=>
  cases n <;> simp only[Oper.uponIn] at hh ⊢
  case value v=>exact hh
  case skip=>exact hh
  case defer d=>
   obtain⟨v,hv⟩:=hp _ _ hh;have h1:(({ a with defers:=d::a.defers }:Act).put o.dst undef).defers=(a.put o.dst v).defers:=by rw[hv]
   have h2:∀(b:Act) (x:Option Tmp) (u:Va),(b.put x u).defers=b.defers:=λb x u=>by cases x <;> rfl
   rw[h2,h2] at h1;have:=congrArg List.length h1;simp at this
  case enter f args=>
   exact(z1e hh.2).mono λe kA he=>by
    cases e with
    |returned v=>exact⟨v,rfl,he⟩
    |panicked c=>exact he.elim
    |outgrown=>obtain⟨_,_,he⟩:=he;exact he.elim
  case row row args=>exact λc cs=>(let ⟨v,w1,h1,h2⟩:=hh.2 c cs (znm _ _);⟨v,w1,h1,StepsIn.steps h2⟩)
  case round l f tmps asg body=>
   refine⟨trivial,λc cs _=>?_⟩;obtain⟨e,kA,he,hs⟩:=hh.2.2 c cs (znm _ _);refine⟨e,kA,?_,hs⟩
   cases e with
   |returned v=>exact⟨v,rfl,he⟩
   |panicked c=>exact he.elim
   |outgrown=>obtain⟨_,_,he⟩:=he;exact he.elim
 |halt x w'=>cases x <;> simp only[Oper.uponIn] at hh
def ER:∀{n:Nat} {Rx:Array Bool} {Pd Pd':List (Nat×Option (Sem Next)×Va)} {a:Act} {R:Wo->Prop},(∀p∈Pd',p∈Pd)->HF P ops un Q n Rx Pd a R->HF P ops un Q n Rx Pd' a R
 |0,_,_,_,_,_,_,h=>h
 |n+1,Rx,Pd,Pd',a,R,hs,h=>⟨h.1,λi hi o ho=>by
  rcases h.2 i hi o ho with ⟨v,h1,h2⟩|⟨h1,h2⟩
  ·refine .inl ⟨v,h1,ER (λp hp=>?_) h2⟩;rcases Ii.1 hp with rfl|hp
   ·exact I9 ..
   ·exact I1 _ (hs p hp)
  ·exact .inr ⟨h1,λw hw=>Ni (λv w' ⟨R',h3,h4,h5⟩=>⟨R',h3,λp hp=>h4 p (hs p hp),ER hs h5⟩) (h2 w hw)⟩⟩
def Gb{r:Option Nat}{Q':Exit->Act->Wo->Prop}(hQ:∀a R w,Q a R->R w->Q' .normal a w):∀(n:Nat) (Rx:Array Bool) (Pd:List (Nat×Option (Sem Next)×Va)) (a:Act) (R:Wo->Prop) (w:Wo),R w->HF P ops un Q n Rx Pd a R->wpAnyIn (M7 r) 0 P .any ops Q' n Rx a w
 |0,_,_,_,_,_,hw,h=>⟨h.1,hQ _ _ _ h.2 hw⟩
 |n+1,Rx,Pd,a,R,w,hw,h=>⟨λh0=>hQ _ _ _ (h.1 h0) hw,λi hi=>by
  obtain⟨_,o,ho,_⟩:=mem_ready.1 hi;unfold wpOpIn;simp only[ho];rcases h.2 i hi o ho with ⟨v,h1,h2⟩|⟨h1,h2⟩
  ·unfold V0 at h1
   by_cases hwt:Region.wanted o (yielded ops a.tmps)=true
   ·rw[C' hwt] at h1 ⊢;exact BC (C:=R) (K:=λa'=>a'=a.put o.dst v) hw (λa' w' hw' ha'=>by subst ha';exact Gb hQ n _ _ _ R w' hw' h2) ⟨v,λw' hw'=>h1 w' hw',rfl⟩
   ·rw[B' hwt] at h1 ⊢;rw[show v=undef from h1] at h2;exact⟨λ_ _=>trivial,Gb hQ n _ _ _ R w hw h2⟩
  ·rw[C' h1];exact(z1a (h2 w hw) λv w' ⟨R',h3,_,h5⟩=>Gb hQ n _ _ _ R' w' h3 h5)⟩
def zvm{oi oj:Oper}{a:Act}{v:Va}(hap:oi.apart ops oj)(hsj:∀cs b,oj.op≠.select cs b):V0 ops oj (a.put oi.dst v)=V0 ops oj a:=by
 obtain⟨h1,_,_⟩:=Oper.apart_spec hap;unfold V0;rw[wanted_put oj a oi.dst v h1,execOp_put oj hsj a oi.dst v h1]
def zxo{oi oj:Oper}{a:Act}{v:Va}{w:Wo}{N:Va->Wo->Prop}(hap:oi.apart ops oj)(hsj:∀cs b,oj.op≠.select cs b)(h:j8 P oj (a.put oi.dst v) w N):j8 P oj a w N:=by
 obtain⟨h1,_,_⟩:=Oper.apart_spec hap;unfold j8 at *;rw[execOp_put oj hsj a oi.dst v h1] at h;exact h
def zch{x y:Oper}(h:x.apart ops y):∀d,y.dst=some d->d∉x.looksAt ops:=(Oper.apart_spec h).2.2
def DX(ops:Array Oper)(Rx:Array Bool):Prop:=∀j o,ops[j]? = some o->Rx.getD j true->∀e∈o.after,Region.binds .any e->Rx.getD e.on false=true
def zrm(BK2:∀(j:Nat) (o:Oper) cs b,ops[j]? = some o->o.op≠.select cs b)(hun:∀Rx i j,DX ops Rx->i∈Region.ready .any ops Rx->j∈Region.ready .any ops Rx->i≠j->un i j){i:Nat}{oi:Oper}{v:Va}(hi:ops[i]? = some oi) :
  ∀(n:Nat) (Rx:Array Bool) (Pd:List (Nat×Option (Sem Next)×Va)) (a:Act) (R:Wo->Prop),DX ops Rx->
   (∀j oj,ops[j]? = some oj->j≠i->Rx.getD j true=false->(∀e∈oj.after,Region.binds .any e->e.on≠i)->oi.apart ops oj)->
   i∈Region.ready .any ops Rx->YS P R (V0 ops oi a) v->
   HF P ops un Q n (Rx.setIfInBounds i true) ((i,V0 ops oi a,v)::Pd) (a.put oi.dst v) R->HF P ops un Q (n+1) Rx Pd a R:=by
 intro n
 induction n with
 |zero=>
  intro Rx Pd a R qT tH hr hy H;refine⟨λh=>(by rw[h] at hr;cases hr),λj hj oj hoj=>?_⟩
  by_cases hji:j=i
  ·subst hji;rw[hi] at hoj;cases hoj;exact .inl ⟨v,hy,H⟩
  ·have:=ready_mono hj hji;rw[H.1] at this;cases this
 |succ n ih=>
  intro Rx Pd a R qT tH hr hy H;refine⟨λh=>(by rw[h] at hr;cases hr),λj hj oj hoj=>?_⟩
  by_cases hji:j=i
  ·subst hji;rw[hi] at hoj;cases hoj;exact .inl ⟨v,hy,H⟩
  ·obtain⟨B15,oj',CZ0,vW⟩:=mem_ready.1 hj;rw[hoj] at CZ0;cases CZ0
   have Cz9:∀e∈oj.after,Region.binds .any e->e.on≠i:=λe he hb heq=>by
    have h1:=vW e he hb;have h0:=(mem_ready.1 hr).1;rw[heq] at h1;rcases Nat.lt_or_ge i Rx.size with h'|h'
    ·simp[h'] at h0 h1;rw[h0] at h1;cases h1
    ·simp[Array.getElem?_eq_none h'] at h1
   have hap:=tH j oj hoj hji B15 Cz9;have hsj:=λcs b=>BK2 j oj cs b hoj
   have hsi:=λcs b=>BK2 i oi cs b hi
   have BJ4:DX ops (Rx.setIfInBounds j true):=λk ok hk nN e he hb=>by
    by_cases gG:j=k
    ·subst gG;rw[hoj] at hk;cases hk;exact getD_set_true (vW e he hb)
    ·rw[getD_set_ne true gG] at nN;exact getD_set_true (qT k ok hk nN e he hb)
   have Bo8:∀k ok,ops[k]? = some ok->k≠i->(Rx.setIfInBounds j true).getD k true=false->
     (∀e∈ok.after,Region.binds .any e->e.on≠i)->oi.apart ops ok:=λk ok hk hki hun kD=>by
    refine tH k ok hk hki ?_ kD
    by_cases gG:j=k
    ·subst gG;exact B15
    ·rw[getD_set_ne true gG] at hun;exact hun
   have hr':=ready_mono hr (Ne.symm hji)
   have B23:∀u,V0 ops oi (a.put oj.dst u)=V0 ops oi a:=λu=>by
    unfold V0;rw[wanted_put oi a oj.dst u (zch hap),execOp_put oi hsi a oj.dst u (zch hap)]
   have B79:∀u,(a.put oi.dst v).put oj.dst u=(a.put oj.dst u).put oi.dst v:=λu=>Act.put_comm a v u (Oper.apart_spec hap).2.1
   rcases H.2 j (ready_mono hj hji) oj hoj with ⟨u,h1,h2⟩|⟨h1,h2⟩
   ·rw[zvm hap hsj] at h1 h2;refine .inl ⟨u,h1,ih _ _ _ R BJ4 Bo8 hr' (by rw[B23 u];exact hy) ?_⟩;rw[B23 u,<-B79 u,Array.setIfInBounds_comm _ _ hji]
    exact ER (λp hp=>by
     simp only[Ii] at hp ⊢;rcases hp with h|h|h
     ·exact .inr (.inl h)
     ·exact .inl h
     ·exact .inr (.inr h)) h2
   ·refine .inr ⟨?_,λw hw=>zxo hap hsj (Ni (λu w' ⟨R',h3,h4,h5⟩=>⟨R',h3,λp hp=>h4 p (I1 _ hp),?_⟩) (h2 w hw))⟩
    ·rw[wanted_put oj a oi.dst v (Oper.apart_spec hap).1] at h1;exact h1
    ·have hyi:YS P R' (V0 ops oi a) v:=h4 _ (I9 ..) (hun Rx i j qT hr hj (Ne.symm hji));refine ih _ _ _ R' BJ4 Bo8 hr' (by rw[B23 u];exact hyi) ?_;rw[B23 u,<-B79 u,Array.setIfInBounds_comm _ _ hji];exact h5
end
def zdg{acc:List Nat}{i:Nat}:∀(l:List Edge) (s:Nat),(l.foldl (λs e=>if Region.binds .any e then s ||| 2 ^ e.on ||| acc.getD e.on 0 else s) s).testBit i->
  s.testBit i\/∃e∈l,Region.binds .any e/\(e.on=i\/(acc.getD e.on 0).testBit i)
 |[],s,h=>.inl h
 |e::l,s,h=>by
  rcases zdg l _ h with h1|⟨e',he',hb,h2⟩
  ·by_cases hb:Region.binds .any e=true
   ·simp only[C' hb] at h1;simp only[Nat.testBit_or,Iu] at h1;rcases h1 with (h1|h1)|h1
    ·exact .inl h1
    ·refine .inr ⟨e,I9 ..,hb,.inl ?_⟩;rw[Nat.testBit_two_pow] at h1
     simpa using h1
    ·exact .inr ⟨e,I9 ..,hb,.inr h1⟩
   ·simp only[B' hb] at h1;exact .inl h1
  ·exact .inr ⟨e',I1 _ he',hb,h2⟩
def Fk:∀(l:List Oper) (acc:List Nat) (pre:List Oper),acc.length=pre.length->
  (∀(j:Nat) (o:Oper),pre[j]? = some o->∀i,(acc.getD j 0).testBit i->∃e∈o.after.toList,Region.binds .any e/\(e.on=i\/(e.on<j/\(acc.getD e.on 0).testBit i)))->
  ∀(j:Nat) (o:Oper),(pre++l)[j]? = some o->∀i,((Te l acc).getD j 0).testBit i->∃e∈o.after.toList,Region.binds .any e/\(e.on=i\/(e.on<j/\((Te l acc).getD e.on 0).testBit i))
 |[],acc,pre,hl,h,j,o,ho,i,hb=>by
  simp only[List.append_nil] at ho;exact h j o ho i hb
 |o'::l,acc,pre,hl,h,j,o,ho,i,hb=>by
  have Cv0:pre++o'::l=(pre++[o'])++l:=Qs;rw[Cv0] at ho;simp only[Te] at hb ⊢;refine Fk l _ (pre++[o']) (by simp[hl]) (λj o ho i hb=>?_) j o ho i hb
  by_cases hj:j<pre.length
  ·rw[Ip hj] at ho;rw[List.getD_eq_getElem?_getD,Ip Qo,<-List.getD_eq_getElem?_getD] at hb;obtain⟨e,he,eI,h2⟩:=h j o ho i hb;refine⟨e,he,eI,?_⟩;rcases h2 with h2|⟨h2,h3⟩
   ·exact .inl h2
   ·refine .inr ⟨h2,?_⟩;rw[List.getD_eq_getElem?_getD,Ip Qo,<-List.getD_eq_getElem?_getD];exact h3
  ·have hj':j=pre.length:=by
    have:j<(pre++[o']).length:=(I8.1 ho).1;simp at this;omega
   subst hj';simp only[List.getElem?_concat_length,I0] at ho;subst ho;rw[<-hl] at hb;rw[List.getD_eq_getElem?_getD,List.getElem?_concat_length] at hb;simp only[Option.getD_some] at hb;rcases zdg _ _ hb with h1|⟨e,he,eI,h2⟩
   ·simp at h1
   ·refine⟨e,he,eI,?_⟩;rcases h2 with h2|h2
    ·exact .inl h2
    ·have IW:e.on<acc.length:=by
      rcases Nat.lt_or_ge e.on acc.length with h'|h'
      ·exact h'
      ·rw[List.getD_eq_getElem?_getD,Iw h'] at h2;simp at h2
     refine .inr ⟨Qo,?_⟩;rw[List.getD_eq_getElem?_getD,Ip IW,<-List.getD_eq_getElem?_getD];exact h2
def zpd{ops:Array Oper}(Rx:Array Bool)(i j:Nat)(qT:DX ops Rx)(hi:i∈Region.ready .any ops Rx)(hj:j∈Region.ready .any ops Rx)(_:i≠j):zka (Te ops.toList []) i j:=by
 unfold zka;rw[ID];rw[Bool.eq_false_iff];intro hb;have CA1:=Fk ops.toList [] [] rfl (λj o ho=>by simp at ho);simp only[List.nil_append] at CA1;have hin:=(mem_ready.1 hi).1
 have no:Rx.getD i false≠true:=λh=>by
  rcases Nat.lt_or_ge i Rx.size with h'|h'
  ·simp[h'] at h hin;rw[h] at hin;cases hin
  ·simp[Array.getElem?_eq_none h'] at h
 have key:∀k:Nat,∀o,ops[k]? = some o->(∀e∈o.after,Region.binds .any e->Rx.getD e.on false)->((Te ops.toList []).getD k 0).testBit i->False:=by
  intro k
  induction k using Nat.strongRecOn with
  |_ k ih=>
   intro o ho vW hb;obtain⟨e,he,eI,h2⟩:=CA1 k o (by simpa using ho) i hb;have he':e∈o.after:=by rw[<-Array.mem_toList_iff];exact he
   have hl:=vW e he' eI;rcases h2 with h2|⟨h2,h3⟩
   ·rw[h2] at hl;exact no hl
   ·have IW:e.on<ops.size:=Nat.lt_trans h2 (Array.getElem?_eq_some_iff.1 ho).1;have hoe:ops[e.on]? = some ops[e.on]:=Array.getElem?_eq_getElem IW;refine ih e.on h2 _ hoe (qT e.on _ hoe ?_) h3;rcases Nat.lt_or_ge e.on Rx.size with h'|h'
    ·simp[h'] at hl ⊢;exact hl
    ·simp[Array.getElem?_eq_none h'] at hl
 obtain⟨_,o,ho,vW⟩:=mem_ready.1 hj;exact key j o ho vW hb
def En(C:V1)(ops:Array Oper):List Nat->Option Nat
 |[]=>none
 |i::r=>match ops[i]? with
  |some o=>bif FN C o.op then En C ops r else some i
  |none=>En C ops r
def H5{C:V1}{ops:Array Oper}:∀{l:List Nat} {i:Nat},En C ops l=some i->i∈l/\∃o,ops[i]? = some o/\FN C o.op=false
 |[],_,h=>by cases h
 |j::r,i,h=>by
  simp only[En] at h
  split at h
  ·rename_i o ho
   cases he:FN C o.op with
   |true=>
    rw[he] at h;obtain⟨h1,h2⟩:=H5 h;exact⟨I1 _ h1,h2⟩
   |false=>
    rw[he] at h;simp only[cond_false,I0] at h;subst h;exact⟨I9 ..,o,ho,he⟩
  ·obtain⟨h1,h2⟩:=H5 h;exact⟨I1 _ h1,h2⟩
def A6(M:List Nat)(i:Nat)(S:St)(w:Wo):List (Nat×zf1)->Prop->Prop
 |[],A=>A
 |(j,f)::r,A=>bif zka M j i then f S w/\A6 M i S w r A else A6 M i S w r A
def LZ{M:List Nat}{i:Nat}{S:St}{w:Wo}:∀{l:List (Nat×zf1)} {A:Prop},A6 M i S w l A->A/\∀p∈l,zka M p.1 i->p.2 S w
 |[],A,h=>⟨h,λp hp=>by cases hp⟩
 |(j,f)::r,A,h=>by
  simp only[A6] at h
  cases hu:zka M j i with
  |true=>
   rw[hu] at h;obtain⟨h1,h2⟩:=h;obtain⟨h3,h4⟩:=LZ h2;refine⟨h3,λp hp hpu=>?_⟩;rcases Ii.1 hp with rfl|hp
   ·exact h1
   ·exact h4 p hp hpu
  |false=>
   rw[hu] at h;obtain⟨h3,h4⟩:=LZ (A:=A) h;refine⟨h3,λp hp hpu=>?_⟩;rcases Ii.1 hp with rfl|hp
   ·rw[hu] at hpu;cases hpu
   ·exact h4 p hp hpu
def zp2(l:List Nat)(A:Nat->Prop):Prop:=
 match l with
 |[]=>True
 |[i]=>A i
 |i::r=>A i/\zp2 r A
def zc9:∀{l:List Nat} {A:Nat->Prop},zp2 l A->∀i∈l,A i
 |[],_,_,_,hi=>by cases hi
 |[j],A,h,i,hi=>by simp only[IA] at hi;subst hi;exact h
 |j::k::r,A,h,i,hi=>by
  rcases Ii.1 hi with rfl|hi
  ·exact h.1
  ·exact zc9 h.2 i hi
def zs5(i:Nat)(f:K7)(vH:List (Nat×zf1)):List (Nat×zf1):=
 match f with
 |some f=>(i,f)::vH
 |none=>vH
def Em(C:V1)(ops:Array Oper)(M:List Nat):Nat->Array Bool->List (Nat×zf1)->St->Wo->(St->Wo->Prop)->Prop
 |0,Rx,_,S,w,K=>match Region.ready .any ops Rx with
  |[]=>K S w
  |_=>False
 |n+1,Rx,vH,S,w,K=>match Region.ready .any ops Rx with
  |[]=>K S w
  |rs=>match En C ops rs with
   |some i=>match ops[i]? with
    |some o=>bif Region.free .any ops Rx i then zdb C ops (λj=>Rx.getD j false) o S w λf S' w'=>Em C ops M n (Rx.setIfInBounds i true) (zs5 i f vH) S' w' K else False
    |none=>False
   |none=>zp2 rs λi=>match ops[i]? with
    |some o=>zdb C ops (λj=>Rx.getD j false) o S w λ_ S' w'=>A6 M i S' w' vH (Em C ops M n (Rx.setIfInBounds i true) vH S' w' K)
    |none=>False
def zp5{C:V1}(E:zr0 C){ops:Array Oper}{D D':Nat->Prop}{dn:Nat->Bool}{i:Nat}{o:Oper}{S:St}{w:Wo}{a:Act}{K:K7->St->Wo->Prop}(hu:BA ops)(ho:ops[i]? = some o)(hi:¬D i)(hD:∀j,D j->zwa ops j)(hDD:∀j,D j->D' j)(hdn:∀j,dn j->zwa ops j->D j)(hf:Kl C.n S ops D a)(WK:Gt S)(he:FN C o.op=false)(h:zdb C ops dn o S w K) :
  ∃f v S',K f S' w/\Kl C.n S' ops D' (a.put o.dst v)/\Gt S'/\Km S S'/\S'.r=S.r/\S'.old=S.old/\(∀w wr,Zs S w wr↔Zs S' w wr)/\YS C.P (Zs S w) (V0 ops o a) v/\
   (∀(uE:St) (kA:Wo),Km S uE->zqf f uE kA->YS C.P (Zs uE kA) (V0 ops o a) v):=by
 unfold zdb at h
 cases hb:(z4i dn o && !Eb o) with
 |false=>rw[hb] at h;exact h.elim
 |true=>
  rw[hb] at h;simp only[cond_true] at h;simp only[A',ID] at hb
  have hg:∀j b,o.guard=some (j,b)->D j:=λj b hgd=>by
   refine hdn j ?_ ⟨o,by rw[Array.mem_toList_iff];exact Array.mem_of_getElem? ho,b,hgd⟩;have:=hb.1;unfold z4i at this;rw[hgd] at this;exact this
  split at h
  ·exact h.elim
  ·rename_i pc pG;have AR6:=zqz hf pG hg;have pJ:=Hn hf.fit pG
   have vD:∀{sv:SV} (w wr:Wo),Zs S w wr↔Zs (S.bQ o.dst sv) w wr:=λ{sv} w wr=>by
    cases o.dst
    ·exact Iff.rfl
    ·exact⟨λh=>⟨h.ext,h.loc,h.len,h.oN,h.fresh⟩,λh=>⟨h.ext,h.loc,h.len,h.oN,h.fresh⟩⟩
   cases hdd:N5 S ops pc o with
   |true=>
    rw[hdd] at h;simp only[cond_true] at h;have hp:=Ef hf.fit pG hdd;have vZ:¬Region.wanted o (yielded ops a.tmps):=λvZ=>hp (pJ.1 vZ)
    obtain⟨h1,h2⟩:=YO h;have hs:V0 ops o a=none:=by unfold V0;rw[B' vZ]
    refine⟨none,undef,_,h1,hf.put hu ho hi hD hDD AR6 h2 ⟨λhp'=>Ir hp' hp,λ_=>rfl⟩,WK.bQ _ _,(Km.refl S).bQ _ _,by cases o.dst <;> rfl,by cases o.dst <;> rfl,vD,?_,λuE kA vJ hfc=>?_⟩ <;> (rw[hs];rfl)
   |false=>
   rw[hdd] at h;rw[he] at h;simp only[cond_false] at h
   by_cases hp:EF ops a pc
   ·have vZ:=pJ.2 hp;obtain⟨e,fact,v,hK,CG3,kI,hq⟩:=ziw E.T E.pf hf.fit hp h;obtain⟨h1,h2⟩:=YO hK;refine⟨fact,v,_,h1,hf.put hu ho hi hD hDD AR6 h2 ⟨λ_=>CG3,λhn=>Ir hp hn⟩,WK.bQ _ _,(Km.refl S).bQ _ _,by cases o.dst <;> rfl,by cases o.dst <;> rfl,vD,?_,λuE kA vJ hfc=>?_⟩
    ·unfold V0;rw[C' vZ];exact λwr hw=>hq S w a rfl (λ_ _ h=>h) kI wr hw
    ·unfold V0;rw[C' vZ];exact λwr hw=>hq uE kA a rfl vJ.B hfc wr hw
   ·have vZ:¬Region.wanted o (yielded ops a.tmps):=λvZ=>hp (pJ.1 vZ)
    obtain⟨e,fact,hK⟩:=zni h;obtain⟨h1,h2⟩:=YO hK;have hs:V0 ops o a=none:=by unfold V0;rw[B' vZ]
    refine⟨fact,undef,_,h1,hf.put hu ho hi hD hDD AR6 h2 ⟨λhp'=>Ir hp' hp,λ_=>rfl⟩,WK.bQ _ _,(Km.refl S).bQ _ _,by cases o.dst <;> rfl,by cases o.dst <;> rfl,vD,?_,λuE kA vJ hfc=>?_⟩ <;> (rw[hs];rfl)
def zxs(C:V1)(ops:Array Oper)(draw:Bool)(S:St)(w:Wo)(K:St->Wo->Prop):Prop:=
 bif BA ops then
  (bif draw then
   (bif Region.noSelect ops then Em C ops (Te ops.toList []) ops.size (Array.replicate ops.size false) [] { S with r:=S.r+1 } w λS' w'=>K { S' with r:=S'.r+1 } w' else False)
  else zxt C ops ops.toList 0 { S with r:=S.r+1 } w λS' w'=>K { S' with r:=S'.r+1 } w')
 else False
structure TZ (n:Nat) (S:St) (a:Act):Prop where
 size:a.tmps.size=n
 fits:∀i x,S.F.get i=some (.un x)->EV.den S x (a.tmps.getD i undef)
 old:∀i r pc x,S.F.get i=some (.gd r pc x)->r<S.r
def TZ.enter{n:Nat}{S:St}{a:Act}(h:TZ n S a)(ops:Array Oper)(D:Nat->Prop):Kl n { S with r:=S.r+1 } ops D a:=
 ⟨⟨h.size,λi s hs=>by
  cases s with
  |un x=>exact EV.gE (S:=S) (λ_ _ h=>h) (h.fits i x hs)
  |gd r pc x=>intro hr;have:=h.old i r pc x hs;simp only at hr;omega⟩,λi pc x hx=>by have:=h.old i _ pc x hx;simp only at this;omega,λi r pc x hx=>by have:=h.old i r pc x hx;show r<=S.r+1;omega⟩
def Kl.leave{n:Nat}{S:St}{ops:Array Oper}{D:Nat->Prop}{a:Act}(h:Kl n S ops D a):TZ n { S with r:=S.r+1 } a:=
 ⟨h.fit.size,λi x hx=>EV.gE (S:=S) (λ_ _ h=>h) (h.fit.fits i (.un x) hx),λi r pc x hx=>Nat.lt_succ_of_le (h.st i r pc x hx)⟩
def zuj{C:V1}{ops:Array Oper}{D D':Nat->Prop}{dn:Nat->Bool}{i:Nat}{o:Oper}{S:St}{w:Wo}{a:Act}{K:K7->St->Wo->Prop}(hu:BA ops)(ho:ops[i]? = some o)(hi:¬D i)(hD:∀j,D j->zwa ops j)(hDD:∀j,D j->D' j)(hdn:∀j,dn j->zwa ops j->D j)(hf:Kl C.n S ops D a)(WK:Gt S)(he:FN C o.op)(vZ:¬Region.wanted o (yielded ops a.tmps))(h:zdb C ops dn o S w K) :
  ∃S',K none S' w/\Kl C.n S' ops D' (a.put o.dst undef)/\Gt S'/\Km S S'/\S'.r=S.r/\S'.old=S.old/\(∀w wr,Zs S w wr↔Zs S' w wr):=by
 unfold zdb at h
 cases hb:(z4i dn o && !Eb o) with
 |false=>rw[hb] at h;exact h.elim
 |true=>
  rw[hb] at h;simp only[cond_true] at h;simp only[A',ID] at hb
  have hg:∀j b,o.guard=some (j,b)->D j:=λj b hgd=>by
   refine hdn j ?_ ⟨o,by rw[Array.mem_toList_iff];exact Array.mem_of_getElem? ho,b,hgd⟩;have:=hb.1;unfold z4i at this;rw[hgd] at this;exact this
  split at h
  ·exact h.elim
  ·rename_i pc pG;have AR6:=zqz hf pG hg;have pJ:=Hn hf.fit pG
   have vD:∀{sv:SV} (w wr:Wo),Zs S w wr↔Zs (S.bQ o.dst sv) w wr:=λ{sv} w wr=>by
    cases o.dst
    ·exact Iff.rfl
    ·exact⟨λh=>⟨h.ext,h.loc,h.len,h.oN,h.fresh⟩,λh=>⟨h.ext,h.loc,h.len,h.oN,h.fresh⟩⟩
   cases hdd:N5 S ops pc o with
   |true=>
    rw[hdd] at h;simp only[cond_true] at h;have hp:=Ef hf.fit pG hdd;obtain⟨h1,h2⟩:=YO h;exact⟨_,h1,hf.put hu ho hi hD hDD AR6 h2 ⟨λhp'=>Ir hp' hp,λ_=>rfl⟩,WK.bQ _ _,(Km.refl S).bQ _ _,by cases o.dst <;> rfl,by cases o.dst <;> rfl,vD⟩
   |false=>
   rw[hdd] at h;simp only[cond_false] at h;rw[he] at h;simp only[cond_true] at h
   split at h
   ·exact Ir (pJ.2 (λp hp=>by cases hp)) vZ
   ·cases hpo:zvg S ops pc with
    |false=>rw[hpo] at h;exact h.elim
    |true=>
     rw[hpo] at h;simp only[cond_true] at h;have hp:¬EF ops a pc:=λhp=>vZ (pJ.2 hp)
     obtain⟨h1,h2⟩:=YO (h.2 (zld hf.fit hpo hp));exact⟨_,h1,hf.put hu ho hi hD hDD AR6 h2 ⟨λhp'=>Ir hp' hp,λ_=>rfl⟩,WK.bQ _ _,(Km.refl S).bQ _ _,by cases o.dst <;> rfl,by cases o.dst <;> rfl,vD⟩
def H4{C:V1}{ops:Array Oper}:∀{l:List Nat},En C ops l=none->∀i∈l,∀o,ops[i]? = some o->FN C o.op=true
 |[],_,i,hi,_,_=>by cases hi
 |j::r,h,i,hi,o,ho=>by
  simp only[En] at h
  split at h
  ·rename_i o' ho'
   cases he:FN C o'.op with
   |false=>rw[he] at h;cases h
   |true=>
    rw[he] at h;rcases Ii.1 hi with rfl|hi
    ·rw[ho'] at ho;cases ho;exact he
    ·exact H4 h i hi o ho
  ·rename_i ho';rcases Ii.1 hi with rfl|hi
   ·rw[ho'] at ho;cases ho
   ·exact H4 h i hi o ho
def zk3{ops:Array Oper}{i:Nat}{o:Oper}(ho:ops[i]? = some o):∀x,o.dst=some x->x∈H1 ops.toList:=λx hx=>by
 have hm:o∈ops.toList:=by rw[Array.mem_toList_iff];exact Array.mem_of_getElem? ho
 generalize ops.toList=q at hm
 induction q with
 |nil=>cases hm
 |cons y q ih=>
  simp only[H1];rcases Ii.1 hm with rfl|hm
  ·rw[hx];exact I9 ..
  ·split
   ·exact I1 _ (ih hm)
   ·exact ih hm
def DL(ops:Array Oper)(Rx:Array Bool)(j:Nat):Prop:=Rx.getD j false/\zwa ops j
def PQ(C:V1)(ops:Array Oper)(K:St->Wo->Prop)(S0:St)(w0:Wo)(a0:Act)(ds:List Nat)(a:Act)(R:Wo->Prop):Prop:=
 ∃S' w',K S' w'/\TZ C.n { S' with r:=S'.r+1 } a/\Gt S'/\Km S0 S'/\S'.r=S0.r/\DY ds a0 a/\(C.pm->w'=w0/\S'.old=S0.old)/\R=Zs S' w'
def PV{C:V1}(E:zr0 C){ops:Array Oper}(hu:BA ops)(BK2:Region.noSelect ops){K:St->Wo->Prop}{S0:St}{w0:Wo}{a0:Act}{ds:List Nat}(hds:∀x∈H1 ops.toList,x∈ds) :
  ∀(n:Nat) (Rx:Array Bool) (vH:List (Nat×zf1)) (Pd:List (Nat×Option (Sem Next)×Va)) (S:St) (w:Wo) (a:Act),Em C ops (Te ops.toList []) n Rx vH S w K->DX ops Rx->
   Kl C.n S ops (DL ops Rx) a->Gt S->Km S0 S->S.r=S0.r->DY ds a0 a->(C.pm->w=w0/\S.old=S0.old)->
   (∀p∈Pd,(∃f:zf1,(p.1,f)∈vH/\∀(uE:St) (kA:Wo),Km S uE->f uE kA->YS C.P (Zs uE kA) p.2.1 p.2.2)\/(∀(uE:St) (kA:Wo),Km S uE->YS C.P (Zs uE kA) p.2.1 p.2.2))->
   HF C.P ops (zka (Te ops.toList [])) (PQ C ops K S0 w0 a0 ds) n Rx Pd a (Zs S w)
 |0,Rx,vH,Pd,S,w,a,h,qT,hf,WK,vJ,hr,hfa,jZ,hpd=>by
  simp only[Em] at h
  split at h
  ·rename_i hrd;exact⟨hrd,S,w,h,hf.leave,WK,vJ,hr,hfa,jZ,rfl⟩
  ·exact h.elim
 |n+1,Rx,vH,Pd,S,w,a,h,qT,hf,WK,vJ,hr,hfa,jZ,hpd=>by
  simp only[Em] at h
  split at h
  ·rename_i hrd;exact⟨λ_=>⟨S,w,h,hf.leave,WK,vJ,hr,hfa,jZ,rfl⟩,λi hi=>by rw[hrd] at hi;cases hi⟩
  ·rename_i hrd
   split at h
   ·rename_i i hi;obtain⟨him,o',ho',he⟩:=H5 hi
    split at h
    ·rename_i o ho;rw[ho] at ho';cases ho'
     cases tH:Region.free .any ops Rx i with
     |false=>rw[tH] at h;exact h.elim
     |true=>
      rw[tH] at h;simp only[cond_true] at h;obtain⟨hun,_,_,vW⟩:=mem_ready.1 him
      have hni:¬DL ops Rx i:=λhd=>by
       have h1:=hd.1;rcases Nat.lt_or_ge i Rx.size with h'|h'
       ·simp[h'] at h1 hun;rw[h1] at hun;cases hun
       ·simp[Array.getElem?_eq_none h'] at h1
      obtain⟨f,v,S',hK,hf',Ax2,qW,hr',Bp5,vD,hys,hyf⟩:=zp5 E (i:=i) (D':=DL ops (Rx.setIfInBounds i true)) hu ho hni (λj hj=>hj.2) (λj hj=>⟨getD_set_true hj.1,hj.2⟩) (λj h1 h2=>⟨h1,h2⟩) hf WK he h
      have BJ4:DX ops (Rx.setIfInBounds i true):=λk ok hk nN e he hb=>by
       by_cases hik:i=k
       ·subst hik;rw[ho] at hk;cases hk;obtain⟨_,o2,ho2,CU6⟩:=mem_ready.1 him;rw[ho] at ho2;cases ho2;exact getD_set_true (CU6 e he hb)
       ·rw[getD_set_ne true hik] at nN;exact getD_set_true (qT k ok hk nN e he hb)
      have heq:Zs S w=Zs S' w:=funext λwr=>propext (vD w wr)
      refine zrm (λj o cs b hj=>Region.noSelect_spec BK2 j o cs b hj) (λRx i j h1 h2 h3 h4=>zpd Rx i j h1 h2 h3 h4) ho n Rx Pd a (Zs S w) qT (λj oj hj hji B15 kD=>Region.free_spec ho tH j oj hj hji B15 kD) him hys ?_;rw[heq];refine PV E hu BK2 hds n _ (zs5 i f vH) _ S' w _ hK BJ4 hf' Ax2 (vJ.trans qW) (hr'.trans hr) (hfa.trans (DY.put a _ v ds λx hx=>hds x (zk3 ho x hx))) (λhp=>⟨(jZ hp).1,Bp5.trans (jZ hp).2⟩) λp hp=>?_
      rcases Ii.1 hp with rfl|hp
      ·cases f with
       |none=>exact .inr λuE kA hs=>hyf uE kA (qW.trans hs) trivial
       |some f=>exact .inl ⟨f,I9 ..,λuE kA hs hfc=>hyf uE kA (qW.trans hs) hfc⟩
      ·rcases hpd p hp with ⟨f',hm,hs'⟩|hs'
       ·refine .inl ⟨f',?_,λuE kA hs hfc=>hs' uE kA (qW.trans hs) hfc⟩
        cases f with
        |none=>exact hm
        |some f=>exact I1 _ hm
       ·exact .inr λuE kA hs=>hs' uE kA (qW.trans hs)
    ·exact h.elim
   ·rename_i vK;refine⟨λh0=>Ir h0 (by assumption),λi hi o ho=>?_⟩;have h1:=zc9 h i hi;rw[ho] at h1;simp only at h1;have he:=H4 vK i hi o ho;obtain⟨hun,o2,ho2,vW⟩:=mem_ready.1 hi;rw[ho] at ho2;cases ho2
    have hni:¬DL ops Rx i:=λhd=>by
     have h1:=hd.1;rcases Nat.lt_or_ge i Rx.size with h'|h'
     ·simp[h'] at h1 hun;rw[h1] at hun;cases hun
     ·simp[Array.getElem?_eq_none h'] at h1
    have BJ4:DX ops (Rx.setIfInBounds i true):=λk ok hk nN e he hb=>by
     by_cases hik:i=k
     ·subst hik;rw[ho] at hk;cases hk;exact getD_set_true (vW e he hb)
     ·rw[getD_set_ne true hik] at nN;exact getD_set_true (qT k ok hk nN e he hb)
    by_cases vZ:Region.wanted o (yielded ops a.tmps)=true
    case neg=>
     obtain⟨S',hK,hf',Ax2,qW,hr',Bp5,vD⟩:=zuj (i:=i) (D':=DL ops (Rx.setIfInBounds i true)) hu ho hni (λj hj=>hj.2) (λj hj=>⟨getD_set_true hj.1,hj.2⟩) (λj h1 h2=>⟨h1,h2⟩) hf WK he vZ h1;obtain⟨hev,_⟩:=LZ hK;have heq:Zs S w=Zs S' w:=funext λwr=>propext (vD w wr)
     have hs0:V0 ops o a=none:=by unfold V0;rw[B' vZ]
     refine .inl ⟨undef,by rw[hs0];rfl,?_⟩;rw[heq];refine PV E hu BK2 hds n _ vH _ S' w _ hev BJ4 hf' Ax2 (vJ.trans qW) (hr'.trans hr) (hfa.trans (DY.put a _ _ ds λx hx=>hds x (zk3 ho x hx))) (λhp=>⟨(jZ hp).1,Bp5.trans (jZ hp).2⟩) λp hp=>?_
     rcases Ii.1 hp with rfl|hp
     ·exact .inr λuE kA hs=>by rw[hs0];rfl
     ·rcases hpd p hp with ⟨f',hm,hs'⟩|hs'
      ·exact .inl ⟨f',hm,λuE kA hs hfc=>hs' uE kA (qW.trans hs) hfc⟩
      ·exact .inr λuE kA hs=>hs' uE kA (qW.trans hs)
    refine .inr ⟨vZ,λwr vE=>?_⟩
    have cE:=zdc E (i:=i) (D':=DL ops (Rx.setIfInBounds i true))
     (N:=λa' w'=>(∃v,a'=a.put o.dst v)/\∃S' kA,A6 (Te ops.toList []) i S' kA vH (Em C ops (Te ops.toList []) n (Rx.setIfInBounds i true) vH S' kA K)/\z3d C S w ops (DL ops (Rx.setIfInBounds i true)) o a S' kA a' w') (Q:=λ_ _ _=>False)
     hu ho hni (λj hj=>hj.2) (λj hj=>⟨getD_set_true hj.1,hj.2⟩) (λj h1 h2=>⟨h1,h2⟩) hf vE WK (λf S' w' a' Wp hK hL=>⟨hL.put,S',w',hK,hL⟩) h1
    rw[C' vZ] at cE;refine Ni (λv w' hN=>?_) (zp3 (z1d h1) cE λa' w' hN=>hN.1);obtain⟨_,S',kA,hpo,hL⟩:=hN;obtain⟨hev,CG8⟩:=LZ hpo;refine⟨Zs S' kA,hL.rel,λp hp hpu=>?_,PV E hu BK2 hds n _ vH Pd S' kA _ hev BJ4 hL.fit hL.wf (vJ.trans hL.fr) (hL.r.trans hr) (hfa.trans (DY.put a o.dst v ds λx hx=>hds x (zk3 ho x hx))) (λhp=>⟨(hL.pm hp).1.trans (jZ hp).1,(hL.pm hp).2.trans (jZ hp).2⟩) λp hp=>?_⟩
    ·rcases hpd p hp with ⟨f',hm,hs'⟩|hs'
     ·exact hs' S' kA hL.fr (CG8 _ hm hpu)
     ·exact hs' S' kA hL.fr
    ·rcases hpd p hp with ⟨f',hm,hs'⟩|hs'
     ·exact .inl ⟨f',hm,λuE w3 hs hfc=>hs' uE w3 (hL.fr.trans hs) hfc⟩
     ·exact .inr λuE w3 hs=>hs' uE w3 (hL.fr.trans hs)
structure Yw where
 uZ:List (Nat×CK)
 WC:List (Nat×List CK)
 A59:List Nat
 aY:List (TypeId×List CK):=[]
 ptr:List (Nat×Nat):=[]
def Xp:Code->List Nat
 |.region _ ops _=>H1 ops.toList
 |.seq a b=>Xp a++Xp b
 |.cond _ a b=>Xp a++Xp b
 |.block _ b=>Xp b
 |.loop b=>Xp b
 |.scope b=>Xp b
 |_=>[]
def FX:Code->Option Nat
 |.region id _ _=>some id
 |.seq a b=>match FX a with
  |some k=>some k
  |none=>FX b
 |.cond _ a b=>match FX a with
  |some k=>some k
  |none=>FX b
 |.block _ b=>FX b
 |.loop b=>FX b
 |.scope b=>FX b
 |_=>none
def zqm:CK->Va->Bool
 |.int k,.int k' _=>decide (k=k')
 |.bool,.bool _=>true
 |.str,.string _=>true
 |.slice,.slice _ _ _=>true
 |.ptr,.pointer _=>true
 |.fn,.func _ _ _=>true
 |.iface,_=>true
 |.map,_=>true
 |.other,_=>true
 |_,_=>false
def z57:CK->(Va->Prop)->Prop
 |.int k,K=>∀n:Int,K (.int k n)
 |.bool,K=>∀b:Bool,K (.bool b)
 |.str,K=>∀s:ByteArray,K (.string s)
 |.slice,K=>∀(o:OA) (l c:Nat),K (.slice o l c)
 |.ptr,K=>∀o:OA,K (.pointer o)
 |.fn,K=>∀(f:Fn) (a c:Array Va),K (.func f a c)
 |_,K=>∀v:Va,K v
def Fj:List CK->(List Va->Prop)->Prop
 |[],K=>K []
 |k::r,K=>z57 k λv=>Fj r λl=>K (v::l)
def zwl{k:CK}{K:Va->Prop}(h:z57 k K){v:Va}(hv:zqm k v):K v:=by
 cases k <;> cases v <;> simp only[zqm] at hv <;> first
  |exact h _
  |exact h _ _ _
  |(cases hv;done)
  |(simp only[Ij] at hv;subst hv;exact h _)
def Ud:List CK->List Va->Bool
 |[],[]=>true
 |k::r,v::l=>zqm k v&&Ud r l
 |_,_=>false
def Oj:∀{ks:List CK} {K:List Va->Prop} {vs:List Va},Fj ks K->Ud ks vs->K vs
 |[],_,[],h,_=>h
 |k::r,K,v::l,h,hk=>by
  simp only[Ud,A'] at hk;exact Oj (K:=λl=>K (v::l)) (zwl (K:=λv=>Fj r λl=>K (v::l)) h hk.1) hk.2
 |[],_,_::_,_,hk=>by simp[Ud] at hk
 |_::_,_,[],_,hk=>by simp[Ud] at hk
def HD(S:St):List (Nat×CK)->Option (List Va)
 |[]=>some []
 |(i,_)::r=>match S.F.get i with
  |some (.un e)=>match z3e S e,HD S r with
   |some x,some l=>some (x::l)
   |_,_=>none
  |_=>none
def Ls(S:St):List (Nat×List CK)->Option (List Va)
 |[]=>some []
 |(id,ks)::r=>match S.L[id]?,Ls S r with
  |some (_,cs),some l=>bif Nat.beq cs.length ks.length then some (cs++l) else none
  |_,_=>none
def Yw.ks(sp:Yw):List CK:=sp.uZ.map (·.2)++sp.WC.flatMap (·.2)
def zdm(S:St)(sp:Yw)(K:List Va->Prop):Prop:=
 match HD S sp.uZ,Ls S sp.WC with
 |some xs,some ys=>bif Ud sp.ks (xs++ys) then K (xs++ys) else False
 |_,_=>False
def zi5(F:PT SV):List Nat->PT SV
 |[]=>.leaf
 |i::r=>match F.get i with
  |some (.un e)=>PT.set 12 (zi5 F r) i (.un e)
  |_=>zi5 F r
def zti(F:PT SV):List (Nat×CK)->List Va->PT SV
 |(i,_)::r,v::vs=>PT.set 12 (zti F r vs) i (.un (.v v))
 |_,_=>F
def Vk(L:List (TypeId×List Va)):List (Nat×List CK)->List Va->List (TypeId×List Va)
 |[],_=>L
 |(id,ks)::r,vs=>match L[id]? with
  |some (t,_)=>Vk (L.set id (t,vs.take ks.length)) r (vs.drop ks.length)
  |none=>Vk L r (vs.drop ks.length)
def DR(S:St)(sp:Yw):List Nat:=(List.range S.L.length).filter λid => !KE (sp.WC.map (·.1)) id
def YN(S:St)(sp:Yw)(vs:List Va):St:=
 { S with F:=zti (zi5 S.F sp.A59) sp.uZ (vs.take sp.uZ.length),L:=Vk S.L sp.WC (vs.drop sp.uZ.length),lk:=DR S sp }
def zer:List Nat->Bool
 |[]=>true
 |x::r => !KE r x&&zer r
def zvs(S:St)(sp:Yw)(ds:List Nat):Bool:=
 (sp.A59.all λi => !KE ds i&&Nat.blt i 4000)&&(sp.uZ.all λp=>Nat.blt p.1 4000 && !KE sp.A59 p.1)&&zer (sp.uZ.map (·.1))&&zer (sp.WC.map (·.1))&&(sp.WC.all λp=>match S.L[p.1]? with
  |some (_,cs)=>Nat.beq cs.length p.2.length && !KE S.lk p.1
  |none=>false)
def Yw.nks(sp:Yw):List CK:=sp.aY.flatMap (·.2)
def zr3:Nat->(List Nat->Prop)->Prop
 |0,K=>K []
 |n+1,K=>∀b:Nat,zr3 n λl=>K (b::l)
def N1:∀{n:Nat} {K:List Nat->Prop} {bs:List Nat},zr3 n K->bs.length=n->K bs
 |0,_,[],h,_=>h
 |n+1,K,b::l,h,hl=>N1 (K:=λl=>K (b::l)) (h b) (by simpa using hl)
 |0,_,_::_,_,hl=>by simp at hl
 |_+1,_,[],_,hl=>by simp at hl
def Hk:List (TypeId×List CK)->List Va->List (TypeId×List Va)
 |[],_=>[]
 |(t,ks)::r,vs=>(t,vs.take ks.length)::Hk r (vs.drop ks.length)
def zjh(S:St):Nat->List (TypeId×List CK)->Option (List Va)
 |_,[]=>some []
 |n,(t,ks)::r=>match S.L[n]?,zjh S (n+1) r with
  |some (t',cs),some l=>bif Nat.beq t' t&&Nat.beq cs.length ks.length then some (cs++l) else none
  |_,_=>none
def zjo(S:St)(n k:Nat)(l:List (Nat×Nat)):Bool:=l.all λp=>Nat.blt p.1 4000&&Nat.blt p.2 k&&match S.F.get p.1 with
 |some (.un (.loc id 0))=>Nat.beq id (n+p.2)
 |_=>false
def zth(F:PT SV)(n:Nat):List (Nat×Nat)->PT SV
 |[]=>F
 |(i,j)::r=>PT.set 12 (zth F n r) i (.un (.loc (n+j) 0))
def DI(S:St)(sp:Yw)(vs zs:List Va)(bs:List Nat):St:=
 { F:=zth (YN S sp vs).F S.L.length sp.ptr,L:=(YN S sp vs).L++Hk sp.aY zs,B:=S.B++bs,old:=S.old,lk:=S.lk,r:=S.r }
def zsn(S S':St)(sp:Yw)(K:List Va->List Nat->Prop):Prop:=
 match zjh S' S.L.length sp.aY with
 |some zs=>bif Ud sp.nks zs&&zjo S' S.L.length sp.aY.length sp.ptr then zdm S' sp λvs=>K (vs++zs) ((S'.B.drop S.B.length).take sp.aY.length) else False
 |none=>False
def z6j(sps:List (Nat×Yw))(b:Code):Option Yw:=match sps with
 |[]=>none
 |_=>match FX b with
  |some k=>zpx sps (k+1000000)
  |none=>none
def sM(S:St)(c:Operand)(x:Bool):St:=
 match c with
 |.tmp t=>bif Nat.blt t 4000 then { S with F:=PT.set 12 S.F t (.un (.kb x)) } else S
 |_=>S
def As(C:V1)(sps:List (Nat×Yw)):Code->St->Wo->(Exit->St->Wo->Prop)->Prop
 |.skip,S,w,K=>K .normal S w
 |.label _,S,w,K=>K .normal S w
 |.region _ ops d,S,w,K=>zxs C ops d S w (K .normal)
 |.seq a b,S,w,K=>match z6j sps b with
  |none=>As C sps a S w λe S' w'=>match e with
   |.normal=>As C sps b S' w' K
   |e=>K e S' w'
  |some sp=>bif zvs S sp (Xp a) then
    bif C.pm then
     ∃vR:List Va->List Nat->Prop,(As C sps a { S with lk:=DR S sp } w λe S' w'=>match e with
       |.normal=>zsn S S' sp vR
       |e=>K e { S' with lk:=S.lk } w')/\
      Fj sp.ks λvs=>Fj sp.nks λzs=>zr3 sp.aY.length λbs=>vR (vs++zs) bs->As C sps b (DI S sp vs zs bs) w K
    else
     ∃vR:List Va->List Nat->Wo->Prop,(As C sps a { S with lk:=DR S sp } w λe S' w'=>match e with
       |.normal=>∀wr,Q0 S'.bs w' wr->(∀b∈S'.B,b<wr.heap.size)->zsn S S' sp λvs bs=>vR vs bs wr
       |e=>K e { S' with lk:=S.lk } w')/\
      Fj sp.ks λvs=>Fj sp.nks λzs=>zr3 sp.aY.length λbs=>∀w1,(∀b∈S.B++bs,b<w1.heap.size)->vR (vs++zs) bs w1->As C sps b (DI S sp vs zs bs).bT w1 K
   else False
 |.cond c a b,S,w,K=>match zf0 S [] c with
  |some (.kb true)=>As C sps a S w K
  |some (.kb false)=>As C sps b S w K
  |some (.v (.bool x))=>(x->As C sps a (sM S c true) w K)/\(x=false->As C sps b (sM S c false) w K)
  |_=>False
 |.block id b,S,w,K=>As C sps b S w λe S' w'=>match e with
  |.exit id'=>bif Nat.beq id' id then K .normal S' w' else K e S' w'
  |e=>K e S' w'
 |.scope b,S,w,K=>As C sps b S w λe S' w'=>match e with
  |.goto _=>False
  |e=>K e S' w'
 |.exit id,S,w,K=>K (.exit id) S w
 |.ret,S,w,K=>K .ret S w
 |.loop b,S,w,K=>match FX b with
  |none=>False
  |some key=>match zpx sps key with
   |none=>False
   |some sp=>bif zvs S sp (Xp b) then
     bif C.pm then
      ∃(Xo:List Va->Prop) (μ:List Va->Nat),zdm S sp Xo/\Fj sp.ks λvs=>Xo vs->As C sps b (YN S sp vs) w λe S' w'=>match e with
       |.normal=>zdm S' sp λvs'=>Xo vs'/\μ vs'<μ vs
       |e=>K e { S' with lk:=S.lk } w'
     else
      ∃(Xo:List Va->Wo->Prop) (μ:List Va->Wo->Nat),(∀wr,Q0 S.bs w wr->(∀b∈S.B,b<wr.heap.size)->zdm S sp λvs=>Xo vs wr)/\
       Fj sp.ks λvs=>∀w1,(∀b∈S.B,b<w1.heap.size)->Xo vs w1->As C sps b (YN S.bT sp vs) w1 λe S' w'=>match e with
       |.normal=>∀wr,Q0 S'.bs w' wr->(∀b∈S'.B,b<wr.heap.size)->zdm S' sp λvs'=>Xo vs' wr/\μ vs' wr<μ vs w1
       |e=>K e { S' with lk:=S.lk } w'
    else False
 |_,_,_,_=>False
structure Mc (C:V1) (S:St) (w:Wo) (ds:List Nat) (a:Act) (S':St) (w':Wo) (a':Act) (Wp:Wo):Prop where
 fit:TZ C.n S' a'
 rel:Zs S' w' Wp
 wf:Gt S'
 fr:Km S S'
 fra:DY ds a a'
 pm:C.pm->w'=w/\S'.old=S.old
def Mc.refl{C:V1}{S:St}{w wr:Wo}{a:Act}(ds:List Nat)(h1:TZ C.n S a)(h2:Zs S w wr)(h3:Gt S):Mc C S w ds a S w a wr:=⟨h1,h2,h3,Km.refl S,DY.refl _ _,λ_=>⟨rfl,rfl⟩⟩
def Mc.trans{C:V1}{S S1 S2:St}{w w1 w2 R5 R6:Wo}{ds es fs:List Nat}{a a1 a2:Act}(h:Mc C S w ds a S1 w1 a1 R5)(k:Mc C S1 w1 es a1 S2 w2 a2 R6)(hd:∀x∈ds,x∈fs)(he:∀x∈es,x∈fs):Mc C S w fs a S2 w2 a2 R6:=
 ⟨k.fit,k.rel,k.wf,h.fr.trans k.fr,(h.fra.mono hd).trans (k.fra.mono he),λhp=>⟨(k.pm hp).1.trans (h.pm hp).1,(k.pm hp).2.trans (h.pm hp).2⟩⟩
def Mc.mono{C:V1}{S S1:St}{w w1 R5:Wo}{ds fs:List Nat}{a a1:Act}(h:Mc C S w ds a S1 w1 a1 R5)(hd:∀x∈ds,x∈fs):Mc C S w fs a S1 w1 a1 R5:=
 ⟨h.fit,h.rel,h.wf,h.fr,h.fra.mono hd,h.pm⟩
def znh{C:V1}(E:zr0 C){id:Nat}{ops:Array Oper}{d:Bool}{S:St}{w wr:Wo}{a:Act}{K:St->Wo->Prop}{Q:Exit->Act->Wo->Prop}(h:zxs C ops d S w K)(hf:TZ C.n S a)(hw:Zs S w wr)(WK:Gt S)(hQ:∀S' w' a' Wp,K S' w'->Mc C S w (H1 ops.toList) a S' w' a' Wp->Q .normal a' Wp):(Code.region id ops d).wpIn (M7 C.rd) 0 C.P Q a wr:=by
 unfold zxs at h
 cases hu:BA ops with
 |false=>rw[hu] at h;exact h.elim
 |true=>
  rw[hu] at h;simp only[cond_true] at h;have vD:∀{S1:St} {w1 R5:Wo},Zs S1 w1 R5->Zs { S1 with r:=S1.r+1 } w1 R5:=λh=>⟨h.ext,h.loc,h.len,h.oN,h.fresh⟩
  have Cb3:Gt { S with r:=S.r+1 }:=⟨WK.old,WK.lk⟩
  cases d with
  |false=>
   simp only[cond_false] at h;refine wpIn_region_list ?_
   refine At E hu (S0:={ S with r:=S.r+1 }) (w0:=w) (a0:=a) (ds:=H1 ops.toList) (λx hx=>hx) (λS' w' a' Wp hK hf' hw' Ax2 qW hr' CG7 CI1=>?_) ops.toList 0 _ w wr a (λj=>by simp) Qs h
    (hf.enter ops _) (vD hw) Cb3 (Km.refl _) rfl (DY.refl _ _) (λ_=>⟨rfl,rfl⟩)
   exact hQ _ _ _ _ hK ⟨hf'.leave,vD hw',⟨Ax2.old,Ax2.lk⟩,⟨qW.B,qW.ty,qW.lk⟩,CG7,CI1⟩
  |true=>
   simp only[cond_true] at h
   cases hs:Region.noSelect ops with
   |false=>rw[hs] at h;exact h.elim
   |true=>
    rw[hs] at h;simp only[cond_true] at h
    have hp:=PV E hu hs (S0:={ S with r:=S.r+1 }) (w0:=w) (a0:=a) (ds:=H1 ops.toList) (λx hx=>hx) ops.size (Array.replicate ops.size false) [] [] _ w a h
     (λj o _ hl=>by
      rcases Nat.lt_or_ge j ops.size with h'|h'
      ·simp[h'] at hl
      ·rename_i ho;rw[Array.getElem?_eq_none h'] at ho;cases ho)
     (hf.enter ops _) Cb3 (Km.refl _) rfl (DY.refl _ _) (λ_=>⟨rfl,rfl⟩) (λp hp=>by cases hp)
    refine wpIn_region_any E.mixed (Gb (λa' R w' hPQ hR=>?_) ops.size _ [] a (Zs { S with r:=S.r+1 } w) { wr with drawn:=wr.drawn+1 } ?_ hp)
    ·obtain⟨S',w1,hK,hf',Ax2,qW,hr',CG7,CI1,rfl⟩:=hPQ;exact hQ _ _ _ _ hK ⟨hf',vD hR,⟨Ax2.old,Ax2.lk⟩,⟨qW.B,qW.ty,qW.lk⟩,CG7,CI1⟩
    ·exact⟨hw.ext.drawn _,hw.loc,hw.len,hw.oN,hw.fresh⟩
def NH{F:PT SV}:∀{l:List Nat} {i:Nat} {sv:SV},(∀x∈l,x<4000)->(zi5 F l).get i=some sv->i∈l/\F.get i=some sv/\∃e,sv=.un e
 |[],i,sv,_,h=>by simp[zi5,PT.get] at h
 |k::r,i,sv,hl,h=>by
  have hr:∀x∈r,x<4000:=λx hx=>hl x (I1 _ hx)
  simp only[zi5] at h
  split at h
  ·rename_i e he;rw[PT.kM _ 12 _ _ _ (by have h1:=hl k (I9 ..);show @LT.lt Nat _ (k+1) (2 ^ 12);omega)] at h
   by_cases hk:k=i
   ·subst hk;rw[C' rfl] at h;simp only[I0] at h;subst h;exact⟨I9 ..,he,e,rfl⟩
   ·rw[B' hk] at h;obtain⟨h1,h2,h3⟩:=NH hr h;exact⟨I1 _ h1,h2,h3⟩
  ·obtain⟨h1,h2,h3⟩:=NH hr h;exact⟨I1 _ h1,h2,h3⟩
def zjx{F:PT SV}:∀{uZ:List (Nat×CK)} {vs:List Va} {i:Nat} {sv:SV},(∀p∈uZ,p.1<4000)->(zti F uZ vs).get i=some sv->
  (∃(j:Nat) (k:CK) (v:Va),uZ[j]? = some (i,k)/\vs[j]? = some v/\sv=.un (.v v))\/F.get i=some sv
 |[],vs,i,sv,_,h=>.inr h
 |(a,k)::r,[],i,sv,_,h=>.inr h
 |(a,k)::r,v::vs,i,sv,hl,h=>by
  have hr:∀p∈r,p.1<4000:=λx hx=>hl x (I1 _ hx)
  simp only[zti] at h;rw[PT.kM _ 12 _ _ _ (by have h1:=hl (a,k) (I9 ..);show @LT.lt Nat _ (a+1) (2 ^ 12);simp only at h1;omega)] at h
  by_cases hk:a=i
  ·subst hk;rw[C' rfl] at h;simp only[I0] at h;exact .inl ⟨0,k,v,rfl,rfl,h.symm⟩
  ·rw[B' hk] at h;rcases zjx hr h with ⟨j,k',v',h1,h2,h3⟩|h1
   ·exact .inl ⟨j+1,k',v',by simpa using h1,by simpa using h2,h3⟩
   ·exact .inr h1
def UX{S:St}:∀{uZ:List (Nat×CK)} {xs:List Va},HD S uZ=some xs->xs.length=uZ.length/\∀(j i:Nat) (k:CK) (v:Va),uZ[j]? = some (i,k)->xs[j]? = some v->∃e,S.F.get i=some (.un e)/\z3e S e=some v
 |[],xs,h=>by simp only[HD,I0] at h;subst h;exact⟨rfl,λj i k v hj=>by simp at hj⟩
 |(a,k)::r,xs,h=>by
  simp only[HD] at h
  split at h
  ·rename_i e he
   split at h
   ·rename_i x l hx hl;simp only[I0] at h;subst h;obtain⟨h1,h2⟩:=UX hl;refine⟨by simp[h1],λj i k' v hj hv=>?_⟩
    cases j with
    |zero=>
     simp only[Ie,I0,Prod.mk.injEq] at hj hv;obtain⟨rfl,rfl⟩:=hj;subst hv;exact⟨e,he,hx⟩
    |succ j=>exact h2 j i k' v (by simpa using hj) (by simpa using hv)
   ·cases h
  ·cases h
def AA:∀{l:List Nat},zer l->l.Nodup
 |[],_=>List.nodup_nil
 |x::r,h=>by
  simp only[zer,A',ID] at h;exact List.nodup_cons.2 ⟨Le h.1,AA h.2⟩
def Lm{S':St}:∀{WC:List (Nat×List CK)} {L:List (TypeId×List Va)} {ys:List Va},(WC.map (·.1)).Nodup->Ls S' WC=some ys->(∀(id:Nat) (t:TypeId) (cs:List Va),L[id]? = some (t,cs)->∃nL,S'.L[id]? = some (t,nL))->
  (Vk L WC ys).length=L.length/\
  (∀(id:Nat),id∉WC.map (·.1)->(Vk L WC ys)[id]? = L[id]?)/\
  (∀(id:Nat) (t:TypeId) (cs:List Va),id∈WC.map (·.1)->(Vk L WC ys)[id]? = some (t,cs)->S'.L[id]? = some (t,cs))
 |[],L,ys,_,_,_=>⟨rfl,λ_ _=>rfl,λid t cs h=>by cases h⟩
 |(a,ks)::r,L,ys,hnd,hv,hty=>by
  have B20:=List.nodup_cons.1 (by simpa using hnd:(a::r.map (·.1)).Nodup);simp only[Ls] at hv
  split at hv
  ·rename_i t' nL l ha hl
   cases hb:Nat.beq nL.length ks.length with
   |false=>rw[hb] at hv;cases hv
   |true=>
    rw[hb] at hv;simp only[cond_true,I0] at hv;subst hv;have hlen:nL.length=ks.length:=Ib hb;have ht:(nL++l).take ks.length=nL:=by rw[<-hlen];exact List.take_left
    have hdr:(nL++l).drop ks.length=l:=by rw[<-hlen];exact List.drop_left
    simp only[Vk]
    cases hLa:L[a]? with
    |none=>
     simp only[hdr];obtain⟨h1,h2,h3⟩:=Lm (L:=L) B20.2 hl hty;refine⟨h1,λid bB=>h2 id (λh=>bB (I1 _ h)),λid t cs bB hc=>?_⟩;rcases Ii.1 bB with rfl|bB
     ·rw[h2 _ B20.1] at hc;rw[hLa] at hc;cases hc
     ·exact h3 id t cs bB hc
    |some q=>
     obtain⟨t0,c0⟩:=q;simp only[ht,hdr];have IW:a<L.length:=(I8.1 hLa).1;obtain⟨cs1,dE⟩:=hty a t0 c0 hLa;rw[ha] at dE;simp only[I0,Prod.mk.injEq] at dE;obtain⟨rfl,rfl⟩:=dE
     obtain⟨h1,h2,h3⟩:=Lm (L:=L.set a (t',nL)) B20.2 hl (λid t cs hc=>by
      by_cases he:a=id
      ·subst he;rw[List.getElem?_set_self IW] at hc;cases hc;exact⟨_,ha⟩
      ·rw[List.getElem?_set_ne he] at hc;exact hty id t cs hc)
     refine⟨by rw[h1];simp,λid bB=>?_,λid t cs bB hc=>?_⟩
     ·rw[h2 id (λh=>bB (I1 _ h))];exact List.getElem?_set_ne (λe=>bB (by subst e;exact I9 ..))
     ·rcases Ii.1 bB with rfl|bB
      ·rw[h2 _ B20.1] at hc;rw[List.getElem?_set_self IW] at hc;cases hc;exact ha
      ·exact h3 id t cs bB hc
  ·cases hv
structure EW (S:St) (sp:Yw) (ds:List Nat):Prop where
 A59:∀i∈sp.A59,i∉ds/\i<4000
 uZ:∀p∈sp.uZ,p.1<4000
 nd:(sp.WC.map (·.1)).Nodup
 WC:∀id∈sp.WC.map (·.1),id∉S.lk
def zfn{S:St}{sp:Yw}{ds:List Nat}(h:zvs S sp ds):EW S sp ds:=by
 simp only[zvs,A',List.all_eq_true,ID] at h;obtain⟨⟨⟨⟨h1,h2⟩,_⟩,h4⟩,h5⟩:=h;refine⟨λi hi=>⟨Le (h1 i hi).1,Ik (h1 i hi).2⟩,λp hp=>Ik (h2 p hp).1,AA h4,λid bB=>?_⟩;obtain⟨p,hp,rfl⟩:=List.mem_map.1 bB;have:=h5 p hp
 split at this
 ·simp only[A',ID] at this;exact Le this.2
 ·cases this
def M8{S:St}{sp:Yw}{id:Nat}:id∈DR S sp↔id<S.L.length/\id∉sp.WC.map (·.1):=by
 unfold DR;simp only[List.mem_filter,List.mem_range,ID];refine and_congr_right λ_=>?_
 constructor
 ·exact Le
 ·intro h;rw[Bool.eq_false_iff];intro hb;simp only[KE,List.any_eq_true] at hb;obtain⟨y,hy,he⟩:=hb;exact h (Ib he▸hy)
def zdj{n:Nat}{S S':St}{sp:Yw}{ds:List Nat}(hs:EW S sp ds){a a':Act}(hf:TZ n S a)(hf':TZ n S' a')(hfa:DY ds a a'){xs ys:List Va}(hx:HD S' sp.uZ=some xs):TZ n (YN S sp (xs++ys)) a':=by
 obtain⟨hxl,hxg⟩:=UX hx;have htk:(xs++ys).take sp.uZ.length=xs:=by rw[<-hxl];exact List.take_left
 have AM5:∀i sv,(YN S sp (xs++ys)).F.get i=some sv->(∃(j:Nat) (k:CK) (v:Va),sp.uZ[j]? = some (i,k)/\xs[j]? = some v/\sv=.un (.v v))\/(i∈sp.A59/\S.F.get i=some sv/\∃e,sv=.un e):=λi sv h=>by
  simp only[YN,htk] at h;rcases zjx (λp hp=>hs.uZ p hp) h with h1|h1
  ·exact .inl h1
  ·exact .inr (NH (λx hx=>(hs.A59 x hx).2) h1)
 refine⟨hf'.size,λi x h=>?_,λi r pc x h=>?_⟩
 ·rcases AM5 i _ h with ⟨j,k,v,h1,h2,h3⟩|⟨h1,h2,_⟩
  ·obtain⟨e,he,hv⟩:=hxg j i k v h1 h2;have:=za1 hv (hf'.fits i e he);cases h3;exact this
  ·have h3:=hf.fits i x h2;rw[<-hfa.2.2 i (hs.A59 i h1).1] at h3;exact EV.gE (S:=S) (λ_ _ h=>h) h3
 ·rcases AM5 i _ h with ⟨j,k,v,h1,h2,h3⟩|⟨h1,h2,e,h3⟩ <;> cases h3
def zj8{l m:List Nat}{k:Nat}(hk:k<=l.length)(h:∀(i b:Nat),l[i]? = some b->m[i]? = some b):m.take k=l.take k:=by
 apply List.ext_getElem?
 intro i;rw[List.getElem?_take,List.getElem?_take]
 by_cases hi:i<k
 ·rw[C' hi,C' hi];have hl:i<l.length:=Nat.lt_of_lt_of_le hi hk;rw[h i l[i] (Il hl),Il hl]
 ·rw[B' hi,B' hi]
def zdk{S S':St}{sp:Yw}{w w' wr Wp:Wo}{ds:List Nat}(hs:EW S sp ds)(hw:Zs S w wr)(hw':Zs S' w' Wp)(hB:∀(id b:Nat),S.B[id]? = some b->S'.B[id]? = some b)(hty:∀(id:Nat) (t:TypeId) (cs:List Va),S.L[id]? = some (t,cs)->∃nL,S'.L[id]? = some (t,nL))(hlk:∀id,id<S.L.length->id∉sp.WC.map (·.1)->S'.L[id]? = S.L[id]?){xs ys:List Va}(hxl:xs.length=sp.uZ.length)(hy:Ls S' sp.WC=some ys) :
  (YN S sp (xs++ys)).L.length=S.L.length/\∀(id:Nat) (t:TypeId) (cs:List Va),(YN S sp (xs++ys)).L[id]? = some (t,cs)->∃b,S.B[id]? = some b/\Wp.heap[b]? = some (Obj.cells cs.toArray t (0,0)):=by
 have hdr:(xs++ys).drop sp.uZ.length=ys:=by rw[<-hxl];exact List.drop_left
 obtain⟨h1,h2,h3⟩:=Lm (L:=S.L) hs.nd hy hty;have hL:(YN S sp (xs++ys)).L=Vk S.L sp.WC ys:=by simp only[YN,hdr]
 rw[hL];refine⟨h1,λid t cs hc=>?_⟩;have bB:id<S.L.length:=by rw[<-h1];exact(I8.1 hc).1
 have hb:S.B[id]? = some (S.B[id]'(by rw[<-hw.len];exact bB)):=Il _
 have hS':S'.L[id]? = some (t,cs):=by
  by_cases hm:id∈sp.WC.map (·.1)
  ·exact h3 id t cs hm hc
  ·rw[h2 id hm] at hc;rw[hlk id bB hm];exact hc
 obtain⟨b',gV,hh⟩:=hw'.loc id t cs hS';rw[hB _ _ hb] at gV;cases gV;exact⟨_,hb,hh⟩
def L2{S:St}{sp:Yw}{K:List Va->Prop}(h:zdm S sp K):∃xs ys,HD S sp.uZ=some xs/\Ls S sp.WC=some ys/\Ud sp.ks (xs++ys)/\K (xs++ys):=by
 unfold zdm at h
 split at h
 ·rename_i xs ys hx hy
  cases hk:Ud sp.ks (xs++ys) with
  |false=>rw[hk] at h;exact h.elim
  |true=>rw[hk] at h;exact⟨xs,ys,hx,hy,hk,h⟩
 ·exact h.elim
def znu{S S':St}{sp:Yw}{ds:List Nat}(hs:EW S sp ds)(WK:Gt S){vs:List Va}(hL:(YN S sp vs).L.length=S.L.length)(hLt:∀(id:Nat) (t:TypeId) (cs:List Va),S.L[id]? = some (t,cs)->∃nL,(YN S sp vs).L[id]? = some (t,nL))(hLk:∀id,id∉sp.WC.map (·.1)->(YN S sp vs).L[id]? = S.L[id]?)(vJ:Km (YN S sp vs) S'):Km S { S' with lk:=S.lk }/\(∀id,id<S.L.length->id∉sp.WC.map (·.1)->S'.L[id]? = S.L[id]?):=by
 have h2:∀id,id<S.L.length->id∉sp.WC.map (·.1)->S'.L[id]? = S.L[id]? := λid bB hm=>by
  have:=vJ.lk id (M8.2 ⟨bB,hm⟩);rw[this.2,hLk id hm]
 refine⟨⟨λid b hb=>vJ.B id b hb,λid t cs hc=>?_,λid bB=>⟨bB,h2 id (WK.lk id bB) (λhm=>hs.WC id hm bB)⟩⟩,h2⟩;obtain⟨cs1,h1⟩:=hLt id t cs hc;exact vJ.ty id t cs1 h1
def zji{S:St}:∀{l:List (TypeId×List CK)} {n:Nat} {zs:List Va},zjh S n l=some zs->(Hk l zs).length=l.length/\(∀j,j<l.length->n+j<S.L.length)/\∀j,(Hk l zs)[j]? = if j<l.length then S.L[n+j]? else none
 |[],n,zs,h=>⟨rfl,λj hj=>Ir hj (Nat.not_lt_zero j),λj=>by simp[Hk]⟩
 |(t,ks)::r,n,zs,h=>by
  simp only[zjh] at h
  split at h
  ·rename_i t' cs l hL hl
   cases hb:Nat.beq t' t&&Nat.beq cs.length ks.length with
   |false=>rw[hb] at h;cases h
   |true=>
    rw[hb] at h;simp only[cond_true,I0] at h;subst h;simp only[A'] at hb;have h1:=Ib hb.1;have h2:=Ib hb.2;subst h1;obtain⟨g1,g2,g3⟩:=zji hl;have ht:(cs++l).take ks.length=cs:=by rw[<-h2];exact List.take_left
    have hdr:(cs++l).drop ks.length=l:=by rw[<-h2];exact List.drop_left
    simp only[Hk,ht,hdr];refine⟨by simp[g1],λj hj=>?_,λj=>?_⟩
    ·cases j with
     |zero=>exact(I8.1 hL).1
     |succ j=>have:=g2 j (by simpa using hj);omega
    ·cases j with
     |zero=>simp[hL]
     |succ j=>
      have:=g3 j;simp only[List.getElem?_cons_succ,List.length_cons];rw[this];have e:n+1+j=n+(j+1):=Qo;rw[e]
      by_cases hj:j<r.length
      ·rw[C' hj,C' Qo]
      ·rw[B' hj,B' Qo]
  ·cases h
def zq4{S:St}{n k:Nat}{l:List (Nat×Nat)}(h:zjo S n k l):∀p∈l,p.1<4000/\p.2<k/\S.F.get p.1=some (.un (.loc (n+p.2) 0)):=λp hp=>by
 simp only[zjo,List.all_eq_true,A'] at h;obtain⟨⟨h1,h2⟩,h3⟩:=h p hp;refine⟨Ik h1,Ik h2,?_⟩
 split at h3
 ·rename_i id bB;rw[bB,Ib h3]
 ·cases h3
def Aa{F:PT SV}{n:Nat}:∀{l:List (Nat×Nat)} {i:Nat} {sv:SV},(∀p∈l,p.1<4000)->(zth F n l).get i=some sv->(∃j,(i,j)∈l/\sv=.un (.loc (n+j) 0))\/F.get i=some sv
 |[],i,sv,_,h=>.inr h
 |(a,j)::r,i,sv,hl,h=>by
  have hr:∀p∈r,p.1<4000:=λx hx=>hl x (I1 _ hx)
  simp only[zth] at h;rw[PT.kM _ 12 _ _ _ (by have h1:=hl (a,j) (I9 ..);show @LT.lt Nat _ (a+1) (2 ^ 12);simp only at h1;omega)] at h
  by_cases hk:a=i
  ·subst hk;rw[C' rfl] at h;simp only[I0] at h;exact .inl ⟨j,I9 ..,h.symm⟩
  ·rw[B' hk] at h;rcases Aa hr h with ⟨q,h1,h2⟩|h1
   ·exact .inl ⟨q,I1 _ h1,h2⟩
   ·exact .inr h1
def zi4{S S':St}{sp:Yw}{K:List Va->List Nat->Prop}(h:zsn S S' sp K):∃xs ys zs,HD S' sp.uZ=some xs/\Ls S' sp.WC=some ys/\zjh S' S.L.length sp.aY=some zs/\Ud sp.ks (xs++ys)/\Ud sp.nks zs/\zjo S' S.L.length sp.aY.length sp.ptr/\
  K (xs++ys++zs) ((S'.B.drop S.B.length).take sp.aY.length):=by
 unfold zsn at h
 split at h
 ·rename_i zs hz
  cases hb:Ud sp.nks zs&&zjo S' S.L.length sp.aY.length sp.ptr with
  |false=>rw[hb] at h;exact h.elim
  |true=>
   rw[hb] at h;simp only[cond_true] at h;simp only[A'] at hb;obtain⟨xs,ys,h1,h2,h3,h4⟩:=L2 h;exact⟨xs,ys,zs,h1,h2,hz,h3,hb.1,hb.2,h4⟩
 ·exact h.elim
def zvk{l m:List Nat}(h:∀(i b:Nat),l[i]? = some b->m[i]? = some b):m.take l.length=l:=by
 have:=zj8 (I7 l.length) h;rw[this,List.take_length]
def zso{n:Nat}{S S':St}{sp:Yw}{w w' wr Wp:Wo}{ds:List Nat}{a a':Act}(hs:EW S sp ds)(hf:TZ n S a)(hw:Zs S w wr)(WK:Gt S)(hf':TZ n S' a')(hw':Zs S' w' Wp)(hfa:DY ds a a')(vJ:Km { S with lk:=DR S sp } S'){xs ys zs:List Va}(hx:HD S' sp.uZ=some xs)(hy:Ls S' sp.WC=some ys)(hz:zjh S' S.L.length sp.aY=some zs)(hp:zjo S' S.L.length sp.aY.length sp.ptr) :
  ((S'.B.drop S.B.length).take sp.aY.length).length=sp.aY.length/\(∀b∈S.B++(S'.B.drop S.B.length).take sp.aY.length,b∈S'.B)/\
  TZ n (DI S sp (xs++ys) zs ((S'.B.drop S.B.length).take sp.aY.length)) a'/\Gt (DI S sp (xs++ys) zs ((S'.B.drop S.B.length).take sp.aY.length))/\Km S (DI S sp (xs++ys) zs ((S'.B.drop S.B.length).take sp.aY.length))/\
  Zs (DI S sp (xs++ys) zs ((S'.B.drop S.B.length).take sp.aY.length)).bT Wp Wp/\(w'=w->S'.old=S.old->Zs (DI S sp (xs++ys) zs ((S'.B.drop S.B.length).take sp.aY.length)) w Wp):=by
 obtain⟨n1,n2,n3⟩:=zji hz;have hB:∀(id b:Nat),S.B[id]? = some b->S'.B[id]? = some b:=vJ.B;have CZ7:=zvk hB;have CX5:=hw.len;have Cz0:=hw'.len
 have hk:S.B.length+sp.aY.length<=S'.B.length:=by
  rcases Nat.eq_zero_or_pos sp.aY.length with h0|h0
  ·have:S.B.length<=S'.B.length:=by
    have:=congrArg List.length CZ7;rw[List.length_take] at this;omega
   omega
  ·have:=n2 (sp.aY.length-1) Qo;omega
 have vI:((S'.B.drop S.B.length).take sp.aY.length).length=sp.aY.length:=by rw[List.length_take,List.length_drop];omega
 have hGB:S.B++(S'.B.drop S.B.length).take sp.aY.length=S'.B.take (S.B.length+sp.aY.length):=by
  rw[List.take_add,CZ7]
 have A41:∀(id b:Nat),id<S.B.length+sp.aY.length->S'.B[id]? = some b->(S.B++(S'.B.drop S.B.length).take sp.aY.length)[id]? = some b:=λid b bB hb=>by
  rw[hGB,List.getElem?_take,C' bB];exact hb
 have CE8:∀(id b:Nat),(S.B++(S'.B.drop S.B.length).take sp.aY.length)[id]? = some b->S'.B[id]? = some b:=λid b hb=>by
  rw[hGB,List.getElem?_take] at hb
  split at hb
  ·exact hb
  ·cases hb
 obtain⟨t1,t2⟩:=Lm (L:=S.L) hs.nd hy vJ.ty;have hlk:∀id,id<S.L.length->id∉sp.WC.map (·.1)->S'.L[id]? = S.L[id]? := λid bB hm=>(vJ.lk id (M8.2 ⟨bB,hm⟩)).2
 have hxl:=(UX hx).1;obtain⟨g1,g2⟩:=zdk hs hw hw' hB vJ.ty hlk hxl hy;have hhf:=zdj (ys:=ys) hs hf hf' hfa hx;have hdr:(xs++ys).drop sp.uZ.length=ys:=by rw[<-hxl];exact List.drop_left
 have hL:(YN S sp (xs++ys)).L=Vk S.L sp.WC ys:=by simp only[YN,hdr]
 have hpp:=zq4 hp
 have CG9:TZ n (DI S sp (xs++ys) zs ((S'.B.drop S.B.length).take sp.aY.length)) a':=by
  have CY3:∀(id b:Nat),(YN S sp (xs++ys)).B[id]? = some b->(DI S sp (xs++ys) zs ((S'.B.drop S.B.length).take sp.aY.length)).B[id]? = some b:=λid b hb=>by
   have gV:S.B[id]? = some b:=hb;exact A41 id b (by have:=(I8.1 gV).1;omega) (hB id b gV)
  refine⟨hhf.size,λi x h=>?_,λi r pc x h=>?_⟩
  ·rcases Aa (λp hp=>(hpp p hp).1) h with ⟨j,h1,h2⟩|h1
   ·obtain⟨_,hj,hF⟩:=hpp (i,j) h1;have hd:=hf'.fits i _ hF;cases h2;obtain⟨b,hb,hv⟩:=hd;exact⟨b,A41 _ _ (by simp only at hj;omega) hb,hv⟩
   ·exact EV.gE (S:=YN S sp (xs++ys)) CY3 (hhf.fits i x h1)
  ·rcases Aa (λp hp=>(hpp p hp).1) h with ⟨j,h1,h2⟩|h1
   ·cases h2
   ·exact hhf.old i r pc x h1
 have lU:∀(id:Nat) (t:TypeId) (cs:List Va),((YN S sp (xs++ys)).L++Hk sp.aY zs)[id]? = some (t,cs)->∃b,(S.B++(S'.B.drop S.B.length).take sp.aY.length)[id]? = some b/\Wp.heap[b]? = some (Obj.cells cs.toArray t (0,0)):=λid t cs hc=>by
  by_cases bB:id<S.L.length
  ·rw[Ip (by rw[g1];exact bB)] at hc;obtain⟨b,h1,h2⟩:=g2 id t cs hc;exact⟨b,A41 id b Qo (hB id b h1),h2⟩
  ·rw[List.getElem?_append_right (by rw[g1];omega),g1,n3] at hc
   split at hc
   ·rename_i IW;have e:S.L.length+(id-S.L.length)=id:=Qo;rw[e] at hc;obtain⟨b,h1,h2⟩:=hw'.loc id t cs hc;exact⟨b,A41 id b Qo h1,h2⟩
   ·cases hc
 have hlen:((YN S sp (xs++ys)).L++Hk sp.aY zs).length=(S.B++(S'.B.drop S.B.length).take sp.aY.length).length:=by
  rw[Io,Io,g1,n1,vI,CX5]
 have hnd:(S.B++(S'.B.drop S.B.length).take sp.aY.length).Nodup:=by
  rw[hGB];exact hw'.oN.sublist (List.take_sublist _ _)
 refine⟨vI,λb hb=>by rw[hGB] at hb;exact List.mem_of_mem_take hb,CG9,⟨?_,λid bB=>?_⟩,⟨λid b hb=>?_,λid t cs hc=>?_,λid bB=>⟨bB,?_⟩⟩,⟨?_,lU,hlen,hnd,λid b bB hb=>?_⟩,λe1 e2=>⟨?_,lU,hlen,hnd,λid b bB hb=>?_⟩⟩
 ·show S.old<=(S.B++(S'.B.drop S.B.length).take sp.aY.length).length;have:=WK.old;rw[Io];omega
 ·show id<((YN S sp (xs++ys)).L++Hk sp.aY zs).length;have:=WK.lk id bB;rw[Io,g1];omega
 ·exact A41 id b (by have:=(I8.1 hb).1;omega) (hB id b hb)
 ·have bB:id<S.L.length:=(I8.1 hc).1;obtain⟨u1,u2⟩:(∀(id:Nat) (t:TypeId) (cs:List Va),id∈sp.WC.map (·.1)->(Vk S.L sp.WC ys)[id]? = some (t,cs)->S'.L[id]? = some (t,cs))/\True:=⟨t2.2,trivial⟩;have IW:id<(Vk S.L sp.WC ys).length:=by rw[t1];exact bB
  have hg:(Vk S.L sp.WC ys)[id]? = some (((Vk S.L sp.WC ys)[id]).1,((Vk S.L sp.WC ys)[id]).2):=Il IW;show ∃nL,((YN S sp (xs++ys)).L++Hk sp.aY zs)[id]? = some (t,nL);rw[Ip (by rw[g1];exact bB),hL]
  by_cases hm:id∈sp.WC.map (·.1)
  ·have h4:=u1 id _ _ hm hg;obtain⟨nL,h5⟩:=vJ.ty id t cs hc;rw[h5] at h4;simp only[I0,Prod.mk.injEq] at h4;exact⟨((Vk S.L sp.WC ys)[id]).2,by rw[hg,<-h4.1]⟩
  ·exact⟨cs,by rw[t2.1 id hm];exact hc⟩
 ·have IW:=WK.lk id bB;show ((YN S sp (xs++ys)).L++Hk sp.aY zs)[id]? = S.L[id]?;rw[Ip (by rw[g1];exact IW),hL,t2.1 id λhm=>hs.WC id hm bB]
 ·exact Q0.refl _ _
 ·have h1:id<(S.B++(S'.B.drop S.B.length).take sp.aY.length).length:=(I8.1 hb).1;have h2:(S.B++(S'.B.drop S.B.length).take sp.aY.length).length<=id:=bB;omega
 ·have hbs:(DI S sp (xs++ys) zs ((S'.B.drop S.B.length).take sp.aY.length)).bs=S'.bs:=by
   show (S.B++(S'.B.drop S.B.length).take sp.aY.length).take S.old=S'.B.take S'.old;rw[e2];have h1:=WK.old;rw[hGB,List.take_take,Nat.min_eq_left Qo]
  rw[hbs,<-e1];exact hw'.ext
 ·have h1:S'.B[id]? = some b:=CE8 id b hb;have:=hw'.fresh id b (by rw[e2];exact bB) h1;rw[e1] at this;exact this
structure z0n (C:V1) (S:St) (w:Wo) (ds:List Nat) (a:Act) (sp:Yw) (vs:List Va) (w1:Wo) (a':Act) (Wp:Wo):Prop where
 fit:TZ C.n (YN S sp vs) a'
 rel:Zs (YN S sp vs) w1 Wp
 wf:Gt (YN S sp vs)
 fra:DY ds a a'
def zdl{S S':St}{sp:Yw}(hnd:(sp.WC.map (·.1)).Nodup)(hty:∀(id:Nat) (t:TypeId) (cs:List Va),S.L[id]? = some (t,cs)->∃nL,S'.L[id]? = some (t,nL)){xs ys:List Va}(hxl:xs.length=sp.uZ.length)(hy:Ls S' sp.WC=some ys) :
  (∀(id:Nat) (t:TypeId) (cs:List Va),S.L[id]? = some (t,cs)->∃nL,(YN S sp (xs++ys)).L[id]? = some (t,nL))/\(∀id,id∉sp.WC.map (·.1)->(YN S sp (xs++ys)).L[id]? = S.L[id]?):=by
 have hdr:(xs++ys).drop sp.uZ.length=ys:=by rw[<-hxl];exact List.drop_left
 obtain⟨h1,h2,h3⟩:=Lm (L:=S.L) hnd hy hty;have hL:(YN S sp (xs++ys)).L=Vk S.L sp.WC ys:=by simp only[YN,hdr]
 rw[hL];refine⟨λid t cs hc=>?_,h2⟩;have bB:id<(Vk S.L sp.WC ys).length:=by rw[h1];exact(I8.1 hc).1
 by_cases hm:id∈sp.WC.map (·.1)
 ·have hg:(Vk S.L sp.WC ys)[id]? = some (((Vk S.L sp.WC ys)[id]).1,((Vk S.L sp.WC ys)[id]).2):=Il bB;have h4:=h3 id _ _ hm hg;obtain⟨nL,h5⟩:=hty id t cs hc;rw[h5] at h4;simp only[I0,Prod.mk.injEq] at h4;exact⟨((Vk S.L sp.WC ys)[id]).2,by rw[hg,<-h4.1]⟩
 ·exact⟨cs,by rw[h2 id hm];exact hc⟩
def B7{n:Nat}{S:St}{a:Act}(hf:TZ n S a){x:Operand}{e:EV}(hb:zf0 S [] x=some e):EV.den S e (a.eval x):=by
 have:=Yo (ops:=#[]) (hf.enter #[] (λ_=>False)).fit (pc:=[]) (λp hp=>by cases hp) (S:={ S with r:=S.r+1 }) (x:=x) (e:=e) (by
  cases x with
  |tmp t=>
   simp only[zf0] at hb ⊢
   split at hb
   ·exact hb
   ·rename_i r vG y hg
    cases cD:Nat.beq r S.r&&zfb vG [] with
    |false=>rw[cD] at hb;cases hb
    |true=>
     simp only[A'] at cD;have:=Ib cD.1;have h2:=hf.old t r vG y hg;omega
   ·cases hb
  |const v=>exact hb
  |global g=>exact hb
  |func f=>exact hb)
 exact EV.gE (S:={ S with r:=S.r+1 }) (λ_ _ h=>h) this
def zmh(S:St)(c:Operand)(x:Bool):(sM S c x).L=S.L/\(sM S c x).B=S.B/\(sM S c x).old=S.old/\(sM S c x).lk=S.lk/\(sM S c x).r=S.r:=by
 unfold sM;split
 ·cases Nat.blt _ 4000 <;> exact⟨rfl,rfl,rfl,rfl,rfl⟩
 ·exact⟨rfl,rfl,rfl,rfl,rfl⟩
def TZ.sM{n:Nat}{S:St}{a:Act}(hf:TZ n S a){c:Operand}{x:Bool}(hc:a.eval c=.bool x):TZ n (sM S c x) a:=by
 unfold YtjinkcmkgnofjaaGreatDoor.sM;split
 ·rename_i t
  cases hl:Nat.blt t 4000 with
  |false=>exact hf
  |true=>
   have IW:t<4000:=Ik hl;have hg:∀i,(PT.set 12 S.F t (.un (.kb x))).get i=if t=i then some (.un (.kb x)) else S.F.get i:=λi=>PT.kM _ 12 S.F t i (by have h1 : @LT.lt Nat _ t 4000:=IW;show @LT.lt Nat _ (t+1) (2 ^ 12);omega)
   refine⟨hf.size,λi y hy=>?_,λi r pc y hy=>?_⟩
   ·have hy:(PT.set 12 S.F t (.un (.kb x))).get i=some (.un y):=hy;rw[hg i] at hy
    by_cases hti:t=i
    ·subst hti;rw[C' rfl] at hy;simp only[I0,SV.un.injEq] at hy;subst hy;exact hc
    ·rw[B' hti] at hy;exact EV.gE (S:=S) (λ_ _ h=>h) (hf.fits i y hy)
   ·have hy:(PT.set 12 S.F t (.un (.kb x))).get i=some (.gd r pc y):=hy;rw[hg i] at hy
    by_cases hti:t=i
    ·rw[C' hti] at hy;cases hy
    ·rw[B' hti] at hy;exact hf.old i r pc y hy
 ·exact hf
def zo0{S:St}{w wr:Wo}{c:Operand}{x:Bool}(h:Zs S w wr):Zs (sM S c x) w wr:=by
 obtain⟨h1,h2,h3,h4,h5⟩:=zmh S c x;refine⟨?_,?_,?_,?_,?_⟩
 ·unfold St.bs;rw[h2,h3];exact h.ext
 ·rw[h1,h2];exact h.loc
 ·rw[h1,h2];exact h.len
 ·rw[h2];exact h.oN
 ·rw[h2,h3];exact h.fresh
def ztg{S:St}{c:Operand}{x:Bool}(h:Gt S):Gt (sM S c x):=by
 obtain⟨h1,h2,h3,h4,h5⟩:=zmh S c x;exact⟨by rw[h2,h3];exact h.old,by rw[h1,h4];exact h.lk⟩
def zoz{C:V1}{S:St}{w:Wo}{ds:List Nat}{a:Act}{S':St}{w':Wo}{a':Act}{Wp:Wo}{c:Operand}{x:Bool}(h:Mc C (sM S c x) w ds a S' w' a' Wp):Mc C S w ds a S' w' a' Wp:=by
 obtain⟨h1,h2,h3,h4,h5⟩:=zmh S c x;refine⟨h.fit,h.rel,h.wf,⟨?_,?_,?_⟩,h.fra,?_⟩
 ·have:=h.fr.B;rw[h2] at this;exact this
 ·have:=h.fr.ty;rw[h1] at this;exact this
 ·have:=h.fr.lk;rw[h1,h4] at this;exact this
 ·have:=h.pm;rw[h3] at this;exact this
def Yx{C:V1}(E:zr0 C){sps:List (Nat×Yw)}:∀(c:Code) (S:St) (w wr:Wo) (a:Act) (K:Exit->St->Wo->Prop) (Q:Exit->Act->Wo->Prop),As C sps c S w K->TZ C.n S a->Zs S w wr->Gt S->
  (∀e S' w' a' Wp,K e S' w'->Mc C S w (Xp c) a S' w' a' Wp->Q e a' Wp)->c.wpIn (M7 C.rd) 0 C.P Q a wr
 |.skip,S,w,wr,a,K,Q,h,hf,hw,WK,hQ=>wpIn_skip (hQ _ _ _ _ _ h (Mc.refl _ hf hw WK))
 |.label _,S,w,wr,a,K,Q,h,hf,hw,WK,hQ=>wpIn_label (hQ _ _ _ _ _ h (Mc.refl _ hf hw WK))
 |.exit _,S,w,wr,a,K,Q,h,hf,hw,WK,hQ=>wpIn_exit (hQ _ _ _ _ _ h (Mc.refl _ hf hw WK))
 |.ret,S,w,wr,a,K,Q,h,hf,hw,WK,hQ=>wpIn_ret (hQ _ _ _ _ _ h (Mc.refl _ hf hw WK))
 |.region _ ops d,S,w,wr,a,K,Q,h,hf,hw,WK,hQ=>znh E h hf hw WK λS' w' a' Wp hK he=>hQ _ _ _ _ _ hK he
 |.seq x y,S,w,wr,a,K,Q,h,hf,hw,WK,hQ=>by
  have Az2:∀z∈Xp x,z∈Xp (.seq x y):=λz hz=>Ia _ hz
  have Bf0:∀z∈Xp y,z∈Xp (.seq x y):=λz hz=>Iy _ hz
  simp only[As] at h
  split at h
  ·refine wpIn_seq (Yx E x S w wr a _ _ h hf hw WK λe S' w' a' Wp hK he=>?_)
   cases e with
   |normal=>exact Yx E y S' w' Wp a' _ _ hK he.fit he.rel he.wf λe2 S2 w2 a2 R6 fZ bH=>hQ _ _ _ _ _ fZ (he.trans bH Az2 Bf0)
   |_=>exact hQ _ _ _ _ _ hK (he.mono Az2)
  ·rename_i sp _
   cases hok:zvs S sp (Xp x) with
   |false=>rw[hok] at h;exact h.elim
   |true=>
    rw[hok] at h;simp only[cond_true] at h;have hs:=zfn hok;have hf0:TZ C.n { S with lk:=DR S sp } a:=⟨hf.size,hf.fits,hf.old⟩;have hw0:Zs { S with lk:=DR S sp } w wr:=⟨hw.ext,hw.loc,hw.len,hw.oN,hw.fresh⟩;have Cb2:Gt { S with lk:=DR S sp }:=⟨WK.old,λid bB=>(M8.1 bB).1⟩
    have out:∀{S':St} {w':Wo} {a':Act} {Wp:Wo},Mc C { S with lk:=DR S sp } w (Xp x) a S' w' a' Wp->Mc C S w (Xp (.seq x y)) a { S' with lk:=S.lk } w' a' Wp:=λ{S' w' a' Wp} he=>by
     have f1:Km S { S' with lk:=S.lk }:=⟨he.fr.B,he.fr.ty,λid bB=>⟨bB,(he.fr.lk id (M8.2 ⟨WK.lk id bB,λhm=>hs.WC id hm bB⟩)).2⟩⟩
     exact⟨⟨he.fit.size,he.fit.fits,he.fit.old⟩,⟨he.rel.ext,he.rel.loc,he.rel.len,he.rel.oN,he.rel.fresh⟩,⟨he.wf.old,λid bB=>by
      obtain⟨nL,hc'⟩:=f1.ty id (S.L[id]'(WK.lk id bB)).1 (S.L[id]'(WK.lk id bB)).2 (Il _);exact(I8.1 hc').1⟩,f1,he.fra.mono Az2,he.pm⟩
    cases jZ:C.pm with
    |true=>
     rw[jZ] at h;simp only[cond_true] at h;obtain⟨vR,h1,h2⟩:=h;refine wpIn_seq (Yx E x _ w wr a _ _ h1 hf0 hw0 Cb2 λe S' w' a' Wp hK he=>?_)
     cases e with
     |normal=>
      obtain⟨xs,ys,zs,g1,g2,g3,g4,g5,g6,g7⟩:=zi4 hK;obtain⟨j1,j2,j3,j4,j5,j6,j7⟩:=zso hs hf hw WK he.fit he.rel he.fra he.fr g1 g2 g3 g6;obtain⟨p1,p2⟩:=he.pm jZ;refine Yx E y _ w Wp a' _ _ (N1 (Oj (Oj h2 g4) g5) j1 g7) j3 (j7 p1 p2) j4 λe2 S2 w2 a2 R6 fZ bH=>hQ _ _ _ _ _ fZ ⟨bH.fit,bH.rel,bH.wf,j5.trans bH.fr,(he.fra.mono Az2).trans (bH.fra.mono Bf0),λhp=>bH.pm hp⟩
     |_=>exact hQ _ _ _ _ _ hK (out he)
    |false=>
     rw[jZ] at h;simp only[cond_false] at h;obtain⟨vR,h1,h2⟩:=h;refine wpIn_seq (Yx E x _ w wr a _ _ h1 hf0 hw0 Cb2 λe S' w' a' Wp hK he=>?_)
     cases e with
     |normal=>
      obtain⟨xs,ys,zs,g1,g2,g3,g4,g5,g6,g7⟩:=zi4 (hK Wp he.rel.ext he.rel.lt);obtain⟨j1,j2,j3,j4,j5,j6,j7⟩:=zso hs hf hw WK he.fit he.rel he.fra he.fr g1 g2 g3 g6;refine Yx E y _ Wp Wp a' _ _ (N1 (Oj (Oj h2 g4) g5) j1 Wp (λb hb=>he.rel.lt b (j2 b hb)) g7) ⟨j3.size,j3.fits,j3.old⟩ j6 ⟨I7 _,j4.lk⟩ λe2 S2 w2 a2 R6 fZ bH=>hQ _ _ _ _ _ fZ ⟨bH.fit,bH.rel,bH.wf,j5.trans ⟨bH.fr.B,bH.fr.ty,bH.fr.lk⟩,(he.fra.mono Az2).trans (bH.fra.mono Bf0),λhp=>by rw[jZ] at hp;cases hp⟩
     |_=>exact hQ _ _ _ _ _ hK (out he)
 |.cond c x y,S,w,wr,a,K,Q,h,hf,hw,WK,hQ=>by
  simp only[As] at h
  split at h
  ·rename_i hb;have hc:a.eval c=.bool true:=B7 hf hb;refine wpIn_cond_split hc (λhb=>?_) (λhb=>by cases hb);exact Yx E x S w wr a _ _ h hf hw WK λe S' w' a' Wp hK he=>hQ _ _ _ _ _ hK (he.mono λz hz=>Ia _ hz)
  ·rename_i hb;have hc:a.eval c=.bool false:=B7 hf hb;refine wpIn_cond_split hc (λhb=>by cases hb) (λhb=>?_);exact Yx E y S w wr a _ _ h hf hw WK λe S' w' a' Wp hK he=>hQ _ _ _ _ _ hK (he.mono λz hz=>Iy _ hz)
  ·rename_i b hb;have hc:a.eval c=.bool b:=B7 hf hb;refine wpIn_cond_split hc (λhb=>?_) (λhb=>?_)
   ·subst hb;exact Yx E x (sM S c true) w wr a _ _ (h.1 rfl) (hf.sM hc) (zo0 hw) (ztg WK) λe S' w' a' Wp hK he=>hQ _ _ _ _ _ hK ((zoz he).mono λz hz=>Ia _ hz)
   ·subst hb;exact Yx E y (sM S c false) w wr a _ _ (h.2 rfl) (hf.sM hc) (zo0 hw) (ztg WK) λe S' w' a' Wp hK he=>hQ _ _ _ _ _ hK ((zoz he).mono λz hz=>Iy _ hz)
  ·exact h.elim
 |.scope b,S,w,wr,a,K,Q,h,hf,hw,WK,hQ=>by
  refine DA (Yx E b S w wr a _ _ h hf hw WK λe S' w' a' Wp hK he=>?_)
  cases e with
  |goto l=>exact hK.elim
  |_=>exact hQ _ _ _ _ _ hK he
 |.block id b,S,w,wr,a,K,Q,h,hf,hw,WK,hQ=>by
  refine wpIn_block (Yx E b S w wr a _ _ h hf hw WK λe S' w' a' Wp hK he=>?_)
  cases e with
  |exit id'=>
   simp only[Exit.inBlock]
   dsimp only at hK
   cases hb:Nat.beq id' id with
   |true=>
    rw[hb] at hK;rw[C' (Ib hb)];exact hQ _ _ _ _ _ hK he
   |false=>
    rw[hb] at hK;rw[B' (λe=>by rw[e,Nat.beq_refl] at hb;cases hb)];exact hQ _ _ _ _ _ hK he
  |_=>exact hQ _ _ _ _ _ hK he
 |.loop b,S,w,wr,a,K,Q,h,hf,hw,WK,hQ=>by
  simp only[As] at h
  split at h
  ·exact h.elim
  ·rename_i key DV1
   split at h
   ·exact h.elim
   ·rename_i sp hsp
    cases hok:zvs S sp (Xp b) with
    |false=>rw[hok] at h;exact h.elim
    |true=>
     rw[hok] at h;simp only[cond_true] at h;have hs:=zfn hok
     cases jZ:C.pm with
     |true=>
      rw[jZ] at h;simp only[cond_true] at h;obtain⟨Xo,μ,Bp0,vW⟩:=h
      have mk:∀(S':St) (a':Act) (Wp:Wo) (xs ys:List Va),TZ C.n S' a'->Zs S' w Wp->S'.old=S.old->DY (Xp b) a a'->(∀(id b:Nat),S.B[id]? = some b->S'.B[id]? = some b)->
        (∀(id:Nat) (t:TypeId) (cs:List Va),S.L[id]? = some (t,cs)->∃nL,S'.L[id]? = some (t,nL))->(∀id,id<S.L.length->id∉sp.WC.map (·.1)->S'.L[id]? = S.L[id]?)->
        HD S' sp.uZ=some xs->Ls S' sp.WC=some ys->z0n C S w (Xp b) a sp (xs++ys) w a' Wp:=by
       intro S' a' Wp xs ys h1 h2 h3 h4 h5 h6 h7 h8 h9;obtain⟨g1,g2⟩:=zdk hs hw h2 h5 h6 h7 (UX h8).1 h9;refine⟨zdj hs hf h1 h4 h8,⟨?_,g2,by rw[g1];exact hw.len,hw.oN,hw.fresh⟩,⟨WK.old,λid bB=>by rw[g1];exact(M8.1 bB).1⟩,h4⟩;have hbs:S'.bs=S.bs:=by unfold St.bs;rw[h3];exact zj8 WK.old h5
       have:=h2.ext;rw[hbs] at this;exact this
      obtain⟨xs,ys,hx,hy,hk,hI⟩:=L2 Bp0
      refine Gc (λn a' Wp=>∃xs ys S',μ (xs++ys)=n/\Xo (xs++ys)/\Ud sp.ks (xs++ys)/\xs.length=sp.uZ.length/\Ls S' sp.WC=some ys/\(∀(id:Nat) (t:TypeId) (cs:List Va),S.L[id]? = some (t,cs)->∃nL,S'.L[id]? = some (t,nL))/\z0n C S w (Xp b) a sp (xs++ys) w a' Wp)
       (m:=μ (xs++ys)) ⟨xs,ys,S,rfl,hI,hk,(UX hx).1,hy,λ_ _ cs h=>⟨cs,h⟩,mk S a wr xs ys hf hw rfl (DY.refl _ _) (λ_ _ h=>h) (λ_ _ cs h=>⟨cs,h⟩) (λ_ _ _=>rfl) hx hy⟩ ?_
      rintro n a' Wp ⟨xs,ys,S',rfl,hI,hk,hxl,hyl,hty,hH⟩;obtain⟨t1,t2⟩:=zdl hs.nd hty hxl hyl
      have hlen:(YN S sp (xs++ys)).L.length=S.L.length:=by
       have:=hH.rel.len;rw[this];exact hw.len.symm
      refine Yx E b _ w Wp a' _ _ (Oj vW hk hI) hH.fit hH.rel hH.wf λe S2 w2 a2 R6 hK he=>?_
      obtain⟨f1,f2⟩:=znu hs WK hlen t1 t2 he.fr;obtain⟨p1,p2⟩:=he.pm jZ;subst p1
      cases e with
      |normal=>
       obtain⟨xs',ys',eJ,hy',hk',hI',IW⟩:=L2 hK;refine⟨μ (xs'++ys'),IW,xs',ys',S2,rfl,hI',hk',(UX eJ).1,hy',f1.ty,?_⟩;exact mk S2 a2 R6 xs' ys' he.fit he.rel p2 (hH.fra.trans he.fra) f1.B f1.ty f2 eJ hy'
      |_=>
       exact hQ _ _ _ _ _ hK ⟨⟨he.fit.size,he.fit.fits,he.fit.old⟩,⟨he.rel.ext,he.rel.loc,he.rel.len,he.rel.oN,he.rel.fresh⟩,
        ⟨he.wf.old,λid bB=>by
         obtain⟨nL,hc'⟩:=f1.ty id (S.L[id]'(WK.lk id bB)).1 (S.L[id]'(WK.lk id bB)).2 (Il _);exact(I8.1 hc').1⟩,f1,hH.fra.trans he.fra,λ_=>⟨rfl,p2⟩⟩
     |false=>
      rw[jZ] at h;simp only[cond_false] at h;obtain⟨Xo,μ,Bp0,vW⟩:=h
      have mk:∀(S':St) (w':Wo) (a':Act) (Wp:Wo) (xs ys:List Va),TZ C.n S' a'->Zs S' w' Wp->DY (Xp b) a a'->(∀(id b:Nat),S.B[id]? = some b->S'.B[id]? = some b)->
        (∀(id:Nat) (t:TypeId) (cs:List Va),S.L[id]? = some (t,cs)->∃nL,S'.L[id]? = some (t,nL))->(∀id,id<S.L.length->id∉sp.WC.map (·.1)->S'.L[id]? = S.L[id]?)->
        HD S' sp.uZ=some xs->Ls S' sp.WC=some ys->z0n C S.bT Wp (Xp b) a sp (xs++ys) Wp a' Wp:=by
       intro S' w' a' Wp xs ys h1 h2 h4 h5 h6 h7 h8 h9;obtain⟨g1,g2⟩:=zdk hs hw h2 h5 h6 h7 (UX h8).1 h9;have hf1:=zdj (ys:=ys) hs hf h1 h4 h8;refine⟨⟨hf1.size,hf1.fits,hf1.old⟩,⟨Q0.refl _ _,g2,by show (YN S sp (xs++ys)).L.length=_;rw[g1];exact hw.len,hw.oN,λid b bB hb=>?_⟩,⟨I7 _,λid bB=>by show id<(YN S sp (xs++ys)).L.length;rw[g1];exact(M8.1 bB).1⟩,h4⟩;have:id<S.B.length:=(I8.1 hb).1;have DU7:S.B.length<=id:=bB;omega
      obtain⟨xs,ys,hx,hy,hk,hI⟩:=L2 (Bp0 wr hw.ext hw.lt)
      refine Gc (λn a' Wp=>∃xs ys S',μ (xs++ys) Wp=n/\Xo (xs++ys) Wp/\Ud sp.ks (xs++ys)/\xs.length=sp.uZ.length/\Ls S' sp.WC=some ys/\(∀(id:Nat) (t:TypeId) (cs:List Va),S.L[id]? = some (t,cs)->∃nL,S'.L[id]? = some (t,nL))/\z0n C S.bT Wp (Xp b) a sp (xs++ys) Wp a' Wp)
       (m:=μ (xs++ys) wr) ⟨xs,ys,S,rfl,hI,hk,(UX hx).1,hy,λ_ _ cs h=>⟨cs,h⟩,mk S w a wr xs ys hf hw (DY.refl _ _) (λ_ _ h=>h) (λ_ _ cs h=>⟨cs,h⟩) (λ_ _ _=>rfl) hx hy⟩ ?_
      rintro n a' Wp ⟨xs,ys,S',rfl,hI,hk,hxl,hyl,hty,hH⟩;obtain⟨t1,t2⟩:=zdl hs.nd hty hxl hyl
      have hlen:(YN S sp (xs++ys)).L.length=S.L.length:=by
       have:(YN S.bT sp (xs++ys)).L.length=S.B.length:=hH.rel.len;rw[<-hw.len] at this;exact this
      refine Yx E b _ Wp Wp a' _ _ (Oj vW hk Wp hH.rel.lt hI) hH.fit hH.rel hH.wf λe S2 w2 a2 R6 hK he=>?_
      have qW:Km (YN S sp (xs++ys)) S2:=⟨he.fr.B,he.fr.ty,he.fr.lk⟩;obtain⟨f1,f2⟩:=znu hs WK hlen t1 t2 qW
      cases e with
      |normal=>
       obtain⟨xs',ys',eJ,hy',hk',hI',IW⟩:=L2 (hK R6 he.rel.ext he.rel.lt);refine⟨μ (xs'++ys') R6,IW,xs',ys',S2,rfl,hI',hk',(UX eJ).1,hy',f1.ty,?_⟩;exact mk S2 w2 a2 R6 xs' ys' he.fit he.rel (hH.fra.trans he.fra) f1.B f1.ty f2 eJ hy'
      |_=>
       exact hQ _ _ _ _ _ hK ⟨⟨he.fit.size,he.fit.fits,he.fit.old⟩,⟨he.rel.ext,he.rel.loc,he.rel.len,he.rel.oN,he.rel.fresh⟩,
        ⟨he.wf.old,λid bB=>by
         obtain⟨nL,hc'⟩:=f1.ty id (S.L[id]'(WK.lk id bB)).1 (S.L[id]'(WK.lk id bB)).2 (Il _);exact(I8.1 hc').1⟩,f1,hH.fra.trans he.fra,λhp=>by rw[jZ] at hp;cases hp⟩
 |.rangeFunc _ _ _ _,_,_,_,_,_,_,h,_,_,_,_=>h.elim
 |.goto _,_,_,_,_,_,_,h,_,_,_,_=>h.elim
 |.refuse _,_,_,_,_,_,_,h,_,_,_,_=>h.elim
def znw:List Va->Nat->PT SV
 |[],_=>.leaf
 |v::r,i=>PT.set 12 (znw r (i+1)) i (.un (.v v))
def zi2:∀{l:List Va} {k i:Nat} {sv:SV},k+l.length<=4000->(znw l k).get i=some sv->∃v,l[i-k]? = some v/\k<=i/\sv=.un (.v v)
 |[],k,i,sv,_,h=>by simp[znw,PT.get] at h
 |v::r,k,i,sv,hl,h=>by
  simp only[znw] at h;simp only[List.length_cons] at hl;rw[PT.kM _ 12 _ _ _ (by show @LT.lt Nat _ (k+1) (2 ^ 12);have e:(2:Nat) ^ 12=4096:=rfl;omega)] at h
  by_cases hk:k=i
  ·subst hk;rw[C' rfl] at h;simp only[I0] at h;exact⟨v,Qs,I7 _,h.symm⟩
  ·rw[B' hk] at h;obtain⟨u,h1,h2,h3⟩:=zi2 Qo h;refine⟨u,?_,Qo,h3⟩;have:i-k=(i-(k+1))+1:=Qo;rw[this];simpa using h1
def Et(args:List Va):St:={ F:=znw args 0,L:=[],B:=[],old:=0,lk:=[],r:=1 }
def zos(C:V1)(S:St)(w:Wo):List ResultVar->(List Va->Prop)->Prop
 |[],K=>K []
 |.tmp t::r,K=>match Ho S [] (.tmp t) with
  |some v=>zos C S w r λl=>K (v::l)
  |none=>False
 |.cell p t::r,K=>match C.T t,zf0 S [] (.tmp p) with
  |some ty,some (.loc id 0)=>match S.L[id]? with
   |some (_,cs)=>bif Nat.beq cs.length ty.ks.length then
     (match ty.val cs with
      |some v=>zos C S w r λl=>K (v::l)
      |none=>False)
    else False
   |none=>False
  |some ty,some (.el o n)=>znj ty.ks λvs=>match ty.val vs with
   |some v=>Q1 S.bs w o n vs/\zos C S w r λl=>K (v::l)
   |none=>False
  |_,_=>False
def zrq:List Va->Va
 |[v]=>v
 |l=>.tuple l.toArray
def zxr(C:V1)(sps:List (Nat×Yw))(args:List Va)(body:Code)(res:List ResultVar)(w:Wo)(R:Va->Wo->Prop):Prop:=
 As C sps body (Et args) w λe S w'=>match e with
  |.normal|.ret=>zos C S w' res λl=>bif C.pm then R (zrq l) w' else ∀wr,Q0 S.bs w' wr->R (zrq l) wr
  |_=>False
def zze{C:V1}(E:zr0 C){S:St}{w wr:Wo}{a:Act}(hf:TZ C.n S a)(hw:Zs S w wr):∀{res:List ResultVar} {K:List Va->Prop},zos C S w res K->
  ∃l,K l/\l.length=res.length/\(res.mapM (m:=Sem) fun
   |.tmp t=>pure (a.tmps.getD t undef)
   |.cell p t=>do loadVar t (<-asAddr (a.tmps.getD p undef))).run C.P wr=.ok l wr:=by
 have hd:∀{x:Operand} {e:EV},zf0 S [] x=some e->EV.den S e (a.eval x):=λ{x e} hb=>by
  have:=Yo (ops:=#[]) (hf.enter #[] (λ_=>False)).fit (pc:=[]) (λp hp=>by cases hp) (S:={ S with r:=S.r+1 }) (x:=x) (e:=e) (by
   cases x with
   |tmp t=>
    simp only[zf0] at hb ⊢
    split at hb
    ·exact hb
    ·rename_i r vG y hg
     cases cD:Nat.beq r S.r&&zfb vG [] with
     |false=>rw[cD] at hb;cases hb
     |true=>
      simp only[A'] at cD;have:=Ib cD.1;have h2:=hf.old t r vG y hg;omega
    ·cases hb
   |const v=>exact hb
   |global g=>exact hb
   |func f=>exact hb)
  exact EV.gE (S:={ S with r:=S.r+1 }) (λ_ _ h=>h) this
 intro res
 induction res with
 |nil=>intro K h;exact⟨[],h,rfl,Qs⟩
 |cons x r ih=>
  intro K h
  cases x with
  |tmp t=>
   simp only[zos] at h
   split at h
   ·rename_i v hv;obtain⟨l,h1,h2,h3⟩:=ih h
    have hv':a.tmps.getD t undef=v:=by
     unfold Ho at hv
     split at hv
     ·rename_i e he;exact za1 hv (hd he)
     ·cases hv
    refine⟨v::l,h1,by simp[h2],?_⟩;simp only[List.mapM_cons,Sem.run_bind,Sem.run_pure,Result.andThen_ok,h3,hv']
   ·exact h.elim
  |cell p t=>
   simp only[zos] at h
   split at h
   ·rename_i ty id ht he;obtain⟨b,hb,hx⟩:=hd he;simp only[Act.eval] at hx
    split at h
    ·rename_i t' cs hl
     cases hc:Nat.beq cs.length ty.ks.length with
     |false=>rw[hc] at h;exact h.elim
     |true=>
      rw[hc] at h;simp only[cond_true] at h
      split at h
      ·rename_i v hv;obtain⟨l,h1,h2,h3⟩:=ih h
       have hl2:=VV E.T ht hv (Ib hc) (a:=⟨b,0,none⟩) (w:=wr) (λj y hy=>by
        rw[Addr.add_lit,Hf hw hl hb,Nat.zero_add];exact hy)
       refine⟨v::l,h1,by simp[h2],?_⟩;have ha:(asAddr (a.tmps.getD p undef)).run C.P wr=.ok ⟨b,0,none⟩ wr:=by rw[hx];rfl
       simp only[List.mapM_cons,Sem.run_bind,ha,Sem.run_pure,Result.andThen_ok,hl2,h3]
      ·exact h.elim
    ·exact h.elim
   ·rename_i ty o n ht he;obtain⟨ad,ho,hx⟩:=hd he;simp only[Act.eval] at hx;obtain⟨vs,hlen,h⟩:=P7 h
    split at h
    ·rename_i v hv;obtain⟨hcx,h⟩:=h;obtain⟨l,h1,h2,h3⟩:=ih h;have hl2:=VV E.T ht hv hlen (a:=ad.add n) (w:=wr) (hcx.cells hw.ext ho);refine⟨v::l,h1,by simp[h2],?_⟩;have ha:(asAddr (a.tmps.getD p undef)).run C.P wr=.ok (ad.add n) wr:=by rw[hx];rfl
     simp only[List.mapM_cons,Sem.run_bind,ha,Sem.run_pure,Result.andThen_ok,hl2,h3]
    ·exact h.elim
   ·exact h.elim
def Aq{C:V1}(E:zr0 C){sps:List (Nat×Yw)}{f:FuncId}{fn:Func}{body:Code}{args:List Va}{w:Wo}{R:Va->Wo->Prop}(hf:C.P.funcs[f]? = some fn)(hb:fn.body=some body)(hn:fn.ntmps=C.n)(hargs:args.length<=C.n)(hn4:C.n<=4000)(hrd:C.rd=none)(h:zxr C sps args body fn.results.toList w R):Calls C.P f args.toArray w λe w'=>∃v wv,e=.returned v/\(C.pm->wv=w/\Q0 [] w w')/\(C.pm->R v wv)/\(C.pm=false->R v w'):=by
 refine(callsIn_wide (n:=0)).1 (callsIn_of_wp hf hb trivial ?_);have hF:M7 C.rd=Fence.wide:=by rw[hrd];rfl
 rw[<-hF]
 have CG9:TZ C.n (Et args) { tmps:=args.toArray++Array.replicate (fn.ntmps-args.toArray.size) undef,defers:=[] }:=by
  have AM5:∀i sv,(Et args).F.get i=some sv->∃v,args[i]? = some v/\sv=.un (.v v):=λi sv hs=>by
   obtain⟨v,h1,_,h3⟩:=zi2 Qo hs;exact⟨v,by simpa using h1,h3⟩
  refine⟨by simp[hn];omega,λi x hx=>?_,λi r pc x hx=>?_⟩
  ·obtain⟨v,h1,h2⟩:=AM5 i _ hx;cases h2;show _=v;rw[Array.getD_eq_getD_getElem?,Array.getElem?_append_left (by simpa using (I8.1 h1).1)];simp[h1]
  ·obtain⟨v,h1,h2⟩:=AM5 i _ hx;cases h2
 have vD:Zs (Et args) w w:=⟨Q0.refl _ _,λid t cs hl=>by simp[Et] at hl,rfl,List.nodup_nil,λid b _ hb=>by simp[Et] at hb⟩;refine Yx E body (Et args) w w _ _ _ h CG9 vD ⟨Ic _,λid bB=>by cases bB⟩ λe S w' a' Wp hK he=>?_
 have fin:zos C S w' fn.results.toList (λl=>bif C.pm then R (zrq l) w' else ∀wr,Q0 S.bs w' wr->R (zrq l) wr)->a'.defers=[]/\∃v,(results fn a'.tmps).run C.P Wp=.ok v Wp/\∃v' wv,Ending.returned v=.returned v'/\(C.pm->wv=w/\Q0 [] w Wp)/\(C.pm->R v' wv)/\(C.pm=false->R v' Wp):=λhr=>by
  obtain⟨l,h1,h2,h3⟩:=zze E he.fit he.rel hr;refine⟨he.fra.1,zrq l,?_,zrq l,w',rfl,λhp=>?_,λhp=>?_,λhp=>?_⟩
  ·simp only[results,Sem.run_bind,Array.mapM_eq_mapM_toList,Sem.run_map];refine(congrArg (λr:Result (List Va)=>(r.andThen λa w'=>Result.ok a.toArray w').andThen λvs w'=>(Pure.pure (if h:vs.size=1 then vs[0] else .tuple vs):Sem Va).run C.P w') h3).trans ?_;simp only[Result.andThen_ok,Sem.run_pure]
   congr 1
   cases l with
   |nil=>rfl
   |cons x r=>
    cases r with
    |nil=>rfl
    |cons y q=>simp[zrq]
  ·obtain⟨p1,p2⟩:=he.pm hp;refine⟨p1,?_⟩;have hx:=he.rel.ext;rw[<-p1];have hbs:S.bs=[]:=by unfold St.bs;rw[p2];rfl
   rw[hbs] at hx;exact hx
  ·rw[hp] at h1;exact h1
  ·rw[hp] at h1;exact h1 Wp he.rel.ext
 cases e with
 |normal=>exact fin hK
 |ret=>exact fin hK
 |_=>exact hK.elim
def zq6{C:V1}(E:zr0 C){sps:List (Nat×Yw)}{f:FuncId}{fn:Func}{body:Code}{args:List Va}{w:Wo}{bs:List Nat}{r:Va}(hf:C.P.funcs[f]? = some fn)(hb:fn.body=some body)(hn:fn.ntmps=C.n)(hargs:args.length<=C.n)(hn4:C.n<=4000)(jZ:C.pm)(hrd:C.rd=none)(h:∀wr,Q0 bs w wr->zxr C sps args body fn.results.toList wr λv _=>v=r):Q3 bs C.P f args.toArray w r:=λwr hx=>
 (Aq E hf hb hn hargs hn4 hrd (h wr hx)).mono λe w' ⟨v,_,he,h1,h2,_⟩=>by
  have:=h2 jZ;subst this;exact⟨he,(h1 jZ).2⟩
def zue{C:V1}(E:zr0 C){sps:List (Nat×Yw)}{f:FuncId}{fn:Func}{body:Code}{args:List Va}{w:Wo}{R:Va->Wo->Prop}(hf:C.P.funcs[f]? = some fn)(hb:fn.body=some body)(hn:fn.ntmps=C.n)(hargs:args.length<=C.n)(hn4:C.n<=4000)(jZ:C.pm=false)(hrd:C.rd=none)(h:zxr C sps args body fn.results.toList w R):Calls C.P f args.toArray w λe w'=>∃v,e=.returned v/\R v w':=
 (Aq E hf hb hn hargs hn4 hrd h).mono λe w' ⟨v,_,he,_,_,h3⟩=>⟨v,he,h3 jZ⟩
def Ti{w:Wo}{b:Nat}{cs:Array Va}{t:TypeId}{fz:Nat×Nat}(h:w.heap[b]? = some (.cells cs t fz))(k:Nat):w.cell? ⟨b,k,none⟩=cs[k]? := by
 simp[World.cell?,h]
def V3{w:Wo}{b:Nat}{o:Obj}(h:w.heap[b]? = some o):b<w.heap.size:=by
 rcases Nat.lt_or_ge b w.heap.size with hl|hl
 ·exact hl
 ·rw[Array.getElem?_eq_none_iff.2 hl] at h;cases h
def T1{bs:List Nat}{w:Wo}{b k0:Nat}{cs:List Va}{t:TypeId}{fz:Nat×Nat}(h:w.heap[b]? = some (.cells cs.toArray t fz))(hb:b∉bs){k:Nat}{v:Va}(hk:cs[k0+k]? = some v):JH bs w (some ⟨b,k0,none⟩) k v:=
 ⟨⟨b,k0,none⟩,rfl,hb,by rw[Addr.add_lit,Ti h];simpa using hk⟩
def Uo{bs:List Nat}{w:Wo}{o:OA}{n:Nat}{v:Va}(h:JH bs w o n v):Q1 bs w o n [v]:=h
def Ok{bs:List Nat}{w:Wo}{o:OA}:∀{n:Nat} {vs:List Va},(∀j v,vs[j]? = some v->JH bs w o (n+j) v)->Q1 bs w o n vs
 |_,[],_=>trivial
 |n,[v],h=>h 0 v rfl
 |n,v::u::r,h=>⟨h 0 v rfl,Ok (vs:=u::r) λj x hj=>by
   have:=h (j+1) x (by simpa using hj);rw[show n+1+j=n+(j+1) by omega];exact this⟩
def VE{bs:List Nat}{w:Wo}{b k0:Nat}{cs:List Va}{t:TypeId}{fz:Nat×Nat}(h:w.heap[b]? = some (.cells cs.toArray t fz))(hb:b∉bs){n:Nat}{vs:List Va}(hk:∀j v,vs[j]? = some v->cs[k0+(n+j)]? = some v):Q1 bs w (some ⟨b,k0,none⟩) n vs:=
 Ok λj v hj=>T1 h hb (hk j v hj)
def Q1.ext{bs:List Nat}{w w':Wo}{o:OA}{n:Nat}{vs:List Va}(h:Q1 bs w o n vs)(hx:Q0 bs w w'):Q1 bs w' o n vs:=
 Ok λj v hj=>(h.get j v hj).ext hx
def Q1.less{bs cs:List Nat}{w:Wo}{o:OA}{n:Nat}{vs:List Va}(h:Q1 bs w o n vs)(hs:∀x∈cs,x∈bs):Q1 cs w o n vs:=
 Ok λj v hj=>(h.get j v hj).less hs
def QP{bs:List Nat}{w w':Wo}{b:Nat}{o:Obj}(h:w.heap[b]? = some o)(hx:Q0 bs w w')(hb:b∉bs):w'.heap[b]? = some o:=by
 rw[hx.block b (V3 h) hb];exact h
def Kg{w:Wo}{b k n:Nat}{cs vs:List Va}{t:TypeId}{fz:Nat×Nat}(h:w.heap[b]? = some (.cells cs.toArray t fz)):(Rw w (some ⟨b,k,none⟩) n vs).heap[b]? = some (.cells (zmi cs (k+n) vs).toArray t fz):=EN vs w b k n cs t fz h
def zo8(bs:List Nat)(a:Addr):∀(vs:List Va) (w:Wo) (n:Nat),a.block∈bs->Q0 bs w (dV w a n vs)
 |[],w,n,_=>Q0.refl _ _
 |v::r,w,n,h=>((Q0.refl bs w).setCell (p:=a.add n) (.inr (by rw[ZW];exact h)) v).trans (zo8 bs a r _ _ h)
def TR{bs:List Nat}{w:Wo}{o:OA}{n:Nat}{vs:List Va}(h:∀a,o=some a->a.block∈bs):Q0 bs w (Rw w o n vs):=by
 cases o with
 |none=>exact Q0.refl _ _
 |some a=>exact zo8 bs a vs w n (h a rfl)
def BD{bs:List Nat}{w:Wo}{b k0 n k:Nat}{cs:List Va}{t:TypeId}(h:w.heap[b]? = some (.cells cs.toArray t (0,0)))(hb:b∉bs)(hk:k0+(n+k)<=cs.length):Xh bs w (some ⟨b,k0,none⟩) n k:=
 ⟨⟨b,k0,none⟩,rfl,hb,λj h1 h2=>by
  rw[Addr.add_lit,Ti h];refine⟨⟨cs[k0+j]' Qo,Qs⟩,?_⟩;simp[World.frozen?,h]⟩
def Q0.fresh{bs cs:List Nat}{w0 w w':Wo}(h:Q0 bs w0 w)(k:Q0 cs w w')(hc:∀x∈cs,w0.heap.size<=x\/x∈bs):Q0 bs w0 w':=
 ⟨k.os.trans h.os,k.tape.trans h.tape,k.output.trans h.output,IB h.size k.size,λi hi hb=>(k.block i (Nat.lt_of_lt_of_le hi h.size) (λhx=>by
  rcases hc i hx with h1|h1
  ·omega
  ·exact hb h1)).trans (h.block i hi hb)⟩
def Lk{bs:List Nat}{P:Program}{f:FuncId}{args:Array Va}{w:Wo}{v:Va}(h:∀wr,Q0 bs w wr->Calls P f args wr λe w'=>∃v0,e=.returned v0/\(v0=v/\Q0 [] wr w')):Q3 bs P f args w v:=
 λwr hx=>(h wr hx).mono λe w' ⟨v0,he,hv,eJ⟩=>⟨by rw[he,hv],eJ⟩
def TQ{w:Wo}{o:OA}{n k:Nat}{vs:List Va}:Rw w (o.map (·.add n)) k vs=Rw w o (n+k) vs:=by
 cases o with
 |none=>rfl
 |some a=>
  simp only[Option.map_some,Rw]
  induction vs generalizing w k with
  |nil=>rfl
  |cons v r ih=>
   simp only[dV];rw[JJ,ih];rfl
def M5{bs:List Nat}{w:Wo}{o:OA}{n k m:Nat}:Xh bs w (o.map (·.add n)) k m↔Xh bs w o (n+k) m:=by
 cases o with
 |none=>
  constructor <;> (rintro⟨a,ha,_⟩;cases ha)
 |some p=>
  constructor
  ·rintro⟨a,ha,hb,hc⟩;simp only[Option.map_some,I0] at ha;subst ha;refine⟨p,rfl,by rwa[ZW] at hb,λj h1 h2=>?_⟩;have:=hc (j-n) Qo Qo
   rwa[JJ,show n+(j-n)=j by omega] at this
  ·rintro⟨a,ha,hb,hc⟩;cases ha;refine⟨p.add n,rfl,by rwa[ZW],λj h1 h2=>?_⟩;rw[JJ];exact hc (n+j) Qo Qo
structure KM where
 IM:Int
 on:Bool
 v:Int
 w:Int
 sum:Int
 deriving DecidableEq,Inhabited
structure Um where
 I':Int
 RH:Int
 So:Int
 locals:List Int
 Ry:List Bool
 deriving DecidableEq,Inhabited
structure ZD where
 IV:Bool
 IG:Int
 name:ByteArray
 R2:Int
 IF:Int
 period:Int
 next:Int
 sum:Int
 IL:Um
 IH:List KM
 deriving DecidableEq,Inhabited
structure PS where
 state:Int
 II:Int
 R1:Int
 nice:Int
 mask:Int
 v:Int
 sum:Int
 IV:Int
 load:Int
 deriving DecidableEq,Inhabited
structure PP where
 up:Bool
 cur:Int
 SX:Int
 busy:Int
 idle:Int
 deriving DecidableEq,Inhabited
structure Q7 where
 now:Int
 IF:List PP
 IJ:List PS
 IE:List ZD
 deriving DecidableEq,Inhabited
structure z69 where
 kind:Int
 nJ:Int
 n:Int
 deriving DecidableEq,Inhabited
def gi{α:Type}[Inhabited α](l:List α)(i:Int):α:=l.getD i.toNat default
def zxz{α:Type}[Inhabited α](l:List α)(k:Nat):gi l (k:Int)=l.getD k default:=rfl
def Ju{α:Type}[Inhabited α]{l:List α}{k:Nat}(h:k<l.length):gi l (k:Int)=l[k]:=by
 simp[zxz,List.getD_eq_getElem?_getD,h]
def z1i{α:Type}[Inhabited α]{l:List α}{k:Nat}(h:k<l.length):l[k]? = some (gi l (k:Int)):=by
 rw[Ju h];simp[h]
def zqd{α:Type}[Inhabited α]{l:List α}{i:Int}(h0:0<=i)(h1:i<l.length):gi l i∈l:=by
 obtain⟨k,rfl⟩:=Int.eq_ofNat_of_zero_le h0;have:k<l.length:=Qo;rw[Ju this];exact List.getElem_mem this
def zqc{α:Type}[Inhabited α]{l m:List α}(hl:l.length=m.length)(h:∀k:Nat,k<l.length->gi l (k:Int)=gi m (k:Int)):l=m:=by
 refine List.ext_getElem hl λk h1 h2=>?_
 have:=h k h1
 rwa[Ju h1,Ju h2] at this
def z4l{α β:Type}[Inhabited α][Inhabited β](f:α->β)(l:List α){i:Int}(h0:0<=i)(hi:i<(l.length:Int)):gi (l.map f) i=f (gi l i):=by
 obtain⟨k,rfl⟩:=Int.eq_ofNat_of_zero_le h0;rw[Ju (by simp;omega),Ju Qo];simp
def Qx{α:Type}[Inhabited α](l:List α)(x:α){i j:Int}(h0:0<=i)(hi:i<(l.length:Int))(hj:0<=j):gi (l.set i.toNat x) j=if i=j then x else gi l j:=by
 obtain⟨k,rfl⟩:=Int.eq_ofNat_of_zero_le h0;obtain⟨q,rfl⟩:=Int.eq_ofNat_of_zero_le hj;simp only[zxz,Ig,List.getD_eq_getElem?_getD,List.getElem?_set]
 by_cases hkq:k=q
 ·subst hkq;have:k<l.length:=Qo;simp[this]
 ·have:¬((k:Int)=q):=Qo;simp[hkq,this]
def T9(s:KM):List Va:=[I s.IM,.bool s.on,I s.v,I s.w,I s.sum]
def Xc(t:PS):List Va:=[I t.state,I t.II,I t.R1,I t.nice,I t.mask,I t.v,I t.sum,I t.IV,I t.load]
def Gv(c:PP):List Va:=[.bool c.up,I c.cur,I c.SX,I c.busy,I c.idle]
def z6f(o:z69):List Va:=[I o.kind,I o.nJ,I o.n]
def U2(n:Int):List Va:=[I n]
def K3(b:Bool):List Va:=[.bool b]
structure MG where
 lO:OA
 lC:Nat
 dO:OA
 dC:Nat
 sO:OA
 sC:Nat
 deriving Inhabited
def YA(g:ZD)(m:MG):List Va:=[.bool g.IV,I g.IG,.string g.name,I g.R2,I g.IF,I g.period,I g.next,I g.sum,
 I g.IL.I',I g.IL.RH,I g.IL.So,.slice m.lO g.IL.locals.length m.lC,.slice m.dO g.IL.Ry.length m.dC,.slice m.sO g.IH.length m.sC]
def Rd{α:Type}[Inhabited α](enc:α->List Va)(z:Nat)(bs:List Nat)(w:Wo)(o:OA)(l:List α):Prop:=
 ∀i:Int,0<=i->i<(l.length:Int)->Q1 bs w o (Int.toNat i*z) (enc (gi l i))
def Rd.ext{α:Type}[Inhabited α]{enc:α->List Va}{z:Nat}{bs:List Nat}{w w':Wo}{o:OA}{l:List α}(h:Rd enc z bs w o l)(hx:Q0 bs w w'):Rd enc z bs w' o l:=
 λi h0 h1=>(h i h0 h1).ext hx
def Rd.less{α:Type}[Inhabited α]{enc:α->List Va}{z:Nat}{bs cs:List Nat}{w:Wo}{o:OA}{l:List α}(h:Rd enc z bs w o l)(hs:∀x∈cs,x∈bs):Rd enc z cs w o l:=
 λi h0 h1=>(h i h0 h1).less hs
def JH.wide{bs cs:List Nat}{w:Wo}{o:OA}{n:Nat}{v:Va}(h:JH bs w o n v)(hs:∀x∈cs,x∈bs\/w.heap.size<=x):JH cs w o n v:=by
 obtain⟨a,ho,hb,hc⟩:=h;refine⟨a,ho,λhx=>?_,hc⟩;have IW:=World.block_lt_of_cell? w _ hc;rw[ZW] at IW;rcases hs _ hx with h1|h1
 ·exact hb h1
 ·omega
def Q1.wide{bs cs:List Nat}{w:Wo}{o:OA}{n:Nat}{vs:List Va}(h:Q1 bs w o n vs)(hs:∀x∈cs,x∈bs\/w.heap.size<=x):Q1 cs w o n vs:=
 Ok λj v hj=>(h.get j v hj).wide hs
def Rd.wide{α:Type}[Inhabited α]{enc:α->List Va}{z:Nat}{bs cs:List Nat}{w:Wo}{o:OA}{l:List α}(h:Rd enc z bs w o l)(hs:∀x∈cs,x∈bs\/w.heap.size<=x):Rd enc z cs w o l:=
 λi h0 h1=>(h i h0 h1).wide hs
def Q1.some{bs:List Nat}{w:Wo}{o:OA}{n:Nat}{v:Va}{r:List Va}(h:Q1 bs w o n (v::r)):o.isSome:=by
 obtain⟨a,rfl,_,_⟩:=h.get 0 v rfl;rfl
def Rd.ix{α:Type}[Inhabited α]{enc:α->List Va}{z:Nat}{bs:List Nat}{w:Wo}{o:OA}{l:List α}(h:Rd enc z bs w o l)(he:∀x,∃v r,enc x=v::r){i:Int}(h0:0<=i)(h1:i<(l.length:Int)):Ix o l.length i:=by
 obtain⟨v,r,e⟩:=he (gi l i);have:=h i h0 h1;rw[e] at this;exact⟨h0,h1,this.some⟩
def YT(x:KM):∃v r,T9 x=v::r:=⟨_,_,rfl⟩
def QT(x:PS):∃v r,Xc x=v::r:=⟨_,_,rfl⟩
def Y1(x:PP):∃v r,Gv x=v::r:=⟨_,_,rfl⟩
def XU(x:Int):∃v r,U2 x=v::r:=⟨_,_,rfl⟩
def LF(x:Bool):∃v r,K3 x=v::r:=⟨_,_,rfl⟩
abbrev zm2:=Rd T9 5
abbrev z0d:=Rd Xc 9
abbrev z56:=Rd Gv 5
abbrev zm3:=Rd U2 1
abbrev zwi:=Rd K3 1
structure Gd (bs:List Nat) (w:Wo) (o:OA) (gs:List ZD) (ms:Nat->MG):Prop where
 cells:∀i:Int,0<=i->i<(gs.length:Int)->Q1 bs w o (Int.toNat i*14) (YA (gi gs i) (ms i.toNat))
 locals:∀i:Int,0<=i->i<(gs.length:Int)->zm3 bs w (ms i.toNat).lO (gi gs i).IL.locals
 Ry:∀i:Int,0<=i->i<(gs.length:Int)->zwi bs w (ms i.toNat).dO (gi gs i).IL.Ry
 IH:∀i:Int,0<=i->i<(gs.length:Int)->zm2 bs w (ms i.toNat).sO (gi gs i).IH
def Gd.ext{bs:List Nat}{w w':Wo}{o:OA}{gs:List ZD}{ms:Nat->MG}(h:Gd bs w o gs ms)(hx:Q0 bs w w'):Gd bs w' o gs ms:=
 ⟨λi a b=>(h.cells i a b).ext hx,λi a b=>(h.locals i a b).ext hx,λi a b=>(h.Ry i a b).ext hx,λi a b=>(h.IH i a b).ext hx⟩
def Gd.less{bs cs:List Nat}{w:Wo}{o:OA}{gs:List ZD}{ms:Nat->MG}(h:Gd bs w o gs ms)(hs:∀x∈cs,x∈bs):Gd cs w o gs ms:=
 ⟨λi a b=>(h.cells i a b).less hs,λi a b=>(h.locals i a b).less hs,λi a b=>(h.Ry i a b).less hs,λi a b=>(h.IH i a b).less hs⟩
def Gd.wide{bs cs:List Nat}{w:Wo}{o:OA}{gs:List ZD}{ms:Nat->MG}(h:Gd bs w o gs ms)(hs:∀x∈cs,x∈bs\/w.heap.size<=x):Gd cs w o gs ms:=
 ⟨λi a b=>(h.cells i a b).wide hs,λi a b=>(h.locals i a b).wide hs,λi a b=>(h.Ry i a b).wide hs,λi a b=>(h.IH i a b).wide hs⟩
def Gd.ix{bs:List Nat}{w:Wo}{o:OA}{gs:List ZD}{ms:Nat->MG}(h:Gd bs w o gs ms){i:Int}(h0:0<=i)(h1:i<(gs.length:Int)):Ix o gs.length i:=
 ⟨h0,h1,(h.cells i h0 h1).some⟩
def Ye(p:Nat)(vs:List Va):Int:=match vs[p]? with
 |some (.int _ i)=>i
 |_=>0
def zt9(I:Nat->Prop)(vs:List Va):Prop:=∃k:Nat,I k/\vs=[.int .i64 (k:Int)]
def Xt(n:Nat)(p:Nat)(vs:List Va):Nat:=((n:Int)+1-Ye p vs).toNat
def X7{B:(List Va->Prop)->(List Va->Nat)->Int->Prop}(n:Nat){si:Int}(s:Nat)(hs:si=s)(I:Nat->Prop)(h0:I s)(hB:∀k:Nat,I k->B (zt9 I) (Xt n 0) (k:Int)) :
  ∃(IU:List Va->Prop) (mu:List Va->Nat),IU [.int .i64 si]/\∀i:Int,IU [.int .i64 i]->B IU mu i:=by
 refine⟨zt9 I,Xt n 0,⟨s,h0,by rw[hs]⟩,?_⟩;rintro i ⟨k,hI,he⟩;simp only[I4,I5,true_and,and_true] at he;subst he;exact hB k hI
def QB{n k:Nat}{I:Nat->Prop}(hk:k<n)(hI:I (k+1)):zt9 I [.int .i64 ((k:Int)+1)]/\Xt n 0 [.int .i64 ((k:Int)+1)]<Xt n 0 [.int .i64 (k:Int)]:=by
 refine⟨⟨k+1,hI,Qs⟩,?_⟩;simp only[Xt,Ye,Ie];omega
def zxf(I:Nat->Wo->Prop)(vs:List Va)(w:Wo):Prop:=∃k:Nat,I k w/\vs=[.int .i64 (k:Int)]
def ZG(n:Nat)(p:Nat)(vs:List Va)(_:Wo):Nat:=Xt n p vs
def Jm{B:(List Va->Wo->Prop)->(List Va->Wo->Nat)->Int->Wo->Prop}{bs L:List Nat}{wv:Wo}(n:Nat){si:Int}(s:Nat)(hs:si=s)(I:Nat->Wo->Prop)(h0:∀wr,Q0 bs wv wr->(∀bq∈L,bq<wr.heap.size)->I s wr)(hB:∀(k:Nat) (w1:Wo),(∀bq∈L,bq<w1.heap.size)->I k w1->B (zxf I) (ZG n 0) (k:Int) w1) :
  ∃(IU:List Va->Wo->Prop) (mu:List Va->Wo->Nat),(∀wr,Q0 bs wv wr->(∀bq∈L,bq<wr.heap.size)->IU [.int .i64 si] wr)/\∀(i:Int) (w1:Wo),(∀bq∈L,bq<w1.heap.size)->IU [.int .i64 i] w1->B IU mu i w1:=by
 refine⟨zxf I,ZG n 0,λwr hx hq=>⟨s,h0 wr hx hq,by rw[hs]⟩,?_⟩;rintro i w1 hq ⟨k,hI,he⟩;simp only[I4,I5,true_and,and_true] at he;subst he;exact hB k w1 hq hI
def Qw{n k:Nat}{I:Nat->Wo->Prop}{wr w1:Wo}(hk:k<n)(hI:I (k+1) wr):zxf I [.int .i64 ((k:Int)+1)] wr/\ZG n 0 [.int .i64 ((k:Int)+1)] wr<ZG n 0 [.int .i64 (k:Int)] w1:=by
 refine⟨⟨k+1,hI,Qs⟩,?_⟩;simp only[ZG,Xt,Ye,Ie];omega
def zxe(I:Int->Nat->Prop)(vs:List Va):Prop:=∃(x:Int) (k:Nat),I x k/\vs=[.int .i64 x,.int .i64 (k:Int)]
def Pc{B:(List Va->Prop)->(List Va->Nat)->Int->Int->Prop}(n:Nat){xi si:Int}(s:Nat)(hs:si=s)(I:Int->Nat->Prop)(h0:I xi s)(hB:∀(x:Int) (k:Nat),I x k->B (zxe I) (Xt n 1) x (k:Int)) :
  ∃(IU:List Va->Prop) (mu:List Va->Nat),IU [.int .i64 xi,.int .i64 si]/\∀(x i:Int),IU [.int .i64 x,.int .i64 i]->B IU mu x i:=by
 refine⟨zxe I,Xt n 1,⟨xi,s,h0,by rw[hs]⟩,?_⟩;rintro x i ⟨x',k,hI,he⟩;simp only[I4,I5,true_and,and_true] at he;obtain⟨rfl,rfl⟩:=he;exact hB x k hI
def QN{n k:Nat}{I:Int->Nat->Prop}{x x':Int}(hk:k<n)(hI:I x' (k+1)):zxe I [.int .i64 x',.int .i64 ((k:Int)+1)]/\Xt n 1 [.int .i64 x',.int .i64 ((k:Int)+1)]<Xt n 1 [.int .i64 x,.int .i64 (k:Int)]:=by
 refine⟨⟨x',k+1,hI,Qs⟩,?_⟩;simp only[Xt,Ye,Ie,List.getElem?_cons_succ];omega
def XX:maxLen<=9223372036854775807:=by simp[maxLen]
def zlk{k n:Nat}(h:(k:Int)<(n:Int))(hn:n<=maxLen):Qp .i64 ((k:Int)+1):=by
 have:=XX;exact⟨Qo,Qo⟩
end Go.Proofs.YtjinkcmkgnofjaaGreatDoor
