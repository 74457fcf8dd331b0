/- Part 10 of what the law FnLast needs. -/
import Derived.Test.YtnclplgaicdapaaGreatDoorFnLastPi
import Derived.LaidEql
import Derived.Stop.Asserts
import Derived.RowKitTokens
set_option linter.unusedVariables false
set_option linter.unusedSimpArgs false
set_option maxRecDepth 100000
set_option maxHeartbeats 8000000
namespace Go.Proofs.YtnclplgaicdapaaGreatDoor
open Go.RowKit
section
open Go.RowKit Go.Extern.Stop Go.Stop Go.Extern
theorem z0e(t:Va)(w:Wo) :
  Cz 173 #[.nilIface,t] w λe w'=>e=.returned (.bool false)/\w'=w:=by
 go_enter Tryz.func173,Tryz.ntmps173
 go_wp2
 go_ret
 exact⟨rfl,rfl⟩
theorem zkv(t:Addr)(w:Wo):(ReflectliteValue.unpack (.iface 130 (.pointer (some t)))).run Tryz.prog w
  = .ok (.agg #[.pointer (some ⟨1,130,none⟩),.pointer (some ⟨w.heap.size,0,none⟩),.int .u64 150]) (w.alloc (.cells #[.pointer (some t)] 130)):=Qk
theorem zud (a : Addr) (w : World) : (ReflectliteValue.methodAny (ReflectliteValue.valueError "reflectlite.Value.Type" 0) (λt _ _ _ => ReflectliteType.toType t) #[.agg #[.pointer (some ⟨1, 130, none⟩), .pointer (some a), .int .u64 150]]).run Tryz.prog w
  = .ok (.iface 174 (.agg #[.pointer (some ⟨1,130,none⟩)])) w:=Qk
theorem ze8 (h : Value) (w : World) : (Go.method 343 174 (.agg #[h]) "Kind").run Tryz.prog w = .ok (296, h) w := by kernel_rfl
theorem zua(w:Wo):((ReflectliteType.abiMethod λt=>(λa:Nat=>Value.int IntKind.u8 (a:Int)) <$> Rtype.kind t) #[.pointer (some ⟨1,130,none⟩)]).run Tryz.prog w=.ok (.int .u8 22) w:=Qk
theorem zt9(w:Wo):((ReflectliteType.abiMethod λt=>(λa:Nat=>Value.int IntKind.u8 (a:Int)) <$> Rtype.kind t) #[.pointer (some ⟨1,69,none⟩)]).run Tryz.prog w=.ok (.int .u8 25) w:=Qk
theorem zuc(z:Sem Va)(f:TypeId->Addr->Nat->Nat->Sem Va)(v:Va) :
  ReflectliteValue.method z f #[v]=(do match <-ReflectliteValue.parts v with | none=>z | some (t,a,fl)=>f t a fl (fl % 32)):=rfl
theorem zgx(a:Addr)(w:Wo):(ReflectliteValue.parts (.agg #[.pointer (some ⟨1,130,none⟩),.pointer (some a),.int .u64 150])).run Tryz.prog w=.ok (some (130,a,150)) w:=Qk
theorem zgy:Tryz.prog.underlying 130=some (.pointer 69):=Qk
theorem zrq (a p:Addr) (W:Wo) (ha:W.cell? a=some (.pointer (some p))) :
  (ReflectliteValue.method (ReflectliteValue.valueError "reflectlite.Value.IsNil" 0) ReflectliteValue.isNil #[.agg #[.pointer (some ⟨1, 130, none⟩), .pointer (some a), .int .u64 150]]).run Tryz.prog W = .ok (.bool false) W := by
 rw[zuc]
 simp only[Sem.run_bind,zgx,Result.andThen]
 simp[ReflectliteValue.isNil,loadVar,isAgg,underlying,zgy,ha,Result.andThen]
theorem ze7 (h : Value) (w : World) : (Go.method 343 174 (.agg #[h]) "Elem").run Tryz.prog w = .ok (314, .agg #[h]) w := by kernel_rfl
theorem HG (h : Value) (w : World) : (Go.method 343 174 (.agg #[h]) "Implements").run Tryz.prog w = .ok (315, .agg #[h]) w := by kernel_rfl
theorem Ly (h : Value) (w : World) : (Go.method 343 174 (.agg #[h]) "AssignableTo").run Tryz.prog w = .ok (312, .agg #[h]) w := by kernel_rfl
theorem zt7(w:Wo):(ReflectliteType.method ReflectliteType.elem #[.agg #[.pointer (some ⟨1,130,none⟩)]]).run Tryz.prog w=.ok (.iface 174 (.agg #[.pointer (some ⟨1,69,none⟩)])) w:=Qk
theorem zt8 (w : World) : (ReflectliteType.relation "Implements" ReflectliteType.implements_ #[.agg #[.pointer (some ⟨1, 69, none⟩)], .iface 174 (.agg #[.pointer (some ⟨1, 67, none⟩)])]).run Tryz.prog w = .ok (.bool true) w := by kernel_rfl
theorem znk(v:Va)(w:Wo):(ReflectliteType.typeOf #[.iface 69 v]).run Tryz.prog w=.ok (.iface 174 (.agg #[.pointer (some ⟨1,69,none⟩)])) w:=Qk
theorem zng (w : World) : (ReflectliteType.relation "AssignableTo" ReflectliteType.assignableTo #[.agg #[.pointer (some ⟨1, 69, none⟩)], .iface 174 (.agg #[.pointer (some ⟨1, 69, none⟩)])]).run Tryz.prog w = .ok (.bool true) w := by kernel_rfl
theorem zku(n:Int)(w:Wo):(ReflectliteValue.unpack (.iface 69 (.agg #[I n]))).run Tryz.prog w
  = .ok (.agg #[.pointer (some ⟨1,69,none⟩),.pointer (some ⟨w.heap.size,0,none⟩),.int .u64 153]) (w.alloc (.cells #[I n] 69)):=Qk
theorem zni(w:Wo):(Rtype.elem? 130).run Tryz.prog w=.ok (some 69) w:=Qk
theorem z0d(p:Addr)(w:Wo):(ReflectliteValue.mk 69 p ReflectliteValue.flagAddr).run Tryz.prog w=.ok (.agg #[.pointer (some ⟨1,69,none⟩),.pointer (some p),.int .u64 409]) w:=Qk
theorem zrp (a p:Addr) (W:Wo) (ha:W.cell? a=some (.pointer (some p))) :
  (ReflectliteValue.method (ReflectliteValue.valueError "reflectlite.Value.Elem" 0) ReflectliteValue.elem #[.agg #[.pointer (some ⟨1, 130, none⟩), .pointer (some a), .int .u64 150]]).run Tryz.prog W
   = .ok (.agg #[.pointer (some ⟨1,69,none⟩),.pointer (some p),.int .u64 409]) W:=by
 rw[zuc]
 simp only[Sem.run_bind,zgx,Result.andThen]
 simp[ReflectliteValue.elem,loadVar,isAgg,underlying,zgy,ha,Result.andThen,zni,z0d]
theorem znj(a:Addr)(w:Wo):(ReflectliteValue.parts (.agg #[.pointer (some ⟨1,69,none⟩),.pointer (some a),.int .u64 409])).run Tryz.prog w=.ok (some (69,a,409)) w:=Qk
theorem zrr(a:Addr)(w:Wo):(ReflectliteValue.parts (.agg #[.pointer (some ⟨1,69,none⟩),.pointer (some a),.int .u64 153])).run Tryz.prog w=.ok (some (69,a,153)) w:=Qk
theorem znh(w:Wo):(Rtype.directlyAssignable 69 69).run Tryz.prog w=.ok true w:=Qk
theorem z0f (v x:Va):ReflectliteValue.set #[v,x]=(do
  let (some (dst,a,fl),some (src,b,_)):=(<-ReflectliteValue.parts v,<-ReflectliteValue.parts x)
   | unsupported (.noEntry "extern/(internal/reflectlite.Value).Set.zeroValue")
  if fl / ReflectliteValue.flagAddr % 2 == 0 then unsupported (.noEntry "extern/(internal/reflectlite.Value).Set.unaddressable")
  let val <-loadVar src b
  if <-Rtype.directlyAssignable dst src then storeVar dst a val
  else if <-Rtype.implements dst src then
   if (<-Rtype.kind src)==20 then
    match val with
    | .nilIface => unsupported (.noEntry "extern/reflectlite: a nil value of one interface type handed on as a value of another")
    | _=>storeVar dst a val
   else storeVar dst a (.iface src val)
  else panicString ("reflectlite.Set: value of type " ++ (← Rtype.spelt src) ++ " is not assignable to type " ++ (← Rtype.spelt dst))
  pure (.tuple #[])):=rfl
theorem zxh(w:Wo):(isAgg 69).run Tryz.prog w=.ok true w:=Qk
theorem zkt(w:Wo):(sizeOf 69).run Tryz.prog w=.ok 1 w:=Qk
theorem zub(b:Addr)(n:Int)(W:Wo)(hb:W.cell? b=some (I n)):(loadVar 69 b).run Tryz.prog W=.ok (.agg #[I n]) W:=by
 unfold loadVar;simp only[Sem.run_bind,zxh,Result.andThen,if_true];simp only[Sem.run_bind,zkt,Result.andThen];have e:b.add 0=b:=by cases b; rfl
 simp[loadCells,loadCellsFrom,e,hb,Result.andThen]
theorem zxi(ta b:Addr)(n:Int)(old:Va)(W:Wo)(hb:W.cell? b=some (I n))(ht:W.cell? ta=some old)(hf:W.frozen? ta=false) :
  (ReflectliteValue.set #[.agg #[.pointer (some ⟨1,69,none⟩),.pointer (some ta),.int .u64 409],.agg #[.pointer (some ⟨1,69,none⟩),.pointer (some b),.int .u64 153]]).run Tryz.prog W
   = .ok (.tuple #[]) (W.setCell ta (I n)):=by
 rw[z0f];simp only[Sem.run_bind,znj,zrr,Result.andThen];have e:ta.add 0=ta:=by cases ta; rfl
 simp[ReflectliteValue.flagAddr,zub b n W hb,Result.andThen,znh,storeVar,zkt,Value.cells,storeCells,e];rw[run_store Tryz.prog W ta _ _ (by rfl)];simp[ht,hf]
set_option maxHeartbeats 4000000 in
theorem z0c (n:Int) (t:Addr) (old:Va) (w:Wo) (hg:w.cell? ⟨0,0,none⟩=some (.iface 174 (.agg #[.pointer (some ⟨1,67,none⟩)]))) (ht0:w.cell? t=some old) (hf0:w.frozen? t=false) :
  Cz 173 #[.iface 69 (.agg #[.int .i64 n]),.iface 130 (.pointer (some t))] w λev w'=>ev=.returned (.bool true)/\w'=((((w.alloc (.cells #[.pointer (some t)] 130)).alloc (.cells #[.pointer (some ⟨1,130,none⟩),.pointer (some ⟨w.heap.size,0,none⟩),.int .u64 150] 157)).alloc (.cells #[.pointer (some ⟨1,130,none⟩),.pointer (some ⟨w.heap.size,0,none⟩),.int .u64 150] 157)).alloc (.cells #[.int .i64 n] 69)).setCell t (.int .i64 n):=by
 have h6:=@run_callFunc_extern Tryz.prog 243 _ (λargs=>ReflectliteValue.unpack (args.getD 0 (.tuple #[]))) Tryz.func243 Qk Qk Qk Qk
 have h7 := @run_callFunc_extern Tryz.prog 244 _ (ReflectliteValue.methodAny (ReflectliteValue.valueError "reflectlite.Value.Type" 0) (λt _ _ _ => ReflectliteType.toType t)) Tryz.func244 (by kernel_rfl) (by kernel_rfl) (by kernel_rfl) (by kernel_rfl)
 have h8 := @run_callFunc_extern Tryz.prog 245 _ (ReflectliteValue.method (ReflectliteValue.valueError "reflectlite.Value.IsNil" 0) ReflectliteValue.isNil) Tryz.func245 (by kernel_rfl) (by kernel_rfl) (by kernel_rfl) (by kernel_rfl)
 have h27:=@run_callFunc_extern Tryz.prog 296 _ (ReflectliteType.abiMethod λt=>do pure (.int .u8 (<-Rtype.kind t))) Tryz.func296 Qk Qk Qk Qk
 have h37:=@run_callFunc_extern Tryz.prog 314 _ (ReflectliteType.method ReflectliteType.elem) Tryz.func314 Qk Qk Qk Qk
 have h38 := @run_callFunc_extern Tryz.prog 315 _ (ReflectliteType.relation "Implements" ReflectliteType.implements_) Tryz.func315 (by kernel_rfl) (by kernel_rfl) (by kernel_rfl) (by kernel_rfl)
 have h10:=@run_callFunc_extern Tryz.prog 263 _ ReflectliteType.typeOf Tryz.func263 Qk Qk Qk Qk
 have h35 := @run_callFunc_extern Tryz.prog 312 _ (ReflectliteType.relation "AssignableTo" ReflectliteType.assignableTo) Tryz.func312 (by kernel_rfl) (by kernel_rfl) (by kernel_rfl) (by kernel_rfl)
 have h11 := @run_callFunc_extern Tryz.prog 264 _ (ReflectliteValue.method (ReflectliteValue.valueError "reflectlite.Value.Elem" 0) ReflectliteValue.elem) Tryz.func264 (by kernel_rfl) (by kernel_rfl) (by kernel_rfl) (by kernel_rfl)
 have h12:=@run_callFunc_extern Tryz.prog 265 _ ReflectliteValue.set Tryz.func265 Qk Qk Qk Qk
 have tO:=znk
 have mA:=Ly
 have a25:=zng
 have v25:=zku
 have f6:=zkv
 have f7:=zud
 have mK:=ze8
 have mE:=ze7
 have mI:=HG
 have k27:=zua
 have k25:=zt9
 have e27:=zt7
 have i25:=zt8
 have n8:=zrq ⟨w.heap.size,0,none⟩ t ((w.alloc (.cells #[.pointer (some t)] 130)).alloc (.cells #[.pointer (some ⟨1,130,none⟩),.pointer (some ⟨w.heap.size,0,none⟩),.int .u64 150] 157)) Qs
 have IT:0<w.heap.size:=by
  rcases Nat.eq_zero_or_pos w.heap.size with h0 | h
  ·simp[World.cell?,h0] at hg
  ·exact h
 have hg2:((w.alloc (.cells #[.pointer (some t)] 130)).alloc (.cells #[.pointer (some ⟨1,130,none⟩),.pointer (some ⟨w.heap.size,0,none⟩),.int .u64 150] 157)).cell? ⟨0,0,none⟩=some (.iface 174 (.agg #[.pointer (some ⟨1,67,none⟩)])):=by
  rw[World.cell?_alloc_lt _ _ ⟨0,0,none⟩ Qs,World.cell?_alloc_lt _ _ ⟨0,0,none⟩ IT]; exact hg
 have kG:t.block<w.heap.size:=by
  rcases Nat.lt_or_ge t.block w.heap.size with h | h
  ·exact h
  ·simp[World.cell?,Array.getElem?_eq_none h] at ht0
 have el:=zrp ⟨w.heap.size,0,none⟩ t (((w.alloc (.cells #[.pointer (some t)] 130)).alloc (.cells #[.pointer (some ⟨1,130,none⟩),.pointer (some ⟨w.heap.size,0,none⟩),.int .u64 150] 157)).alloc (.cells #[.pointer (some ⟨1,130,none⟩),.pointer (some ⟨w.heap.size,0,none⟩),.int .u64 150] 157)) (by rw[World.cell?_alloc_lt _ _ ⟨w.heap.size,0,none⟩ (by simp; omega)]; simp)
 have st:=zxi t ⟨w.heap.size+1+1+1,0,none⟩ n old ((((w.alloc (.cells #[.pointer (some t)] 130)).alloc (.cells #[.pointer (some ⟨1,130,none⟩),.pointer (some ⟨w.heap.size,0,none⟩),.int .u64 150] 157)).alloc (.cells #[.pointer (some ⟨1,130,none⟩),.pointer (some ⟨w.heap.size,0,none⟩),.int .u64 150] 157)).alloc (.cells #[.int .i64 n] 69))
  (by rw[World.cell?_alloc_at _ _ _ _ Qs]; rfl)
  (by rw[World.cell?_alloc_lt _ _ t (by simp; omega),World.cell?_alloc_lt _ _ t (by simp; omega),World.cell?_alloc_lt _ _ t (by simp; omega),World.cell?_alloc_lt _ _ t kG]; exact ht0)
  (by rw[World.frozen?_alloc_old _ _ t (by simp; omega),World.frozen?_alloc_old _ _ t (by simp; omega),World.frozen?_alloc_old _ _ t (by simp; omega),World.frozen?_alloc_old _ _ t (Nat.ne_of_lt kG)]; exact hf0)
 go_enter Tryz.func173,Tryz.ntmps173
 go_wp2
 refine wp_loop_rounds 1 ?_
 rw[rounds_succ]
 go_wp2
 go_ret
 exact⟨rfl,rfl⟩
end
def hB(v:Int):Bool:=decide (v<=Qn)
theorem zjn{l:List Int}{o:OA}{c:Nat}{w:Wo}{bs:List Nat}(h:znf bs w o l)(hl:l.length<=maxLen):PX bs ZO #[.slice o l.length c] w (.bool (l.all hB)):=
 zj2 o l.length c λwr hx=>by
  have h:=(h.ext hx).less (cs:=[]) Qs;refine XB l.length 0 rfl (λk=>k<=l.length/\∀j:Nat,j<k->hB (gi l (j:Int))=true) ⟨Ie _,λj hj=>Is hj (Nat.not_lt_zero j)⟩ λk ⟨hk,hI⟩=>⟨λIT=>?_,λRN=>?_⟩
  ·have IT:=Ot IT;refine⟨h.ix Jy Qo IT,_,h k Qo IT,λg=>?_,λg=>⟨zjm IT hl,QE Qo ⟨Qo,λj hj=>?_⟩⟩⟩
   ·have g:=Ot g
    have:l.all hB=false:=by
     cases hb:l.all hB with
     | false=>rfl
     | true=>
      have:=Ot (CT.1 hb k Qo);simp only[Qn] at this;omega
    rw[this]
   ·by_cases iA:j<k
    ·exact hI j iA
    ·have:j=k:=Qo;subst this;have g:=Ou g;exact Ii (by simp only[Qn]; omega)
  ·have RN:=Ou RN;have hk:k=l.length:=Qo;subst hk;rw[CT.2 hI]
theorem z3b{a:Int}{w:Wo}{b:Nat}{t:TypeId}{fz:Nat×Nat}(h:w.heap[b]? = some (.cells ([I a]:List Va).toArray t fz)):PX [] ZO #[.slice (some ⟨b,0,none⟩) 1 1] w (.bool (hB a)):=by
 have:=zjn (l:=[a]) (c:=1) (bs:=[]) (KB h Qs) (by simp[maxLen])
 simpa using this
theorem z3n{a b2:Int}{w:Wo}{b:Nat}{t:TypeId}{fz:Nat×Nat}(h:w.heap[b]? = some (.cells ([I a,I b2]:List Va).toArray t fz)):PX [] ZO #[.slice (some ⟨b,0,none⟩) 2 2] w (.bool (hB a&&hB b2)):=by
 have:=zjn (l:=[a,b2]) (c:=2) (bs:=[]) (KB h Qs) (by simp[maxLen])
 simpa using this
theorem z3c{a b2 b3:Int}{w:Wo}{b:Nat}{t:TypeId}{fz:Nat×Nat}(h:w.heap[b]? = some (.cells ([I a,I b2,I b3]:List Va).toArray t fz)):PX [] ZO #[.slice (some ⟨b,0,none⟩) 3 3] w (.bool (hB a&&(hB b2&&hB b3))):=by
 have:=zjn (l:=[a,b2,b3]) (c:=3) (bs:=[]) (KB h Qs) (by simp[maxLen])
 simpa using this
def zzz(W:Q7):Nat->Bool
 | 0=>hB W.now
 | k+1=>zzz W k&&(hB (gi W.IE (k:Int)).busy&&hB (gi W.IE (k:Int)).idle)
def zz3(W:Q7):Nat->Bool
 | 0=>zzz W W.IE.length
 | k+1=>zz3 W k&&(hB (gi W.tasks (k:Int)).v&&(hB (gi W.tasks (k:Int)).sum&&hB (gi W.tasks (k:Int)).used))
def z1d(W:Q7)(g:Int)(b0:Bool):Nat->Bool
 | 0=>b0
 | q+1=>z1d W g b0 q&&(hB (Qc W g (q:Int)).floor&&(hB (Qc W g (q:Int)).v&&hB (Qc W g (q:Int)).sum))
def zvx(W:Q7):Nat->Bool
 | 0=>zz3 W W.tasks.length
 | k+1=>z1d W (k:Int) (zvx W k&&hB (gi W.ID (k:Int)).sum) (gi W.ID (k:Int)).IF.length
theorem zuz{v:Int}:hB v=true↔v<=Qn:=decide_eq_true_iff
theorem zz0{W:Q7}:∀k:Nat,zzz W k=true↔W.now<=Qn/\∀j:Nat,j<k->(gi W.IE (j:Int)).busy<=Qn/\(gi W.IE (j:Int)).idle<=Qn
 | 0=>by simp only[zzz,zuz]; exact⟨λh=>⟨h,λj hj=>by omega⟩,λh=>h.1⟩
 | k+1=>by
  simp only[zzz,A',zuz,zz0 k];constructor
  ·rintro⟨⟨h1,h2⟩,h3⟩;refine⟨h1,λj hj=>?_⟩
   by_cases e:j=k
   ·subst e; exact h3
   ·exact h2 j Qo
  ·rintro⟨h1,h2⟩;exact⟨⟨h1,λj hj=>h2 j Qo⟩,h2 k Qo⟩
theorem zz4{W:Q7}:∀k:Nat,zz3 W k=true↔zzz W W.IE.length=true/\∀j:Nat,j<k->(gi W.tasks (j:Int)).v<=Qn/\(gi W.tasks (j:Int)).sum<=Qn/\(gi W.tasks (j:Int)).used<=Qn
 | 0=>by simp only[zz3]; exact⟨λh=>⟨h,λj hj=>by omega⟩,λh=>h.1⟩
 | k+1=>by
  simp only[zz3,A',zuz,zz4 k];constructor
  ·rintro⟨⟨h1,h2⟩,h3⟩;refine⟨h1,λj hj=>?_⟩
   by_cases e:j=k
   ·subst e; exact h3
   ·exact h2 j Qo
  ·rintro⟨h1,h2⟩;exact⟨⟨h1,λj hj=>h2 j Qo⟩,h2 k Qo⟩
theorem zz2{W:Q7}{g:Int}{b0:Bool}:∀k:Nat,z1d W g b0 k=true↔b0=true/\∀j:Nat,j<k->(Qc W g (j:Int)).floor<=Qn/\(Qc W g (j:Int)).v<=Qn/\(Qc W g (j:Int)).sum<=Qn
 | 0=>by simp only[z1d]; exact⟨λh=>⟨h,λj hj=>by omega⟩,λh=>h.1⟩
 | k+1=>by
  simp only[z1d,A',zuz,zz2 k];constructor
  ·rintro⟨⟨h1,h2⟩,h3⟩;refine⟨h1,λj hj=>?_⟩
   by_cases e:j=k
   ·subst e; exact h3
   ·exact h2 j Qo
  ·rintro⟨h1,h2⟩;exact⟨⟨h1,λj hj=>h2 j Qo⟩,h2 k Qo⟩
theorem zz1{W:Q7}:∀k:Nat,zvx W k=true↔zz3 W W.tasks.length=true/\∀j:Nat,j<k->(gi W.ID (j:Int)).sum<=Qn/\∀q:Nat,q<(gi W.ID (j:Int)).IF.length->(Qc W (j:Int) (q:Int)).floor<=Qn/\(Qc W (j:Int) (q:Int)).v<=Qn/\(Qc W (j:Int) (q:Int)).sum<=Qn
 | 0=>by simp only[zvx]; exact⟨λh=>⟨h,λj hj=>by omega⟩,λh=>h.1⟩
 | k+1=>by
  simp only[zvx,zz2,A',zuz,zz1 k];constructor
  ·rintro⟨⟨⟨h1,h2⟩,h3⟩,h4⟩;refine⟨h1,λj hj=>?_⟩
   by_cases e:j=k
   ·subst e; exact⟨h3,h4⟩
   ·exact h2 j Qo
  ·rintro⟨h1,h2⟩;exact⟨⟨⟨h1,λj hj=>h2 j Qo⟩,(h2 k Qo).1⟩,(h2 k Qo).2⟩
theorem zy9(W:Q7):zvx W W.ID.length=QO W:=by
 have key:zvx W W.ID.length=true↔Kg W:=by
  rw[zz1,zz4,zz0];constructor
  ·rintro⟨⟨⟨h1,h2⟩,h3⟩,h4⟩;have e:∀{i:Int},0<=i->((i.toNat:Nat):Int)=i:=λh=>by omega
   refine⟨h1,λc a b=>?_,λc a b=>?_,λc a b=>?_,λk c a b c0 c1=>?_⟩
   ·have:=h2 c.toNat Qo; rwa[e a] at this
   ·have:=h3 c.toNat Qo; rwa[e a] at this
   ·have:=(h4 c.toNat Qo).1; rwa[e a] at this
   ·have:=(h4 k.toNat Qo).2 c.toNat (by rw[e a]; omega); rwa[e a,e c0] at this
  ·intro r;exact⟨⟨⟨r.n,λj hj=>r.c (j:Int) Qo Qo⟩,λj hj=>r.t (j:Int) Qo Qo⟩,λj hj=>⟨r.g (j:Int) Qo Qo,λq hq=>r.s (j:Int) (q:Int) Qo Qo Qo Qo⟩⟩
 unfold QO
 cases hb:JI (Kg W) with
 | true=>exact key.2 (Qj.1 hb)
 | false=>
  cases ho:zvx W W.ID.length with
  | false=>rfl
  | true=>exact Is (key.1 ho) (Gc.1 hb)
theorem zis{a b:Bool}(h:a=true->False):(a&&b)=false:=by
 cases a with
 | false=>rfl
 | true=>exact(h rfl).elim
def zuh(I:Bool->Nat->Prop)(vs:List Va):Prop:=∃(x:Bool) (k:Nat),I x k/\vs=[.bool x,.int .i64 (k:Int)]
theorem zqi{B:(List Va->Prop)->(List Va->Nat)->Bool->Int->Prop}(n:Nat){xi:Bool}{si:Int}(s:Nat)(hs:si=s)(I:Bool->Nat->Prop)(h0:I xi s)(hB:∀(x:Bool) (k:Nat),I x k->B (zuh I) (Xg n 1) x (k:Int)) :
  ∃(IP:List Va->Prop) (mu:List Va->Nat),IP [.bool xi,.int .i64 si]/\∀(x:Bool) (i:Int),IP [.bool x,.int .i64 i]->B IP mu x i:=by
 refine⟨zuh I,Xg n 1,⟨xi,s,h0,by rw[hs]⟩,?_⟩;rintro x i ⟨x',k,hI,he⟩;simp only[I5,I6,Value.bool.injEq,true_and,and_true] at he;obtain⟨rfl,rfl⟩:=he;exact hB x k hI
theorem Ut{n k:Nat}{I:Bool->Nat->Prop}{x x':Bool}(hk:k<n)(hI:I x' (k+1)):zuh I [.bool x',.int .i64 ((k:Int)+1)]/\Xg n 1 [.bool x',.int .i64 ((k:Int)+1)]<Xg n 1 [.bool x,.int .i64 (k:Int)]:=by
 refine⟨⟨x',k+1,hI,Qs⟩,?_⟩;simp only[Xg,ZW,Ig,List.getElem?_cons_succ];omega
section
variable {W:Q7}{m:MW}{w:Wo}{bs:List Nat}{p:OA}
theorem zjo(h:Mu bs w p W m)(ha:WA W):PX bs Vz #[.pointer p] w (.bool (QO W)):=by
 rw[<-zy9];refine FB p λwr hx=>?_
 have h:=(h.ext hx).less (cs:=[]) Qs;have kG:=ha.t;have cJ:=ha.gl;have sK:=ha.c2;refine⟨h.some,_,h.now,λb hb=>⟨hB W.now,λwx _ hc=>z3b hc,h.some,_,_,_,h.IE,?_⟩⟩;refine zqi W.IE.length 0 rfl (λx k=>k<=W.IE.length/\x=zzz W k) ⟨Ie _,rfl⟩ λx k ⟨hk,S4⟩=>⟨λIT=>?_,λRN=>?_⟩
 ·have IT:=Ot IT;refine⟨h.rd.c.ix ZT Qo IT,_,_,_,_,_,h.rd.c k Qo IT,λb1 fD=>⟨λ_ b2 dJ=>⟨_,λ_ wx _ hc=>z3n hc,⟨Qo,Qo⟩,Ut Qo ⟨Qo,by rw[S4]; rfl⟩⟩,λhn=>⟨⟨Qo,Qo⟩,Ut Qo ⟨Qo,?_⟩⟩⟩⟩;simp only[zzz]; rw[<-S4,zis hn]
 have RN:=Ou RN;have hkk:k=W.IE.length:=Qo;subst hkk;refine⟨h.some,_,_,_,h.tasks,?_⟩;refine zqi W.tasks.length 0 rfl (λx k=>k<=W.tasks.length/\x=zz3 W k) ⟨Ie _,S4⟩ λx k ⟨hk,S4⟩=>⟨λIT=>?_,λRN=>?_⟩
 ·have IT:=Ot IT;refine⟨h.rd.t.ix QM Qo IT,_,_,_,_,_,_,_,_,_,h.rd.t k Qo IT,λb1 fD=>⟨λ_ b2 dJ=>⟨_,λ_ wx _ hc=>z3c hc,⟨Qo,Qo⟩,Ut Qo ⟨Qo,by rw[S4]; rfl⟩⟩,λhn=>⟨⟨Qo,Qo⟩,Ut Qo ⟨Qo,?_⟩⟩⟩⟩;simp only[zz3]; rw[<-S4,zis hn]
 have RN:=Ou RN;have hkk:k=W.tasks.length:=Qo;subst hkk;refine⟨h.some,_,_,_,h.ID,?_⟩;refine zqi W.ID.length 0 rfl (λx k=>k<=W.ID.length/\x=zvx W k) ⟨Ie _,S4⟩ λx k ⟨hk,S4⟩=>⟨λIT=>?_,λRN=>?_⟩
 ·have IT:=Ot IT;have hsl:(gi W.ID (k:Int)).IF.length<=4:=(Kk ha (k:=(k:Int)) Qo Qo).2.2;have wJ:=h.rd.g.IF (k:Int) Qo IT;rw[Ih] at wJ
  have inner:∀{b0:Bool},b0=(zvx W k&&hB (gi W.ID (k:Int)).sum)->∃(IP:List Va->Prop) (mu:List Va->Nat),IP [.bool b0,I 0]/\∀(ok3:Bool) (dL:Int),IP [.bool ok3,I dL]->
    ((decide (dL<(((gi W.ID (k:Int)).IF.length:Nat):Int)))=true->
     Ix (m.ms k).sO (gi W.ID (k:Int)).IF.length dL/\
     (∃(x03:Int) (x15:Bool) (x23:Int) (x33:Int) (x43:Int),
     Q1 [] wr (m.ms k).sO (Int.toNat dL*5) [I x03,.bool x15,I x23,I x33,I x43]/\
     (∀b7,wr.heap.size<=b7->
     (ok3=true->(∀b8,wr.heap.size<=b8->
     (∃(wG:Bool),
     (ok3=true->(∀wx4,Q0 [] wr wx4->wx4.heap[b8]? = some (Obj.cells ([I x03,I x23,I x43]:List Va).toArray Qb (0,0))->PX [] ZO #[.slice (some (Addr.mk b8 0 none)) 3 3] wx4 (.bool wG)))/\
     Ql .i64 (dL+1)/\
     IP [.bool (ok3&&wG),I (dL+1)]/\mu [.bool (ok3&&wG),I (dL+1)]<mu [.bool ok3,I dL])))/\
     ((ok3=true->False)->
     Ql .i64 (dL+1)/\
     IP [.bool false,I (dL+1)]/\mu [.bool false,I (dL+1)]<mu [.bool ok3,I dL]))))/\
    ((decide (dL<(((gi W.ID (k:Int)).IF.length:Nat):Int)))=false->ok3=zvx W (k+1)):=λ{b0} hb0=>by
   refine zqi (gi W.ID (k:Int)).IF.length 0 rfl (λx q=>q<=(gi W.ID (k:Int)).IF.length/\x=z1d W (k:Int) (zvx W k&&hB (gi W.ID (k:Int)).sum) q) ⟨Ie _,hb0⟩ λx q ⟨hq,R3⟩=>⟨λRM=>?_,λbK=>?_⟩
   ·have RM:=Ot RM;refine⟨wJ.ix ZZ Qo RM,_,_,_,_,_,wJ q Qo RM,λb7 hb7=>⟨λ_ b8 hb8=>⟨_,λ_ wx _ hc=>z3c hc,⟨Qo,Qo⟩,Ut Qo ⟨Qo,by rw[R3]; rfl⟩⟩,λhn=>⟨⟨Qo,Qo⟩,Ut Qo ⟨Qo,?_⟩⟩⟩⟩;simp only[z1d]; rw[<-R3,zis hn]
   ·have bK:=Ou bK;have:q=(gi W.ID (k:Int)).IF.length:=Qo;rw[R3,this]; rfl
  refine⟨h.rd.g.ix Qo IT,_,_,_,_,_,_,_,_,_,_,_,_,_,_,_,_,_,_,_,_,h.rd.g.cells (k:Int) Qo IT,λb5 hb5=>⟨λ_ b6 hb6=>⟨hB (gi W.ID (k:Int)).sum,λ_ wx _ hc=>z3b hc,?_⟩,λhn=>?_⟩⟩
  ·obtain⟨xI,mu,h0,hI⟩:=inner (b0:=x&&hB (gi W.ID (k:Int)).sum) (by rw[S4]);refine⟨xI,mu,h0,λok3 dL hi=>⟨(hI ok3 dL hi).1,λbK=>⟨⟨Qo,Qo⟩,?_⟩⟩⟩;have e:=(hI ok3 dL hi).2 bK;exact Ut Qo ⟨Qo,e⟩
  ·obtain⟨xI,mu,h0,hI⟩:=inner (b0:=false) (by rw[<-S4,zis hn]);refine⟨xI,mu,h0,λok3 dL hi=>⟨(hI ok3 dL hi).1,λbK=>⟨⟨Qo,Qo⟩,?_⟩⟩⟩;have e:=(hI ok3 dL hi).2 bK;exact Ut Qo ⟨Qo,e⟩
 ·have RN:=Ou RN;have hkk:k=W.ID.length:=Qo;subst hkk;rw[S4]
end
def MA(w:Wo):Prop:=w.cell? ⟨0,0,none⟩=some (.iface 174 (.agg #[.pointer (some ⟨1,67,none⟩)]))
theorem MA.ext{w w':Wo}(h:MA w)(hx:Q0 [] w w'):MA w':=by
 have IT:0<w.heap.size:=by
  rcases Nat.eq_zero_or_pos w.heap.size with h0 | h1
  ·unfold MA at h; simp[World.cell?,h0] at h
  ·exact h1
 have hb:=hx.block 0 IT Qs;unfold MA at h ⊢;unfold World.cell? at h ⊢
 dsimp only at h ⊢
 rw[hb];exact h
theorem zyd(t:Va)(w:Wo):Cz KV #[.nilIface,t] w λe w'=>e=.returned (.bool false)/\Q0 [] w w':=(z0e t w).mono λe w' ⟨he,hw⟩=>⟨he,by rw[hw]; exact Q0.refl _ _⟩
theorem zva{n:Int}{t:Nat}{old:Int}{w:Wo}{ty:TypeId}(hg:MA w)(ht:w.heap[t]? = some (.cells ([I old]:List Va).toArray ty (0,0))) :
  Cz KV #[.iface Z1 (.agg #[I n]),.iface XX (.pointer (some ⟨t,0,none⟩))] w λe w'=>e=.returned (.bool true)/\w'.heap[t]? = some (.cells ([I n]:List Va).toArray ty (0,0))/\Q0 [t] w w':=by
 refine(z0c n ⟨t,0,none⟩ (I old) w hg (by rw[V0 ht]; rfl) (by simp[World.frozen?,ht])).mono λe w' ⟨he,hw⟩=>⟨he,?_⟩
 subst hw;have hx:=(((((Q0.refl [] w).alloc (.cells #[.pointer (some ⟨t,0,none⟩)] XX)).alloc (.cells #[.pointer (some ⟨1,XX,none⟩),.pointer (some ⟨w.heap.size,0,none⟩),.int .u64 150] Ju)).alloc (.cells #[.pointer (some ⟨1,XX,none⟩),.pointer (some ⟨w.heap.size,0,none⟩),.int .u64 150] Ju)).alloc (.cells #[I n] Z1));have hb:=QQ ht hx Qs;refine⟨?_,?_⟩
 ·have:=OD (k:=0) (n:=0) (vs:=[I n]) hb;exact this
 ·exact hx.of_nil.setCell (p:=⟨t,0,none⟩) (.inr Qs) _
structure G1 (base pb:Nat) (ex:List Nat) (w:Wo) (m:MW) (w':Wo) (W':Q7) (m':MW):Prop where
 own:Zj 8 base w' W' m'
 pt:w'.heap[pb]? = some (.cells (Qa W' m').toArray Q4 (0,0))
 ext:Q0 (ex++(pb::QC 8 m)) w w'
 sub:∀x∈QC 8 m',x∈QC 8 m\/w.heap.size<=x
theorem Mp.done{base pb:Nat}{ex:List Nat}{w w':Wo}{W':Q7}{m m':MW}(h:Mp base pb [] w m w' W' m'):G1 base pb ex w m w' W' m':=
 ⟨h.v.own,h.pt,h.v.ext.mono λx hx=>Iy _ (I2 _ hx),h.v.sub⟩
def z1y(ex:List Nat)(r:Q7×Int)(w:Wo)(v:Va)(w':Wo):Prop:=∃n m',v=.tuple #[.agg (Qa r.1 m').toArray,I r.2]/\Zj n w.heap.size w' r.1 m'/\Q0 ex w w'
section
variable {W W':Q7}{m:MW}{w:Wo}{bar:Int}
theorem zn7{cf:Fn}{ca ck:Array Va}(ex:List Nat)(P:Wo->Prop)(hP:∀(a b:Wo) (bs:List Nat),P a->Q0 bs a b->(∀x∈bs,w.heap.size<=x)->P b)(hex:∀x∈ex,x<w.heap.size)(hz:0∉ex)(h:Xl [] w W m)(hr:∀x∈ex,∀w1,Q0 ex w w1->Xl [] w1 W m)(hl:Xz W)(hg:MA w)(Rt:∀(w1:Wo) (pb:Nat) (m1:MW),Qy W=true->Q0 [] w w1->w.heap.size<=pb->PW w.heap.size pb w1 W m1->
   OH Tryz.prog (.func cf ca ck) [.pointer (pA pb)] w1 λe w2=>(bar≠0/\e=.returned (.iface Z1 (.agg #[I bar]))/\Q0 [] w1 w2)\/(bar=0/\e=.returned .nilIface/\P w2/\∃m2,G1 w.heap.size pb ex w1 m1 w2 W' m2)) :
  Cz Vh #[.agg (Qa W m).toArray,.func cf ca ck] w λe w'=>∃v,e=.returned v/\z1y ex (YK W bar W') w v w'/\(Qy W=true->bar=0->P w')/\(Qy W=false\/bar≠0->Q0 [] w w'):=by
 refine zbh _ _ _ _ _ _ _ _ _ _ cf ca ck (R:=λv w'=>z1y ex (YK W bar W') w v w'/\(Qy W=true->bar=0->P w')/\(Qy W=false\/bar≠0->Q0 [] w w')) ?_;intro x hx x1 S4;refine⟨_,zca h hl.c hl.g hl.f,λg wr R3=>?_,λg J' R3 dE=>?_⟩
 ·have hW:Qy W=false:=by simpa using g
  refine⟨?_,λhw=>(by rw[hW] at hw; cases hw),λ_=>R3⟩;rw[zpr hW];exact⟨0,zw8,rfl,Zj.zero _ _,R3.of_nil⟩
 have hW:Qy W=true:=by simpa using g
 have wp:=Qj.1 hW;have s1:Sc w [x,x1] J':=(((Sc.start w).add hx).add S4).R6 R3;refine I4 (NU (h.ext R3) wp.a) ?_;rintro e wv ⟨m1,he,hM1,cX⟩;have s2:=s1.R6 cX;have oK:=(OW.of hM1 dE).mono R3.size;refine⟨_,_,_,_,_,_,_,_,_,_,he,Qe cX dE,λb2 wb hxb dJ hcb hn2=>?_⟩;have s3:=s2.step hxb;have hO3:=oK.step hxb;have Cx8:w.heap.size<=b2:=IB s2.ext.size dJ
 have dQ:b2∉QC 8 m1:=λhm=>by
  have:=(oK.own.lt b2 hm).2;omega
 refine⟨MS (k0:=0) hcb hn2 Qs,λb3 wb1 CP2 hb3 Cz4 hn3=>?_⟩;have nG:=OD (k:=0) (n:=0) (vs:=Qa W m1) hcb;have CO6:Q0 [b2] wb (R8 wb (some ⟨b2,0,none⟩) 0 (Qa W m1)):=Ub λa ha=>by cases ha; simp
 have hO4 := (hO3.call CO6 fun y hy hm => dQ (by have:y=b2:=by simpa using hm
                                                 exact this▸hy)).step CP2
 have s4 := (s3.call CO6 fun y hy => by have:y=b2:=by simpa using hy
                                        omega).step CP2
 have C33:wb1.heap[b2]? = some (.cells (Qa W m1).toArray Q4 (0,0)):=QQ nG CP2 hn2
 have DS0:b2≠b3:=λe=>by
  have:=JW nG;have Cx9:(R8 wb (some ⟨b2,0,none⟩) 0 (Qa W m1)).heap.size<=b3:=hb3;omega
 have DS1:w.heap.size<=b3:=by
  have h1:=CO6.size;have h2:=s3.ext.size;have Cx9:(R8 wb (some ⟨b2,0,none⟩) 0 (Qa W m1)).heap.size<=b3:=hb3;omega
 intro O' SZ Wc;have hO5:=hO4.step SZ;have s5:=s4.step SZ;have C34:=QQ C33 SZ hn2;have hc5:=QQ Cz4 SZ hn3;refine OH.mono (Rt O' b2 m1 hW s5.ext Cx8 ⟨hO5.own,C34,dQ⟩) ?_;rintro e1 R4 (⟨hb0,gW,hy⟩ | ⟨hb0,gW,hPw,m2,hD⟩)
 ·
  refine⟨_,gW,Qe hy Wc,λRu Sw fX=>?_⟩;have s6:=(s5.R6 hy).step Sw;have hc6:=QQ (QQ hc5 hy Qs) Sw hn3;refine I4 (zva (hg.ext s6.ext) hc6) ?_;rintro e2 Rr ⟨aE,hc7,SJ⟩
  have s7 := s6.call SJ fun y hy => by have:y=b3:=by simpa using hy
                                       omega
  have Ws:∀{w9:Wo},Q0 [x,x1] Rr w9->Q1 [x,x1] w9 (some ⟨b3,0,none⟩) (0+0) [I bar]:=λh9=>VP (QQ hc7 h9 hn3) hn3 (k0:=0) rfl
  refine ⟨true, aE, GD SJ fX (fun y hm gE => by have:y=b3:=by simpa using hm
                                                exact hn3 (this▸gE)),λ_=>⟨bar,Ws (Q0.refl _ _),λRC bJ eM=>?_⟩,λg=>by cases g⟩
  have s8:=s7.step bJ;refine I4 (NU (h.ext s8.ext) wp.a) ?_;rintro e3 S5 ⟨m3,iP,hZ,kW⟩;have s9:=s8.R6 kW;have hO9:=(OW.of hZ eM).mono s8.ext.size;have hc9:Q1 [x,x1] S5 (some ⟨b3,0,none⟩) (0+0) [I bar]:=VP (QQ (QQ hc7 bJ hn3) kW Qs) hn3 (k0:=0) rfl;refine⟨_,_,_,_,_,_,_,_,_,_,iP,Qe kW eM,hc9,hc9,λRQ nN=>⟨?_,λ_ hb=>Is hb hb0,λ_=>(s9.step nN).ext⟩⟩;rw[zps hW hb0];exact⟨8,m3,rfl,(hO9.step nN).own,(s9.step nN).ext.of_nil⟩
 ·
  have C29:∀y∈ex++(b2::QC 8 m1),y∉[x,x1]:=λy hy hm=>by
   rcases Io.1 hy with h1 | h1
   ·have:=hex y h1;have:=s1.new y hm;omega
   ·rcases Ij.1 h1 with h1 | h1
    ·subst h1; exact hn2 hm
    ·exact hO5.nb y h1 hm
  refine⟨_,gW,GD hD.ext Wc C29,λRu Sw fX=>?_⟩;refine I4 (zyd _ _) ?_;rintro e2 Rr ⟨aE,SJ⟩
  have Bi9:∀y∈QC 8 m2,y∉[x,x1]:=λy hy hm=>by
   rcases hD.sub y hy with h1 | h1
   ·exact hO5.nb y h1 hm
   ·have:=Wc y hm;omega
  have wH:=((hD.own.ext Sw Bi9).WG SJ);have C35:=QQ (QQ hD.pt Sw hn2) SJ Qs
  have hX2:Q0 ex w R4:=s5.ext.of_nil.fresh hD.ext λy hy=>by
   rcases Io.1 hy with h1 | h1
   ·exact .inr h1
   ·refine .inl ?_;rcases Ij.1 h1 with h1 | h1
    ·omega
    ·exact(hO5.own.lt y h1).1
  have hX3:Q0 ex w Rr:=(hX2.fresh Sw λy hy=>.inl (s1.new y hy)).trans SJ.of_nil;refine⟨false,aE,Qe SJ fX,λg=>(by cases g),λ_=>⟨_,_,_,_,_,_,_,_,_,_,PN C35 hn2 (k0:=0) (n:=0) λj v hj=>by simpa[Qa] using hj,λSh bJ=>⟨?_,λ_ _=>?_,λhn=>?_⟩⟩⟩
  ·rw[zt6 hW hb0];exact⟨8,m2,rfl,wH.ext bJ Bi9,hX3.fresh bJ λy hy=>.inl (s1.new y hy)⟩
  ·exact hP _ _ _ (hP _ _ _ (hP _ _ _ hPw Sw s1.new) SJ Qs) bJ s1.new
  ·rcases hn with h1 | h1
   ·rw[hW] at h1; cases h1
   ·exact Is hb0 h1
theorem zsi{cf:Fn}{ca ck:Array Va}(h:Xl [] w W m)(hl:Xz W)(hg:MA w)(Rt:∀(w1:Wo) (pb:Nat) (m1:MW),Qy W=true->Q0 [] w w1->w.heap.size<=pb->PW w.heap.size pb w1 W m1->
   OH Tryz.prog (.func cf ca ck) [.pointer (pA pb)] w1 λe w2=>(bar≠0/\e=.returned (.iface Z1 (.agg #[I bar]))/\Q0 [] w1 w2)\/(bar=0/\e=.returned .nilIface/\∃m2,G1 w.heap.size pb [] w1 m1 w2 W' m2)) :
  Cz Vh #[.agg (Qa W m).toArray,.func cf ca ck] w λe w'=>∃v,e=.returned v/\QP (YK W bar W') w v w':=
 (zn7 [] (λ_=>True) (λ_ _ _ _ _ _=>trivial) Qs Qs h Qs hl hg λw1 pb m1 a b c d=>(Rt w1 pb m1 a b c d).mono λe w2 hh=>by
  rcases hh with h1 | ⟨h1,h2,h3⟩
  ·exact .inl h1
  ·exact .inr ⟨h1,h2,trivial,h3⟩).mono λe w' ⟨v,he,hA,_⟩=>⟨v,he,hA⟩
end
end Go.Proofs.YtnclplgaicdapaaGreatDoor
