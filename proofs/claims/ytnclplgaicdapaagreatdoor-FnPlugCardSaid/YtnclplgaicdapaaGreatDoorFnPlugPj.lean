/- Part 10 of what the law FnPlug needs. -/
import Derived.Test.YtnclplgaicdapaaGreatDoorFnPlugPi
import Derived.LaidEql
import Derived.Stop.Asserts
import Derived.RowKitTokens
set_option linter.unusedVariables false
set_option linter.unusedSimpArgs false
set_option maxRecDepth 100000
set_option maxHeartbeats 8000000
namespace Go.Proofs.YtnclplgaicdapaaGreatDoor
open Go.RowKit
section
open Go.RowKit Go.Extern.Stop Go.Stop Go.Extern
theorem zzd(t:Va)(w:Wo) :
  Cz 173 #[.nilIface,t] w fun e w'=>e=.returned (.bool false)/\w'=w:=by
 go_enter Tryz.func173,Tryz.ntmps173
 go_wp2
 go_ret
 exact⟨rfl,rfl⟩
theorem zj5(t:Addr)(w:Wo):(ReflectliteValue.unpack (.iface 130 (.pointer (some t)))).run Tryz.prog w
  = .ok (.agg #[.pointer (some ⟨1,130,none⟩),.pointer (some ⟨w.heap.size,0,none⟩),.int .u64 150]) (w.alloc (.cells #[.pointer (some t)] 130)):=Qk
theorem ztf (a : Addr) (w : World) : (ReflectliteValue.methodAny (ReflectliteValue.valueError "reflectlite.Value.Type" 0) (fun t _ _ _ => ReflectliteType.toType t) #[.agg #[.pointer (some ⟨1, 130, none⟩), .pointer (some a), .int .u64 150]]).run Tryz.prog w
  = .ok (.iface 174 (.agg #[.pointer (some ⟨1,130,none⟩)])) w:=Qk
theorem zeh (h : Value) (w : World) : (Go.method 343 174 (.agg #[h]) "Kind").run Tryz.prog w = .ok (296, h) w := by kernel_rfl
theorem ztc(w:Wo):((ReflectliteType.abiMethod fun t=>(fun a:Nat=>Value.int IntKind.u8 (a:Int)) <$> Rtype.kind t) #[.pointer (some ⟨1,130,none⟩)]).run Tryz.prog w=.ok (.int .u8 22) w:=Qk
theorem ztb(w:Wo):((ReflectliteType.abiMethod fun t=>(fun a:Nat=>Value.int IntKind.u8 (a:Int)) <$> Rtype.kind t) #[.pointer (some ⟨1,69,none⟩)]).run Tryz.prog w=.ok (.int .u8 25) w:=Qk
theorem zte(z:Sem Va)(f:TypeId->Addr->Nat->Nat->Sem Va)(v:Va) :
  ReflectliteValue.method z f #[v]=(do match <-ReflectliteValue.parts v with | none=>z | some (t,a,fl)=>f t a fl (fl % 32)):=rfl
theorem zf7(a:Addr)(w:Wo):(ReflectliteValue.parts (.agg #[.pointer (some ⟨1,130,none⟩),.pointer (some a),.int .u64 150])).run Tryz.prog w=.ok (some (130,a,150)) w:=Qk
theorem zf8:Tryz.prog.underlying 130=some (.pointer 69):=Qk
theorem zqt (a p:Addr) (W:Wo) (ha:W.cell? a=some (.pointer (some p))) :
  (ReflectliteValue.method (ReflectliteValue.valueError "reflectlite.Value.IsNil" 0) ReflectliteValue.isNil #[.agg #[.pointer (some ⟨1, 130, none⟩), .pointer (some a), .int .u64 150]]).run Tryz.prog W = .ok (.bool false) W := by
 rw[zte]
 simp only[Sem.run_bind,zf7,Result.andThen]
 simp[ReflectliteValue.isNil,loadVar,isAgg,underlying,zf8,ha,Result.andThen]
theorem zeg (h : Value) (w : World) : (Go.method 343 174 (.agg #[h]) "Elem").run Tryz.prog w = .ok (314, .agg #[h]) w := by kernel_rfl
theorem Hs (h : Value) (w : World) : (Go.method 343 174 (.agg #[h]) "Implements").run Tryz.prog w = .ok (315, .agg #[h]) w := by kernel_rfl
theorem Ll (h : Value) (w : World) : (Go.method 343 174 (.agg #[h]) "AssignableTo").run Tryz.prog w = .ok (312, .agg #[h]) w := by kernel_rfl
theorem zs9(w:Wo):(ReflectliteType.method ReflectliteType.elem #[.agg #[.pointer (some ⟨1,130,none⟩)]]).run Tryz.prog w=.ok (.iface 174 (.agg #[.pointer (some ⟨1,69,none⟩)])) w:=Qk
theorem zta (w : World) : (ReflectliteType.relation "Implements" ReflectliteType.implements_ #[.agg #[.pointer (some ⟨1, 69, none⟩)], .iface 174 (.agg #[.pointer (some ⟨1, 67, none⟩)])]).run Tryz.prog w = .ok (.bool true) w := by kernel_rfl
theorem zmr(v:Va)(w:Wo):(ReflectliteType.typeOf #[.iface 69 v]).run Tryz.prog w=.ok (.iface 174 (.agg #[.pointer (some ⟨1,69,none⟩)])) w:=Qk
theorem zmn (w : World) : (ReflectliteType.relation "AssignableTo" ReflectliteType.assignableTo #[.agg #[.pointer (some ⟨1, 69, none⟩)], .iface 174 (.agg #[.pointer (some ⟨1, 69, none⟩)])]).run Tryz.prog w = .ok (.bool true) w := by kernel_rfl
theorem zj4(n:Int)(w:Wo):(ReflectliteValue.unpack (.iface 69 (.agg #[I n]))).run Tryz.prog w
  = .ok (.agg #[.pointer (some ⟨1,69,none⟩),.pointer (some ⟨w.heap.size,0,none⟩),.int .u64 153]) (w.alloc (.cells #[I n] 69)):=Qk
theorem zmp(w:Wo):(Rtype.elem? 130).run Tryz.prog w=.ok (some 69) w:=Qk
theorem zzc(p:Addr)(w:Wo):(ReflectliteValue.mk 69 p ReflectliteValue.flagAddr).run Tryz.prog w=.ok (.agg #[.pointer (some ⟨1,69,none⟩),.pointer (some p),.int .u64 409]) w:=Qk
theorem zqs (a p:Addr) (W:Wo) (ha:W.cell? a=some (.pointer (some p))) :
  (ReflectliteValue.method (ReflectliteValue.valueError "reflectlite.Value.Elem" 0) ReflectliteValue.elem #[.agg #[.pointer (some ⟨1, 130, none⟩), .pointer (some a), .int .u64 150]]).run Tryz.prog W
   = .ok (.agg #[.pointer (some ⟨1,69,none⟩),.pointer (some p),.int .u64 409]) W:=by
 rw[zte]
 simp only[Sem.run_bind,zf7,Result.andThen]
 simp[ReflectliteValue.elem,loadVar,isAgg,underlying,zf8,ha,Result.andThen,zmp,zzc]
theorem zmq(a:Addr)(w:Wo):(ReflectliteValue.parts (.agg #[.pointer (some ⟨1,69,none⟩),.pointer (some a),.int .u64 409])).run Tryz.prog w=.ok (some (69,a,409)) w:=Qk
theorem zqu(a:Addr)(w:Wo):(ReflectliteValue.parts (.agg #[.pointer (some ⟨1,69,none⟩),.pointer (some a),.int .u64 153])).run Tryz.prog w=.ok (some (69,a,153)) w:=Qk
theorem zmo(w:Wo):(Rtype.directlyAssignable 69 69).run Tryz.prog w=.ok true w:=Qk
theorem zze (v x:Va):ReflectliteValue.set #[v,x]=(do
  let (some (dst,a,fl),some (src,b,_)):=(<-ReflectliteValue.parts v,<-ReflectliteValue.parts x)
   | unsupported (.noEntry "extern/(internal/reflectlite.Value).Set.zeroValue")
  if fl / ReflectliteValue.flagAddr % 2 == 0 then unsupported (.noEntry "extern/(internal/reflectlite.Value).Set.unaddressable")
  let val <-loadVar src b
  if <-Rtype.directlyAssignable dst src then storeVar dst a val
  else if <-Rtype.implements dst src then
   if (<-Rtype.kind src)==20 then
    match val with
    | .nilIface => unsupported (.noEntry "extern/reflectlite: a nil value of one interface type handed on as a value of another")
    | _=>storeVar dst a val
   else storeVar dst a (.iface src val)
  else panicString ("reflectlite.Set: value of type " ++ (← Rtype.spelt src) ++ " is not assignable to type " ++ (← Rtype.spelt dst))
  pure (.tuple #[])):=rfl
theorem zwl(w:Wo):(isAgg 69).run Tryz.prog w=.ok true w:=Qk
theorem zj3(w:Wo):(sizeOf 69).run Tryz.prog w=.ok 1 w:=Qk
theorem ztd(b:Addr)(n:Int)(W:Wo)(hb:W.cell? b=some (I n)):(loadVar 69 b).run Tryz.prog W=.ok (.agg #[I n]) W:=by
 unfold loadVar;simp only[Sem.run_bind,zwl,Result.andThen,if_true];simp only[Sem.run_bind,zj3,Result.andThen];have e:b.add 0=b:=by cases b; rfl
 simp[loadCells,loadCellsFrom,e,hb,Result.andThen]
theorem zwm(ta b:Addr)(n:Int)(old:Va)(W:Wo)(hb:W.cell? b=some (I n))(ht:W.cell? ta=some old)(hf:W.frozen? ta=false) :
  (ReflectliteValue.set #[.agg #[.pointer (some ⟨1,69,none⟩),.pointer (some ta),.int .u64 409],.agg #[.pointer (some ⟨1,69,none⟩),.pointer (some b),.int .u64 153]]).run Tryz.prog W
   = .ok (.tuple #[]) (W.setCell ta (I n)):=by
 rw[zze];simp only[Sem.run_bind,zmq,zqu,Result.andThen];have e:ta.add 0=ta:=by cases ta; rfl
 simp[ReflectliteValue.flagAddr,ztd b n W hb,Result.andThen,zmo,storeVar,zj3,Value.cells,storeCells,e];rw[run_store Tryz.prog W ta _ _ (by rfl)];simp[ht,hf]
set_option maxHeartbeats 4000000 in
theorem zzb (n:Int) (t:Addr) (old:Va) (w:Wo) (hg:w.cell? ⟨0,0,none⟩=some (.iface 174 (.agg #[.pointer (some ⟨1,67,none⟩)]))) (ht0:w.cell? t=some old) (hf0:w.frozen? t=false) :
  Cz 173 #[.iface 69 (.agg #[.int .i64 n]),.iface 130 (.pointer (some t))] w fun ev w'=>ev=.returned (.bool true)/\w'=((((w.alloc (.cells #[.pointer (some t)] 130)).alloc (.cells #[.pointer (some ⟨1,130,none⟩),.pointer (some ⟨w.heap.size,0,none⟩),.int .u64 150] 157)).alloc (.cells #[.pointer (some ⟨1,130,none⟩),.pointer (some ⟨w.heap.size,0,none⟩),.int .u64 150] 157)).alloc (.cells #[.int .i64 n] 69)).setCell t (.int .i64 n):=by
 have h6:=@run_callFunc_extern Tryz.prog 243 _ (fun args=>ReflectliteValue.unpack (args.getD 0 (.tuple #[]))) Tryz.func243 Qk Qk Qk Qk
 have h7 := @run_callFunc_extern Tryz.prog 244 _ (ReflectliteValue.methodAny (ReflectliteValue.valueError "reflectlite.Value.Type" 0) (fun t _ _ _ => ReflectliteType.toType t)) Tryz.func244 (by kernel_rfl) (by kernel_rfl) (by kernel_rfl) (by kernel_rfl)
 have h8 := @run_callFunc_extern Tryz.prog 245 _ (ReflectliteValue.method (ReflectliteValue.valueError "reflectlite.Value.IsNil" 0) ReflectliteValue.isNil) Tryz.func245 (by kernel_rfl) (by kernel_rfl) (by kernel_rfl) (by kernel_rfl)
 have h27:=@run_callFunc_extern Tryz.prog 296 _ (ReflectliteType.abiMethod fun t=>do pure (.int .u8 (<-Rtype.kind t))) Tryz.func296 Qk Qk Qk Qk
 have h37:=@run_callFunc_extern Tryz.prog 314 _ (ReflectliteType.method ReflectliteType.elem) Tryz.func314 Qk Qk Qk Qk
 have h38 := @run_callFunc_extern Tryz.prog 315 _ (ReflectliteType.relation "Implements" ReflectliteType.implements_) Tryz.func315 (by kernel_rfl) (by kernel_rfl) (by kernel_rfl) (by kernel_rfl)
 have h10:=@run_callFunc_extern Tryz.prog 263 _ ReflectliteType.typeOf Tryz.func263 Qk Qk Qk Qk
 have h35 := @run_callFunc_extern Tryz.prog 312 _ (ReflectliteType.relation "AssignableTo" ReflectliteType.assignableTo) Tryz.func312 (by kernel_rfl) (by kernel_rfl) (by kernel_rfl) (by kernel_rfl)
 have h11 := @run_callFunc_extern Tryz.prog 264 _ (ReflectliteValue.method (ReflectliteValue.valueError "reflectlite.Value.Elem" 0) ReflectliteValue.elem) Tryz.func264 (by kernel_rfl) (by kernel_rfl) (by kernel_rfl) (by kernel_rfl)
 have h12:=@run_callFunc_extern Tryz.prog 265 _ ReflectliteValue.set Tryz.func265 Qk Qk Qk Qk
 have tO:=zmr
 have mA:=Ll
 have a25:=zmn
 have v25:=zj4
 have f6:=zj5
 have f7:=ztf
 have mK:=zeh
 have mE:=zeg
 have mI:=Hs
 have k27:=ztc
 have k25:=ztb
 have e27:=zs9
 have i25:=zta
 have n8:=zqt ⟨w.heap.size,0,none⟩ t ((w.alloc (.cells #[.pointer (some t)] 130)).alloc (.cells #[.pointer (some ⟨1,130,none⟩),.pointer (some ⟨w.heap.size,0,none⟩),.int .u64 150] 157)) Qs
 have IS:0<w.heap.size:=by
  rcases Nat.eq_zero_or_pos w.heap.size with h0 | h
  ·simp[World.cell?,h0] at hg
  ·exact h
 have hg2:((w.alloc (.cells #[.pointer (some t)] 130)).alloc (.cells #[.pointer (some ⟨1,130,none⟩),.pointer (some ⟨w.heap.size,0,none⟩),.int .u64 150] 157)).cell? ⟨0,0,none⟩=some (.iface 174 (.agg #[.pointer (some ⟨1,67,none⟩)])):=by
  rw[World.cell?_alloc_lt _ _ ⟨0,0,none⟩ Qs,World.cell?_alloc_lt _ _ ⟨0,0,none⟩ IS]; exact hg
 have iX:t.block<w.heap.size:=by
  rcases Nat.lt_or_ge t.block w.heap.size with h | h
  ·exact h
  ·simp[World.cell?,Array.getElem?_eq_none h] at ht0
 have el:=zqs ⟨w.heap.size,0,none⟩ t (((w.alloc (.cells #[.pointer (some t)] 130)).alloc (.cells #[.pointer (some ⟨1,130,none⟩),.pointer (some ⟨w.heap.size,0,none⟩),.int .u64 150] 157)).alloc (.cells #[.pointer (some ⟨1,130,none⟩),.pointer (some ⟨w.heap.size,0,none⟩),.int .u64 150] 157)) (by rw[World.cell?_alloc_lt _ _ ⟨w.heap.size,0,none⟩ (by simp; omega)]; simp)
 have st:=zwm t ⟨w.heap.size+1+1+1,0,none⟩ n old ((((w.alloc (.cells #[.pointer (some t)] 130)).alloc (.cells #[.pointer (some ⟨1,130,none⟩),.pointer (some ⟨w.heap.size,0,none⟩),.int .u64 150] 157)).alloc (.cells #[.pointer (some ⟨1,130,none⟩),.pointer (some ⟨w.heap.size,0,none⟩),.int .u64 150] 157)).alloc (.cells #[.int .i64 n] 69))
  (by rw[World.cell?_alloc_at _ _ _ _ Qs]; rfl)
  (by rw[World.cell?_alloc_lt _ _ t (by simp; omega),World.cell?_alloc_lt _ _ t (by simp; omega),World.cell?_alloc_lt _ _ t (by simp; omega),World.cell?_alloc_lt _ _ t iX]; exact ht0)
  (by rw[World.frozen?_alloc_old _ _ t (by simp; omega),World.frozen?_alloc_old _ _ t (by simp; omega),World.frozen?_alloc_old _ _ t (by simp; omega),World.frozen?_alloc_old _ _ t (Nat.ne_of_lt iX)]; exact hf0)
 go_enter Tryz.func173,Tryz.ntmps173
 go_wp2
 refine wp_loop_rounds 1 ?_
 rw[rounds_succ]
 go_wp2
 go_ret
 exact⟨rfl,rfl⟩
end
def hB(v:Int):Bool:=decide (v<=Qj)
theorem zix{l:List Int}{o:OA}{c:Nat}{w:Wo}{bs:List Nat}(h:zqo bs w o l)(hl:l.length<=maxLen):PX bs ZJ #[.slice o l.length c] w (.bool (l.all hB)):=
 zjc o l.length c fun wr hx=>by
  have h:=(h.ext hx).less (cs:=[]) Qs;refine Xw l.length 0 rfl (fun k=>k<=l.length/\∀j:Nat,j<k->hB (gi l (j:Int))=true) ⟨Ic _,fun j hj=>Ir hj (Nat.not_lt_zero j)⟩ fun k ⟨hk,hI⟩=>⟨fun IS=>?_,fun Ry=>?_⟩
  ·have IS:=Ot IS;refine⟨h.ix Jm Qo IS,_,h k Qo IS,fun g=>?_,fun g=>⟨ziw IS hl,QB Qo ⟨Qo,fun j hj=>?_⟩⟩⟩
   ·have g:=Ot g
    have:l.all hB=false:=by
     cases hb:l.all hB with
     | false=>rfl
     | true=>
      have:=Ot (Ch.1 hb k Qo);simp only[Qj] at this;omega
    rw[this]
   ·by_cases eH:j<k
    ·exact hI j eH
    ·have:j=k:=Qo;subst this;have g:=Ou g;exact Ih (by simp only[Qj]; omega)
  ·have Ry:=Ou Ry;have hk:k=l.length:=Qo;subst hk;rw[Ch.2 hI]
theorem z2c{a:Int}{w:Wo}{b:Nat}{t:TypeId}{fz:Nat×Nat}(h:w.heap[b]? = some (.cells ([I a]:List Va).toArray t fz)):PX [] ZJ #[.slice (some ⟨b,0,none⟩) 1 1] w (.bool (hB a)):=by
 have:=zix (l:=[a]) (c:=1) (bs:=[]) (Kr h Qs) (by simp[maxLen])
 simpa using this
theorem z2o{a b2:Int}{w:Wo}{b:Nat}{t:TypeId}{fz:Nat×Nat}(h:w.heap[b]? = some (.cells ([I a,I b2]:List Va).toArray t fz)):PX [] ZJ #[.slice (some ⟨b,0,none⟩) 2 2] w (.bool (hB a&&hB b2)):=by
 have:=zix (l:=[a,b2]) (c:=2) (bs:=[]) (Kr h Qs) (by simp[maxLen])
 simpa using this
theorem z2d{a b2 b3:Int}{w:Wo}{b:Nat}{t:TypeId}{fz:Nat×Nat}(h:w.heap[b]? = some (.cells ([I a,I b2,I b3]:List Va).toArray t fz)):PX [] ZJ #[.slice (some ⟨b,0,none⟩) 3 3] w (.bool (hB a&&(hB b2&&hB b3))):=by
 have:=zix (l:=[a,b2,b3]) (c:=3) (bs:=[]) (Kr h Qs) (by simp[maxLen])
 simpa using this
def zyy(W:Q8):Nat->Bool
 | 0=>hB W.now
 | k+1=>zyy W k&&(hB (gi W.ID (k:Int)).busy&&hB (gi W.ID (k:Int)).idle)
def zy2(W:Q8):Nat->Bool
 | 0=>zyy W W.ID.length
 | k+1=>zy2 W k&&(hB (gi W.tasks (k:Int)).v&&(hB (gi W.tasks (k:Int)).sum&&hB (gi W.tasks (k:Int)).used))
def zz7(W:Q8)(g:Int)(b0:Bool):Nat->Bool
 | 0=>b0
 | q+1=>zz7 W g b0 q&&(hB (Qc W g (q:Int)).floor&&(hB (Qc W g (q:Int)).v&&hB (Qc W g (q:Int)).sum))
def zuy(W:Q8):Nat->Bool
 | 0=>zy2 W W.tasks.length
 | k+1=>zz7 W (k:Int) (zuy W k&&hB (gi W.IC (k:Int)).sum) (gi W.IC (k:Int)).IE.length
theorem zt2{v:Int}:hB v=true↔v<=Qj:=decide_eq_true_iff
theorem zyz{W:Q8}:∀k:Nat,zyy W k=true↔W.now<=Qj/\∀j:Nat,j<k->(gi W.ID (j:Int)).busy<=Qj/\(gi W.ID (j:Int)).idle<=Qj
 | 0=>by simp only[zyy,zt2]; exact⟨fun h=>⟨h,fun j hj=>by omega⟩,fun h=>h.1⟩
 | k+1=>by
  simp only[zyy,A',zt2,zyz k];constructor
  ·rintro⟨⟨h1,h2⟩,h3⟩;refine⟨h1,fun j hj=>?_⟩
   by_cases e:j=k
   ·subst e; exact h3
   ·exact h2 j Qo
  ·rintro⟨h1,h2⟩;exact⟨⟨h1,fun j hj=>h2 j Qo⟩,h2 k Qo⟩
theorem zy3{W:Q8}:∀k:Nat,zy2 W k=true↔zyy W W.ID.length=true/\∀j:Nat,j<k->(gi W.tasks (j:Int)).v<=Qj/\(gi W.tasks (j:Int)).sum<=Qj/\(gi W.tasks (j:Int)).used<=Qj
 | 0=>by simp only[zy2]; exact⟨fun h=>⟨h,fun j hj=>by omega⟩,fun h=>h.1⟩
 | k+1=>by
  simp only[zy2,A',zt2,zy3 k];constructor
  ·rintro⟨⟨h1,h2⟩,h3⟩;refine⟨h1,fun j hj=>?_⟩
   by_cases e:j=k
   ·subst e; exact h3
   ·exact h2 j Qo
  ·rintro⟨h1,h2⟩;exact⟨⟨h1,fun j hj=>h2 j Qo⟩,h2 k Qo⟩
theorem zy1{W:Q8}{g:Int}{b0:Bool}:∀k:Nat,zz7 W g b0 k=true↔b0=true/\∀j:Nat,j<k->(Qc W g (j:Int)).floor<=Qj/\(Qc W g (j:Int)).v<=Qj/\(Qc W g (j:Int)).sum<=Qj
 | 0=>by simp only[zz7]; exact⟨fun h=>⟨h,fun j hj=>by omega⟩,fun h=>h.1⟩
 | k+1=>by
  simp only[zz7,A',zt2,zy1 k];constructor
  ·rintro⟨⟨h1,h2⟩,h3⟩;refine⟨h1,fun j hj=>?_⟩
   by_cases e:j=k
   ·subst e; exact h3
   ·exact h2 j Qo
  ·rintro⟨h1,h2⟩;exact⟨⟨h1,fun j hj=>h2 j Qo⟩,h2 k Qo⟩
theorem zy0{W:Q8}:∀k:Nat,zuy W k=true↔zy2 W W.tasks.length=true/\∀j:Nat,j<k->(gi W.IC (j:Int)).sum<=Qj/\∀q:Nat,q<(gi W.IC (j:Int)).IE.length->(Qc W (j:Int) (q:Int)).floor<=Qj/\(Qc W (j:Int) (q:Int)).v<=Qj/\(Qc W (j:Int) (q:Int)).sum<=Qj
 | 0=>by simp only[zuy]; exact⟨fun h=>⟨h,fun j hj=>by omega⟩,fun h=>h.1⟩
 | k+1=>by
  simp only[zuy,zy1,A',zt2,zy0 k];constructor
  ·rintro⟨⟨⟨h1,h2⟩,h3⟩,h4⟩;refine⟨h1,fun j hj=>?_⟩
   by_cases e:j=k
   ·subst e; exact⟨h3,h4⟩
   ·exact h2 j Qo
  ·rintro⟨h1,h2⟩;exact⟨⟨⟨h1,fun j hj=>h2 j Qo⟩,(h2 k Qo).1⟩,(h2 k Qo).2⟩
theorem zx9(W:Q8):zuy W W.IC.length=QQ W:=by
 have key:zuy W W.IC.length=true↔KY W:=by
  rw[zy0,zy3,zyz];constructor
  ·rintro⟨⟨⟨h1,h2⟩,h3⟩,h4⟩;have e:∀{i:Int},0<=i->((i.toNat:Nat):Int)=i:=fun h=>by omega
   refine⟨h1,fun c a b=>?_,fun c a b=>?_,fun c a b=>?_,fun k c a b c0 c1=>?_⟩
   ·have:=h2 c.toNat Qo; rwa[e a] at this
   ·have:=h3 c.toNat Qo; rwa[e a] at this
   ·have:=(h4 c.toNat Qo).1; rwa[e a] at this
   ·have:=(h4 k.toNat Qo).2 c.toNat (by rw[e a]; omega); rwa[e a,e c0] at this
  ·intro r;exact⟨⟨⟨r.n,fun j hj=>r.c (j:Int) Qo Qo⟩,fun j hj=>r.t (j:Int) Qo Qo⟩,fun j hj=>⟨r.g (j:Int) Qo Qo,fun q hq=>r.s (j:Int) (q:Int) Qo Qo Qo Qo⟩⟩
 unfold QQ
 cases hb:JH (KY W) with
 | true=>exact key.2 (Ql.1 hb)
 | false=>
  cases ho:zuy W W.IC.length with
  | false=>rfl
  | true=>exact Ir (key.1 ho) (LX.1 hb)
theorem zhy{a b:Bool}(h:a=true->False):(a&&b)=false:=by
 cases a with
 | false=>rfl
 | true=>exact(h rfl).elim
def zti(I:Bool->Nat->Prop)(vs:List Va):Prop:=∃(x:Bool) (k:Nat),I x k/\vs=[.bool x,.int .i64 (k:Int)]
theorem zph{B:(List Va->Prop)->(List Va->Nat)->Bool->Int->Prop}(n:Nat){xi:Bool}{si:Int}(s:Nat)(hs:si=s)(I:Bool->Nat->Prop)(h0:I xi s)(hB:∀(x:Bool) (k:Nat),I x k->B (zti I) (Xc n 1) x (k:Int)) :
  ∃(IP:List Va->Prop) (mu:List Va->Nat),IP [.bool xi,.int .i64 si]/\∀(x:Bool) (i:Int),IP [.bool x,.int .i64 i]->B IP mu x i:=by
 refine⟨zti I,Xc n 1,⟨xi,s,h0,by rw[hs]⟩,?_⟩;rintro x i ⟨x',k,hI,he⟩;simp only[I4,I5,Value.bool.injEq,true_and,and_true] at he;obtain⟨rfl,rfl⟩:=he;exact hB x k hI
theorem Uc{n k:Nat}{I:Bool->Nat->Prop}{x x':Bool}(hk:k<n)(hI:I x' (k+1)):zti I [.bool x',.int .i64 ((k:Int)+1)]/\Xc n 1 [.bool x',.int .i64 ((k:Int)+1)]<Xc n 1 [.bool x,.int .i64 (k:Int)]:=by
 refine⟨⟨x',k+1,hI,Qs⟩,?_⟩;simp only[Xc,ZR,Ie,List.getElem?_cons_succ];omega
section
variable {W:Q8}{m:MW}{w:Wo}{bs:List Nat}{p:OA}
theorem ziz(h:Mk bs w p W m)(ha:WA W):PX bs Vp #[.pointer p] w (.bool (QQ W)):=by
 rw[<-zx9];refine Fc p fun wr hx=>?_
 have h:=(h.ext hx).less (cs:=[]) Qs;have iX:=ha.t;have bM:=ha.gl;have rJ:=ha.c2;refine⟨h.some,_,h.now,fun b hb=>⟨hB W.now,fun wx _ hc=>z2c hc,h.some,_,_,_,h.ID,?_⟩⟩;refine zph W.ID.length 0 rfl (fun x k=>k<=W.ID.length/\x=zyy W k) ⟨Ic _,rfl⟩ fun x k ⟨hk,S9⟩=>⟨fun IS=>?_,fun Ry=>?_⟩
 ·have IS:=Ot IS;refine⟨h.rd.c.ix ZP Qo IS,_,_,_,_,_,h.rd.c k Qo IS,fun b1 dI=>⟨fun _ b2 bT=>⟨_,fun _ wx _ hc=>z2o hc,⟨Qo,Qo⟩,Uc Qo ⟨Qo,by rw[S9]; rfl⟩⟩,fun hn=>⟨⟨Qo,Qo⟩,Uc Qo ⟨Qo,?_⟩⟩⟩⟩;simp only[zyy]; rw[<-S9,zhy hn]
 have Ry:=Ou Ry;have hkk:k=W.ID.length:=Qo;subst hkk;refine⟨h.some,_,_,_,h.tasks,?_⟩;refine zph W.tasks.length 0 rfl (fun x k=>k<=W.tasks.length/\x=zy2 W k) ⟨Ic _,S9⟩ fun x k ⟨hk,S9⟩=>⟨fun IS=>?_,fun Ry=>?_⟩
 ·have IS:=Ot IS;refine⟨h.rd.t.ix QG Qo IS,_,_,_,_,_,_,_,_,_,h.rd.t k Qo IS,fun b1 dI=>⟨fun _ b2 bT=>⟨_,fun _ wx _ hc=>z2d hc,⟨Qo,Qo⟩,Uc Qo ⟨Qo,by rw[S9]; rfl⟩⟩,fun hn=>⟨⟨Qo,Qo⟩,Uc Qo ⟨Qo,?_⟩⟩⟩⟩;simp only[zy2]; rw[<-S9,zhy hn]
 have Ry:=Ou Ry;have hkk:k=W.tasks.length:=Qo;subst hkk;refine⟨h.some,_,_,_,h.IC,?_⟩;refine zph W.IC.length 0 rfl (fun x k=>k<=W.IC.length/\x=zuy W k) ⟨Ic _,S9⟩ fun x k ⟨hk,S9⟩=>⟨fun IS=>?_,fun Ry=>?_⟩
 ·have IS:=Ot IS;have hsl:(gi W.IC (k:Int)).IE.length<=4:=(LR ha (k:=(k:Int)) Qo Qo).2.2;have hrs:=h.rd.g.IE (k:Int) Qo IS;rw[Ig] at hrs
  have inner:∀{b0:Bool},b0=(zuy W k&&hB (gi W.IC (k:Int)).sum)->∃(IP:List Va->Prop) (mu:List Va->Nat),IP [.bool b0,I 0]/\∀(ok3:Bool) (bN:Int),IP [.bool ok3,I bN]->
    ((decide (bN<(((gi W.IC (k:Int)).IE.length:Nat):Int)))=true->
     Ix (m.ms k).sO (gi W.IC (k:Int)).IE.length bN/\
     (∃(x03:Int) (x15:Bool) (x23:Int) (x33:Int) (x43:Int),
     Q1 [] wr (m.ms k).sO (Int.toNat bN*5) [I x03,.bool x15,I x23,I x33,I x43]/\
     (∀b7,wr.heap.size<=b7->
     (ok3=true->(∀b8,wr.heap.size<=b8->
     (∃(tX:Bool),
     (ok3=true->(∀wx4,Q0 [] wr wx4->wx4.heap[b8]? = some (Obj.cells ([I x03,I x23,I x43]:List Va).toArray Qb (0,0))->PX [] ZJ #[.slice (some (Addr.mk b8 0 none)) 3 3] wx4 (.bool tX)))/\
     Qq .i64 (bN+1)/\
     IP [.bool (ok3&&tX),I (bN+1)]/\mu [.bool (ok3&&tX),I (bN+1)]<mu [.bool ok3,I bN])))/\
     ((ok3=true->False)->
     Qq .i64 (bN+1)/\
     IP [.bool false,I (bN+1)]/\mu [.bool false,I (bN+1)]<mu [.bool ok3,I bN]))))/\
    ((decide (bN<(((gi W.IC (k:Int)).IE.length:Nat):Int)))=false->ok3=zuy W (k+1)):=fun {b0} hb0=>by
   refine zph (gi W.IC (k:Int)).IE.length 0 rfl (fun x q=>q<=(gi W.IC (k:Int)).IE.length/\x=zz7 W (k:Int) (zuy W k&&hB (gi W.IC (k:Int)).sum) q) ⟨Ic _,hb0⟩ fun x q ⟨hq,R0⟩=>⟨fun Rr=>?_,fun aP=>?_⟩
   ·have Rr:=Ot Rr;refine⟨hrs.ix YW Qo Rr,_,_,_,_,_,hrs q Qo Rr,fun b7 hb7=>⟨fun _ b8 hb8=>⟨_,fun _ wx _ hc=>z2d hc,⟨Qo,Qo⟩,Uc Qo ⟨Qo,by rw[R0]; rfl⟩⟩,fun hn=>⟨⟨Qo,Qo⟩,Uc Qo ⟨Qo,?_⟩⟩⟩⟩;simp only[zz7]; rw[<-R0,zhy hn]
   ·have aP:=Ou aP;have:q=(gi W.IC (k:Int)).IE.length:=Qo;rw[R0,this]; rfl
  refine⟨h.rd.g.ix Qo IS,_,_,_,_,_,_,_,_,_,_,_,_,_,_,_,_,_,_,_,_,h.rd.g.cells (k:Int) Qo IS,fun b5 hb5=>⟨fun _ b6 hb6=>⟨hB (gi W.IC (k:Int)).sum,fun _ wx _ hc=>z2c hc,?_⟩,fun hn=>?_⟩⟩
  ·obtain⟨xI,mu,h0,hI⟩:=inner (b0:=x&&hB (gi W.IC (k:Int)).sum) (by rw[S9]);refine⟨xI,mu,h0,fun ok3 bN hi=>⟨(hI ok3 bN hi).1,fun aP=>⟨⟨Qo,Qo⟩,?_⟩⟩⟩;have e:=(hI ok3 bN hi).2 aP;exact Uc Qo ⟨Qo,e⟩
  ·obtain⟨xI,mu,h0,hI⟩:=inner (b0:=false) (by rw[<-S9,zhy hn]);refine⟨xI,mu,h0,fun ok3 bN hi=>⟨(hI ok3 bN hi).1,fun aP=>⟨⟨Qo,Qo⟩,?_⟩⟩⟩;have e:=(hI ok3 bN hi).2 aP;exact Uc Qo ⟨Qo,e⟩
 ·have Ry:=Ou Ry;have hkk:k=W.IC.length:=Qo;subst hkk;rw[S9]
end
def PA(w:Wo):Prop:=w.cell? ⟨0,0,none⟩=some (.iface 174 (.agg #[.pointer (some ⟨1,67,none⟩)]))
theorem PA.ext{w w':Wo}(h:PA w)(hx:Q0 [] w w'):PA w':=by
 have IS:0<w.heap.size:=by
  rcases Nat.eq_zero_or_pos w.heap.size with h0 | h1
  ·unfold PA at h; simp[World.cell?,h0] at h
  ·exact h1
 have hb:=hx.block 0 IS Qs;unfold PA at h ⊢;unfold World.cell? at h ⊢
 dsimp only at h ⊢
 rw[hb];exact h
theorem zxf(t:Va)(w:Wo):Cz KH #[.nilIface,t] w fun e w'=>e=.returned (.bool false)/\Q0 [] w w':=(zzd t w).mono fun e w' ⟨he,hw⟩=>⟨he,by rw[hw]; exact Q0.refl _ _⟩
theorem zue{n:Int}{t:Nat}{old:Int}{w:Wo}{ty:TypeId}(hg:PA w)(ht:w.heap[t]? = some (.cells ([I old]:List Va).toArray ty (0,0))) :
  Cz KH #[.iface QY (.agg #[I n]),.iface XP (.pointer (some ⟨t,0,none⟩))] w fun e w'=>e=.returned (.bool true)/\w'.heap[t]? = some (.cells ([I n]:List Va).toArray ty (0,0))/\Q0 [t] w w':=by
 refine(zzb n ⟨t,0,none⟩ (I old) w hg (by rw[UP ht]; rfl) (by simp[World.frozen?,ht])).mono fun e w' ⟨he,hw⟩=>⟨he,?_⟩
 subst hw;have hx:=(((((Q0.refl [] w).alloc (.cells #[.pointer (some ⟨t,0,none⟩)] XP)).alloc (.cells #[.pointer (some ⟨1,XP,none⟩),.pointer (some ⟨w.heap.size,0,none⟩),.int .u64 150] Ji)).alloc (.cells #[.pointer (some ⟨1,XP,none⟩),.pointer (some ⟨w.heap.size,0,none⟩),.int .u64 150] Ji)).alloc (.cells #[I n] QY));have hb:=QM ht hx Qs;refine⟨?_,?_⟩
 ·have:=Ol (k:=0) (n:=0) (vs:=[I n]) hb;exact this
 ·exact hx.of_nil.setCell (p:=⟨t,0,none⟩) (.inr Qs) _
structure LK (base pb:Nat) (ex:List Nat) (w:Wo) (m:MW) (w':Wo) (W':Q8) (m':MW):Prop where
 own:Zf 8 base w' W' m'
 pt:w'.heap[pb]? = some (.cells (Qa W' m').toArray Q5 (0,0))
 ext:Q0 (ex++(pb::QR 8 m)) w w'
 sub:∀x∈QR 8 m',x∈QR 8 m\/w.heap.size<=x
theorem Mp.done{base pb:Nat}{ex:List Nat}{w w':Wo}{W':Q8}{m m':MW}(h:Mp base pb [] w m w' W' m'):LK base pb ex w m w' W' m':=
 ⟨h.v.own,h.pt,h.v.ext.mono fun x hx=>Iw _ (I1 _ hx),h.v.sub⟩
def z0t(ex:List Nat)(r:Q8×Int)(w:Wo)(v:Va)(w':Wo):Prop:=∃n m',v=.tuple #[.agg (Qa r.1 m').toArray,I r.2]/\Zf n w.heap.size w' r.1 m'/\Q0 ex w w'
section
variable {W W':Q8}{m:MW}{w:Wo}{bar:Int}
theorem zne{cf:Fn}{ca ck:Array Va}(ex:List Nat)(P:Wo->Prop)(hP:∀(a b:Wo) (bs:List Nat),P a->Q0 bs a b->(∀x∈bs,w.heap.size<=x)->P b)(hex:∀x∈ex,x<w.heap.size)(hz:0∉ex)(h:XQ [] w W m)(hr:∀x∈ex,∀w1,Q0 ex w w1->XQ [] w1 W m)(hl:UN W)(hg:PA w)(Rg:∀(w1:Wo) (pb:Nat) (m1:MW),Qx W=true->Q0 [] w w1->w.heap.size<=pb->PW w.heap.size pb w1 W m1->
   Ov Tryz.prog (.func cf ca ck) [.pointer (pA pb)] w1 fun e w2=>(bar≠0/\e=.returned (.iface QY (.agg #[I bar]))/\Q0 [] w1 w2)\/(bar=0/\e=.returned .nilIface/\P w2/\∃m2,LK w.heap.size pb ex w1 m1 w2 W' m2)) :
  Cz V3 #[.agg (Qa W m).toArray,.func cf ca ck] w fun e w'=>∃v,e=.returned v/\z0t ex (Yp W bar W') w v w'/\(Qx W=true->bar=0->P w')/\(Qx W=false\/bar≠0->Q0 [] w w'):=by
 refine zaj _ _ _ _ _ _ _ _ _ _ cf ca ck (R:=fun v w'=>z0t ex (Yp W bar W') w v w'/\(Qx W=true->bar=0->P w')/\(Qx W=false\/bar≠0->Q0 [] w w')) ?_;intro x hx x1 S9;refine⟨_,Gg h hl.c hl.g hl.f,fun g wr R0=>?_,fun g I' R0 cX=>?_⟩
 ·have hW:Qx W=false:=by simpa using g
  refine⟨?_,fun hw=>(by rw[hW] at hw; cases hw),fun _=>R0⟩;rw[zot hW];exact⟨0,zwb,rfl,Zf.zero _ _,R0.of_nil⟩
 have hW:Qx W=true:=by simpa using g
 have wp:=Ql.1 hW;have s1:Sc w [x,x1] I':=(((Sc.start w).add hx).add S9).M' R0;refine I3 (Nj (h.ext R0) wp.a) ?_;rintro e wv ⟨m1,he,hM1,bE⟩;have s2:=s1.M' bE;have mD:=(OW.of hM1 cX).mono R0.size;refine⟨_,_,_,_,_,_,_,_,_,_,he,Qe bE cX,fun b2 wb hxb bT hcb hn2=>?_⟩;have s3:=s2.step hxb;have hO3:=mD.step hxb;have Ce4:w.heap.size<=b2:=IA s2.ext.size bT
 have fG:b2∉QR 8 m1:=fun hm=>by
  have:=(mD.own.lt b2 hm).2;omega
 refine⟨MH (k0:=0) hcb hn2 Qs,fun b3 wb1 B47 hb3 Cf9 hn3=>?_⟩;have kW:=Ol (k:=0) (n:=0) (vs:=Qa W m1) hcb;have B43:Q0 [b2] wb (Rl wb (some ⟨b2,0,none⟩) 0 (Qa W m1)):=JV fun a ha=>by cases ha; simp
 have hO4 := (hO3.call B43 fun y hy hm => fG (by have:y=b2:=by simpa using hm
                                                 exact this▸hy)).step B47
 have s4 := (s3.call B43 fun y hy => by have:y=b2:=by simpa using hy
                                        omega).step B47
 have Ck1:wb1.heap[b2]? = some (.cells (Qa W m1).toArray Q5 (0,0)):=QM kW B47 hn2
 have C80:b2≠b3:=fun e=>by
  have:=JF kW;have Ce5:(Rl wb (some ⟨b2,0,none⟩) 0 (Qa W m1)).heap.size<=b3:=hb3;omega
 have C81:w.heap.size<=b3:=by
  have h1:=B43.size;have h2:=s3.ext.size;have Ce5:(Rl wb (some ⟨b2,0,none⟩) 0 (Qa W m1)).heap.size<=b3:=hb3;omega
 intro J' SD SS;have hO5:=hO4.step SD;have s5:=s4.step SD;have Ck2:=QM Ck1 SD hn2;have hc5:=QM Cf9 SD hn3;refine Ov.mono (Rg J' b2 m1 hW s5.ext Ce4 ⟨hO5.own,Ck2,fG⟩) ?_;rintro e1 R1 (⟨hb0,fJ,hy⟩ | ⟨hb0,fJ,hPw,m2,hD⟩)
 ·
  refine⟨_,fJ,Qe hy SS,fun Rp Sg dQ=>?_⟩;have s6:=(s5.M' hy).step Sg;have hc6:=QM (QM hc5 hy Qs) Sg hn3;refine I3 (zue (hg.ext s6.ext) hc6) ?_;rintro e2 Rx ⟨aE,hc7,Sn⟩
  have s7 := s6.call Sn fun y hy => by have:y=b3:=by simpa using hy
                                       omega
  have Wr:∀{w9:Wo},Q0 [x,x1] Rx w9->Q1 [x,x1] w9 (some ⟨b3,0,none⟩) (0+0) [I bar]:=fun h9=>VF (QM hc7 h9 hn3) hn3 (k0:=0) rfl
  refine ⟨true, aE, Gp Sn dQ (fun y hm fE => by have:y=b3:=by simpa using hm
                                                exact hn3 (this▸fE)),fun _=>⟨bar,Wr (Q0.refl _ _),fun Rt aO cJ=>?_⟩,fun g=>by cases g⟩
  have s8:=s7.step aO;refine I3 (Nj (h.ext s8.ext) wp.a) ?_;rintro e3 S6 ⟨m3,iU,dZ,fK⟩;have s9:=s8.M' fK;have hO9:=(OW.of dZ cJ).mono s8.ext.size;have hc9:Q1 [x,x1] S6 (some ⟨b3,0,none⟩) (0+0) [I bar]:=VF (QM (QM hc7 aO hn3) fK Qs) hn3 (k0:=0) rfl;refine⟨_,_,_,_,_,_,_,_,_,_,iU,Qe fK cJ,hc9,hc9,fun RH jH=>⟨?_,fun _ hb=>Ir hb hb0,fun _=>(s9.step jH).ext⟩⟩;rw[Ci hW hb0];exact⟨8,m3,rfl,(hO9.step jH).own,(s9.step jH).ext.of_nil⟩
 ·
  have Cj6:∀y∈ex++(b2::QR 8 m1),y∉[x,x1]:=fun y hy hm=>by
   rcases Im.1 hy with h1 | h1
   ·have:=hex y h1;have:=s1.new y hm;omega
   ·rcases Ii.1 h1 with h1 | h1
    ·subst h1; exact hn2 hm
    ·exact hO5.nb y h1 hm
  refine⟨_,fJ,Gp hD.ext SS Cj6,fun Rp Sg dQ=>?_⟩;refine I3 (zxf _ _) ?_;rintro e2 Rx ⟨aE,Sn⟩
  have CI7:∀y∈QR 8 m2,y∉[x,x1]:=fun y hy hm=>by
   rcases hD.sub y hy with h1 | h1
   ·exact hO5.nb y h1 hm
   ·have:=SS y hm;omega
  have tY:=((hD.own.ext Sg CI7).Wi Sn);have Ck3:=QM (QM hD.pt Sg hn2) Sn Qs
  have hX2:Q0 ex w R1:=s5.ext.of_nil.fresh hD.ext fun y hy=>by
   rcases Im.1 hy with h1 | h1
   ·exact .inr h1
   ·refine .inl ?_;rcases Ii.1 h1 with h1 | h1
    ·omega
    ·exact(hO5.own.lt y h1).1
  have hX3:Q0 ex w Rx:=(hX2.fresh Sg fun y hy=>.inl (s1.new y hy)).trans Sn.of_nil;refine⟨false,aE,Qe Sn dQ,fun g=>(by cases g),fun _=>⟨_,_,_,_,_,_,_,_,_,_,PC Ck3 hn2 (k0:=0) (n:=0) fun j v hj=>by simpa[Qa] using hj,fun Sf aO=>⟨?_,fun _ _=>?_,fun hn=>?_⟩⟩⟩
  ·rw[zhz hW hb0];exact⟨8,m2,rfl,tY.ext aO CI7,hX3.fresh aO fun y hy=>.inl (s1.new y hy)⟩
  ·exact hP _ _ _ (hP _ _ _ (hP _ _ _ hPw Sg s1.new) Sn Qs) aO s1.new
  ·rcases hn with h1 | h1
   ·rw[hW] at h1; cases h1
   ·exact Ir hb0 h1
theorem zrj{cf:Fn}{ca ck:Array Va}(h:XQ [] w W m)(hl:UN W)(hg:PA w)(Rg:∀(w1:Wo) (pb:Nat) (m1:MW),Qx W=true->Q0 [] w w1->w.heap.size<=pb->PW w.heap.size pb w1 W m1->
   Ov Tryz.prog (.func cf ca ck) [.pointer (pA pb)] w1 fun e w2=>(bar≠0/\e=.returned (.iface QY (.agg #[I bar]))/\Q0 [] w1 w2)\/(bar=0/\e=.returned .nilIface/\∃m2,LK w.heap.size pb [] w1 m1 w2 W' m2)) :
  Cz V3 #[.agg (Qa W m).toArray,.func cf ca ck] w fun e w'=>∃v,e=.returned v/\QL (Yp W bar W') w v w':=
 (zne [] (fun _=>True) (fun _ _ _ _ _ _=>trivial) Qs Qs h Qs hl hg fun w1 pb m1 a b c d=>(Rg w1 pb m1 a b c d).mono fun e w2 hh=>by
  rcases hh with h1 | ⟨h1,h2,h3⟩
  ·exact .inl h1
  ·exact .inr ⟨h1,h2,trivial,h3⟩).mono fun e w' ⟨v,he,hA,_⟩=>⟨v,he,hA⟩
end
end Go.Proofs.YtnclplgaicdapaaGreatDoor
