/- Part 13 of what the law FnStay needs: the engine, the functions' propositions, the contracts. -/
import Derived.Test.YtclpmgfpjeaibaaGreatDoorFnStayPl
import Derived.LaidEql
import Derived.Stop.Asserts
import Derived.RowKitTokens
namespace Go.Proofs.YtclpmgfpjeaibaaGreatDoor
open Go.RowKit Go.Extern.Stop Go.Stop Go.Extern
set_option linter.unusedVariables false
set_option linter.unusedSimpArgs false
set_option maxRecDepth 100000
theorem zajh (t:Value) (w:World) :
  Calls Tryz.prog 113 #[.nilIface,t] w fun e w'=>e = .returned (.bool false)/\w'=w:=by
 go_enter Tryz.func113,Tryz.ntmps113
 go_wp2
 go_ret
 exact ⟨rfl,rfl⟩
theorem z7e (t:Addr) (w:World):(ReflectliteValue.unpack (.iface 124 (.pointer (some t)))).run Tryz.prog w
  = .ok (.agg #[.pointer (some ⟨1,124,none⟩),.pointer (some ⟨w.heap.size,0,none⟩),.int .u64 150]) (w.alloc (.cells #[.pointer (some t)] 124)):=by kernel_rfl
theorem zaex (a : Addr) (w : World) : (ReflectliteValue.methodAny (ReflectliteValue.valueError "reflectlite.Value.Type" 0) (fun t _ _ _ => ReflectliteType.toType t) #[.agg #[.pointer (some ⟨1, 124, none⟩), .pointer (some a), .int .u64 150]]).run Tryz.prog w
  = .ok (.iface 160 (.agg #[.pointer (some ⟨1,124,none⟩)])) w:=by kernel_rfl
theorem z2t (h : Value) (w : World) : (Go.method 305 160 (.agg #[h]) "Kind").run Tryz.prog w = .ok (177, h) w := by kernel_rfl
theorem zaev (w:World):((ReflectliteType.abiMethod fun t=>(fun a:Nat=>Value.int IntKind.u8 (a:Int)) <$> Rtype.kind t) #[.pointer (some ⟨1,124,none⟩)]).run Tryz.prog w = .ok (.int .u8 22) w:=by kernel_rfl
theorem zaeu (w:World):((ReflectliteType.abiMethod fun t=>(fun a:Nat=>Value.int IntKind.u8 (a:Int)) <$> Rtype.kind t) #[.pointer (some ⟨1,105,none⟩)]).run Tryz.prog w = .ok (.int .u8 25) w:=by kernel_rfl
theorem zagr (z:Sem Value) (f:TypeId->Addr->Nat->Nat->Sem Value) (v:Value) :
  ReflectliteValue.method z f #[v]=(do match <-ReflectliteValue.parts v with | none=>z | some (t,a,fl)=>f t a fl (fl % 32)):=rfl
theorem z49 (a:Addr) (w:World):(ReflectliteValue.parts (.agg #[.pointer (some ⟨1,124,none⟩),.pointer (some a),.int .u64 150])).run Tryz.prog w = .ok (some (124,a,150)) w:=by kernel_rfl
theorem z5a:Tryz.prog.underlying 124=some (.pointer 105):=by kernel_rfl
theorem zaba (a p:Addr) (W:World) (ha:W.cell? a=some (.pointer (some p))) :
  (ReflectliteValue.method (ReflectliteValue.valueError "reflectlite.Value.IsNil" 0) ReflectliteValue.isNil #[.agg #[.pointer (some ⟨1, 124, none⟩), .pointer (some a), .int .u64 150]]).run Tryz.prog W = .ok (.bool false) W := by
 rw [zagr]
 simp only [Sem.run_bind,z49,Result.andThen]
 simp [ReflectliteValue.isNil,loadVar,isAgg,underlying,z5a,ha,Result.andThen]
theorem z2s (h : Value) (w : World) : (Go.method 305 160 (.agg #[h]) "Elem").run Tryz.prog w = .ok (195, .agg #[h]) w := by kernel_rfl
theorem zpj (h : Value) (w : World) : (Go.method 305 160 (.agg #[h]) "Implements").run Tryz.prog w = .ok (196, .agg #[h]) w := by kernel_rfl
theorem zmw (h : Value) (w : World) : (Go.method 305 160 (.agg #[h]) "AssignableTo").run Tryz.prog w = .ok (193, .agg #[h]) w := by kernel_rfl
theorem zaes (w:World):(ReflectliteType.method ReflectliteType.elem #[.agg #[.pointer (some ⟨1,124,none⟩)]]).run Tryz.prog w = .ok (.iface 160 (.agg #[.pointer (some ⟨1,105,none⟩)])) w:=by kernel_rfl
theorem zaet (w : World) : (ReflectliteType.relation "Implements" ReflectliteType.implements_ #[.agg #[.pointer (some ⟨1, 105, none⟩)], .iface 160 (.agg #[.pointer (some ⟨1, 103, none⟩)])]).run Tryz.prog w = .ok (.bool true) w := by kernel_rfl
theorem z95 (v:Value) (w:World):(ReflectliteType.typeOf #[.iface 105 v]).run Tryz.prog w = .ok (.iface 160 (.agg #[.pointer (some ⟨1,105,none⟩)])) w:=by kernel_rfl
theorem z91 (w : World) : (ReflectliteType.relation "AssignableTo" ReflectliteType.assignableTo #[.agg #[.pointer (some ⟨1, 105, none⟩)], .iface 160 (.agg #[.pointer (some ⟨1, 105, none⟩)])]).run Tryz.prog w = .ok (.bool true) w := by kernel_rfl
theorem z7d (n:Int) (w:World):(ReflectliteValue.unpack (.iface 105 (.agg #[.int .i64 n]))).run Tryz.prog w
  = .ok (.agg #[.pointer (some ⟨1,105,none⟩),.pointer (some ⟨w.heap.size,0,none⟩),.int .u64 153]) (w.alloc (.cells #[.int .i64 n] 105)):=by kernel_rfl
theorem z93 (w:World):(Rtype.elem? 124).run Tryz.prog w = .ok (some 105) w:=by kernel_rfl
theorem zajg (p:Addr) (w:World):(ReflectliteValue.mk 105 p ReflectliteValue.flagAddr).run Tryz.prog w = .ok (.agg #[.pointer (some ⟨1,105,none⟩),.pointer (some p),.int .u64 409]) w:=by kernel_rfl
theorem zaa9 (a p:Addr) (W:World) (ha:W.cell? a=some (.pointer (some p))) :
  (ReflectliteValue.method (ReflectliteValue.valueError "reflectlite.Value.Elem" 0) ReflectliteValue.elem #[.agg #[.pointer (some ⟨1, 124, none⟩), .pointer (some a), .int .u64 150]]).run Tryz.prog W
   = .ok (.agg #[.pointer (some ⟨1,105,none⟩),.pointer (some p),.int .u64 409]) W:=by
 rw [zagr]
 simp only [Sem.run_bind,z49,Result.andThen]
 simp [ReflectliteValue.elem,loadVar,isAgg,underlying,z5a,ha,Result.andThen,z93,zajg]
theorem z94 (a:Addr) (w:World):(ReflectliteValue.parts (.agg #[.pointer (some ⟨1,105,none⟩),.pointer (some a),.int .u64 409])).run Tryz.prog w = .ok (some (105,a,409)) w:=by kernel_rfl
theorem zabb (a:Addr) (w:World):(ReflectliteValue.parts (.agg #[.pointer (some ⟨1,105,none⟩),.pointer (some a),.int .u64 153])).run Tryz.prog w = .ok (some (105,a,153)) w:=by kernel_rfl
theorem z92 (w:World):(Rtype.directlyAssignable 105 105).run Tryz.prog w = .ok true w:=by kernel_rfl
theorem zaji (v x:Value):ReflectliteValue.set #[v,x]=(do
  let (some (dst,a,fl),some (src,b,_)):=(<-ReflectliteValue.parts v,<-ReflectliteValue.parts x)
   | unsupported (.noEntry "extern/(internal/reflectlite.Value).Set.zeroValue")
  if fl / ReflectliteValue.flagAddr % 2 == 0 then unsupported (.noEntry "extern/(internal/reflectlite.Value).Set.unaddressable")
  let val <-loadVar src b
  if <-Rtype.directlyAssignable dst src then storeVar dst a val
  else if <-Rtype.implements dst src then
   if (<-Rtype.kind src)==20 then
    match val with
    | .nilIface => unsupported (.noEntry "extern/reflectlite: a nil value of one interface type handed on as a value of another")
    | _=>storeVar dst a val
   else storeVar dst a (.iface src val)
  else panicString ("reflectlite.Set: value of type " ++ (← Rtype.spelt src) ++ " is not assignable to type " ++ (← Rtype.spelt dst))
  pure (.tuple #[])):=rfl
theorem zahf (w:World):(isAgg 105).run Tryz.prog w = .ok true w:=by kernel_rfl
theorem z8n (w:World):(sizeOf 105).run Tryz.prog w = .ok 1 w:=by kernel_rfl
theorem zaew (b:Addr) (n:Int) (W:World) (hb:W.cell? b=some (.int .i64 n)):(loadVar 105 b).run Tryz.prog W = .ok (.agg #[.int .i64 n]) W:=by
 unfold loadVar
 simp only [Sem.run_bind,zahf,Result.andThen,if_true]
 simp only [Sem.run_bind,z8n,Result.andThen]
 have e:b.add 0=b:=by cases b; rfl
 simp [loadCells,loadCellsFrom,e,hb,Result.andThen]
theorem zahg (ta b:Addr) (n:Int) (old:Value) (W:World) (hb:W.cell? b=some (.int .i64 n)) (ht:W.cell? ta=some old) (hf:W.frozen? ta=false) :
  (ReflectliteValue.set #[.agg #[.pointer (some ⟨1,105,none⟩),.pointer (some ta),.int .u64 409],.agg #[.pointer (some ⟨1,105,none⟩),.pointer (some b),.int .u64 153]]).run Tryz.prog W
   = .ok (.tuple #[]) (W.setCell ta (.int .i64 n)):=by
 rw [zaji]
 simp only [Sem.run_bind,z94,zabb,Result.andThen]
 have e:ta.add 0=ta:=by cases ta; rfl
 simp [ReflectliteValue.flagAddr,zaew b n W hb,Result.andThen,z92,storeVar,z8n,Value.cells,storeCells,e]
 rw [run_store Tryz.prog W ta _ _ (by rfl)]
 simp [ht,hf]
set_option maxHeartbeats 4000000 in
theorem zajf (n:Int) (t:Addr) (old:Value) (w:World) (hg:w.cell? ⟨0,0,none⟩=some (.iface 160 (.agg #[.pointer (some ⟨1,103,none⟩)]))) (ht0:w.cell? t=some old) (hf0:w.frozen? t=false) :
  Calls Tryz.prog 113 #[.iface 105 (.agg #[.int .i64 n]),.iface 124 (.pointer (some t))] w fun ev w'=>ev = .returned (.bool true)/\w'=((((w.alloc (.cells #[.pointer (some t)] 124)).alloc (.cells #[.pointer (some ⟨1,124,none⟩),.pointer (some ⟨w.heap.size,0,none⟩),.int .u64 150] 138)).alloc (.cells #[.pointer (some ⟨1,124,none⟩),.pointer (some ⟨w.heap.size,0,none⟩),.int .u64 150] 138)).alloc (.cells #[.int .i64 n] 105)).setCell t (.int .i64 n):=by
 have h6 := @run_callFunc_extern Tryz.prog 140 _ (fun args=>ReflectliteValue.unpack (args.getD 0 (.tuple #[]))) Tryz.func140 (by kernel_rfl) (by kernel_rfl) (by kernel_rfl) (by kernel_rfl)
 have h7 := @run_callFunc_extern Tryz.prog 141 _ (ReflectliteValue.methodAny (ReflectliteValue.valueError "reflectlite.Value.Type" 0) (fun t _ _ _ => ReflectliteType.toType t)) Tryz.func141 (by kernel_rfl) (by kernel_rfl) (by kernel_rfl) (by kernel_rfl)
 have h8 := @run_callFunc_extern Tryz.prog 142 _ (ReflectliteValue.method (ReflectliteValue.valueError "reflectlite.Value.IsNil" 0) ReflectliteValue.isNil) Tryz.func142 (by kernel_rfl) (by kernel_rfl) (by kernel_rfl) (by kernel_rfl)
 have h27 := @run_callFunc_extern Tryz.prog 177 _ (ReflectliteType.abiMethod fun t=>do pure (.int .u8 (<-Rtype.kind t))) Tryz.func177 (by kernel_rfl) (by kernel_rfl) (by kernel_rfl) (by kernel_rfl)
 have h37 := @run_callFunc_extern Tryz.prog 195 _ (ReflectliteType.method ReflectliteType.elem) Tryz.func195 (by kernel_rfl) (by kernel_rfl) (by kernel_rfl) (by kernel_rfl)
 have h38 := @run_callFunc_extern Tryz.prog 196 _ (ReflectliteType.relation "Implements" ReflectliteType.implements_) Tryz.func196 (by kernel_rfl) (by kernel_rfl) (by kernel_rfl) (by kernel_rfl)
 have h10 := @run_callFunc_extern Tryz.prog 153 _ ReflectliteType.typeOf Tryz.func153 (by kernel_rfl) (by kernel_rfl) (by kernel_rfl) (by kernel_rfl)
 have h35 := @run_callFunc_extern Tryz.prog 193 _ (ReflectliteType.relation "AssignableTo" ReflectliteType.assignableTo) Tryz.func193 (by kernel_rfl) (by kernel_rfl) (by kernel_rfl) (by kernel_rfl)
 have h11 := @run_callFunc_extern Tryz.prog 154 _ (ReflectliteValue.method (ReflectliteValue.valueError "reflectlite.Value.Elem" 0) ReflectliteValue.elem) Tryz.func154 (by kernel_rfl) (by kernel_rfl) (by kernel_rfl) (by kernel_rfl)
 have h12 := @run_callFunc_extern Tryz.prog 155 _ ReflectliteValue.set Tryz.func155 (by kernel_rfl) (by kernel_rfl) (by kernel_rfl) (by kernel_rfl)
 have tO:=z95
 have mA:=zmw
 have a25:=z91
 have v25:=z7d
 have f6:=z7e
 have f7:=zaex
 have mK:=z2t
 have mE:=z2s
 have mI:=zpj
 have k27:=zaev
 have k25:=zaeu
 have e27:=zaes
 have i25:=zaet
 have n8:=zaba ⟨w.heap.size,0,none⟩ t ((w.alloc (.cells #[.pointer (some t)] 124)).alloc (.cells #[.pointer (some ⟨1,124,none⟩),.pointer (some ⟨w.heap.size,0,none⟩),.int .u64 150] 138)) (by simp)
 have hlt:0<w.heap.size:=by
  rcases Nat.eq_zero_or_pos w.heap.size with h0 | h
  ·simp [World.cell?,h0] at hg
  ·exact h
 have hg2:((w.alloc (.cells #[.pointer (some t)] 124)).alloc (.cells #[.pointer (some ⟨1,124,none⟩),.pointer (some ⟨w.heap.size,0,none⟩),.int .u64 150] 138)).cell? ⟨0,0,none⟩=some (.iface 160 (.agg #[.pointer (some ⟨1,103,none⟩)])):=by
  rw [World.cell?_alloc_lt _ _ ⟨0,0,none⟩ (by simp),World.cell?_alloc_lt _ _ ⟨0,0,none⟩ hlt]; exact hg
 have htl:t.block<w.heap.size:=by
  rcases Nat.lt_or_ge t.block w.heap.size with h | h
  ·exact h
  ·simp [World.cell?,Array.getElem?_eq_none h] at ht0
 have el:=zaa9 ⟨w.heap.size,0,none⟩ t (((w.alloc (.cells #[.pointer (some t)] 124)).alloc (.cells #[.pointer (some ⟨1,124,none⟩),.pointer (some ⟨w.heap.size,0,none⟩),.int .u64 150] 138)).alloc (.cells #[.pointer (some ⟨1,124,none⟩),.pointer (some ⟨w.heap.size,0,none⟩),.int .u64 150] 138)) (by rw [World.cell?_alloc_lt _ _ ⟨w.heap.size,0,none⟩ (by simp; omega)]; simp)
 have st:=zahg t ⟨w.heap.size+1+1+1,0,none⟩ n old ((((w.alloc (.cells #[.pointer (some t)] 124)).alloc (.cells #[.pointer (some ⟨1,124,none⟩),.pointer (some ⟨w.heap.size,0,none⟩),.int .u64 150] 138)).alloc (.cells #[.pointer (some ⟨1,124,none⟩),.pointer (some ⟨w.heap.size,0,none⟩),.int .u64 150] 138)).alloc (.cells #[.int .i64 n] 105))
  (by rw [World.cell?_alloc_at _ _ _ _ (by simp)]; rfl)
  (by rw [World.cell?_alloc_lt _ _ t (by simp; omega),World.cell?_alloc_lt _ _ t (by simp; omega),World.cell?_alloc_lt _ _ t (by simp; omega),World.cell?_alloc_lt _ _ t htl]; exact ht0)
  (by rw [World.frozen?_alloc_old _ _ t (by simp; omega),World.frozen?_alloc_old _ _ t (by simp; omega),World.frozen?_alloc_old _ _ t (by simp; omega),World.frozen?_alloc_old _ _ t (Nat.ne_of_lt htl)]; exact hf0)
 go_enter Tryz.func113,Tryz.ntmps113
 go_wp2
 refine wp_loop_rounds 1 ?_
 rw [rounds_succ]
 go_wp2
 go_ret
 exact ⟨rfl,rfl⟩
end Go.Proofs.YtclpmgfpjeaibaaGreatDoor
namespace Go.Proofs.YtclpmgfpjeaibaaGreatDoor
open Go.RowKit
set_option linter.unusedVariables false
set_option linter.unusedSimpArgs false
set_option maxRecDepth 10000
def hB (v:Int):Bool:=decide (v<=zbr)
theorem z7y {l:List Int} {o:Option Addr} {c:Nat} {w:World} {bs:List Nat} (h:RdI bs w o l) (hl:l.length<=maxLen):zad bs Tryz.prog zb7 #[.slice o l.length c] w (.bool (l.all hB)):=
 z6i o l.length c fun wr hx=>by
  have h:=(h.ext hx).less (cs:=[]) (by simp)
  refine zgs l.length 0 rfl (fun k=>k<=l.length/\∀j:Nat,j<k->hB (gi l (j:Int))=true) ⟨Nat.zero_le _,fun j hj=>absurd hj (Nat.not_lt_zero j)⟩ fun k ⟨hk,hI⟩=>⟨fun hlt => ?_,fun hge => ?_⟩
  ·have hlt:=of_decide_eq_true hlt
   refine ⟨h.ix zf2 (by omega) hlt,_,h k (by omega) hlt,fun g => ?_,fun g=>⟨z7w hlt hl,zar (by omega) ⟨by omega,fun j hj => ?_⟩⟩⟩
   ·have g:=of_decide_eq_true g
    have:l.all hB=false:=by
     cases hb:l.all hB with
     | false=>rfl
     | true=>
      have:=of_decide_eq_true (z2q.1 hb k (by omega))
      simp only [zbr] at this
      omega
    rw [this]
   ·by_cases hjk:j<k
    ·exact hI j hjk
    ·have:j=k:=by omega
     subst this
     have g:=of_decide_eq_false g
     exact decide_eq_true (by simp only [zbr]; omega)
  ·have hge:=of_decide_eq_false hge
   have hk:k=l.length:=by omega
   subst hk
   rw [z2q.2 hI]
theorem er1 {a:Int} {w:World} {b:Nat} {t:TypeId} {fz:Nat×Nat} (h:w.heap[b]? = some (.cells ([.int .i64 a]:List Value).toArray t fz)):zad [] Tryz.prog zb7 #[.slice (some ⟨b,0,none⟩) 1 1] w (.bool (hB a)):=by
 have:=z7y (l:=[a]) (c:=1) (bs:=[]) (zod h (by simp)) (by simp [maxLen])
 simpa using this
theorem er2 {a b2:Int} {w:World} {b:Nat} {t:TypeId} {fz:Nat×Nat} (h:w.heap[b]? = some (.cells ([.int .i64 a,.int .i64 b2]:List Value).toArray t fz)):zad [] Tryz.prog zb7 #[.slice (some ⟨b,0,none⟩) 2 2] w (.bool (hB a&&hB b2)):=by
 have:=z7y (l:=[a,b2]) (c:=2) (bs:=[]) (zod h (by simp)) (by simp [maxLen])
 simpa using this
theorem er3 {a b2 b3:Int} {w:World} {b:Nat} {t:TypeId} {fz:Nat×Nat} (h:w.heap[b]? = some (.cells ([.int .i64 a,.int .i64 b2,.int .i64 b3]:List Value).toArray t fz)):zad [] Tryz.prog zb7 #[.slice (some ⟨b,0,none⟩) 3 3] w (.bool (hB a&&(hB b2&&hB b3))):=by
 have:=z7y (l:=[a,b2,b3]) (c:=3) (bs:=[]) (zod h (by simp)) (by simp [maxLen])
 simpa using this
def okC (W:Wld):Nat->Bool
 | 0=>hB W.now
 | k+1=>okC W k&&(hB (gi W.cpus (k:Int)).busy&&hB (gi W.cpus (k:Int)).idle)
def okT (W:Wld):Nat->Bool
 | 0=>okC W W.cpus.length
 | k+1=>okT W k&&(hB (gi W.tasks (k:Int)).v&&(hB (gi W.tasks (k:Int)).sum&&hB (gi W.tasks (k:Int)).used))
def okS (W:Wld) (g:Int) (b0:Bool):Nat->Bool
 | 0=>b0
 | q+1=>okS W g b0 q&&(hB (shf W g (q:Int)).floor&&(hB (shf W g (q:Int)).v&&hB (shf W g (q:Int)).sum))
def okG (W:Wld):Nat->Bool
 | 0=>okT W W.tasks.length
 | k+1=>okS W (k:Int) (okG W k&&hB (gi W.groups (k:Int)).sum) (gi W.groups (k:Int)).shelves.length
theorem hB_t {v:Int}:hB v=true↔v<=zbr:=decide_eq_true_iff
theorem zaj5 {W:Wld}:∀k:Nat,okC W k=true↔W.now<=zbr/\∀j:Nat,j<k->(gi W.cpus (j:Int)).busy<=zbr/\(gi W.cpus (j:Int)).idle<=zbr
 | 0=>by simp only [okC,hB_t]; exact ⟨fun h=>⟨h,fun j hj=>by omega⟩,fun h=>h.1⟩
 | k+1=>by
  simp only [okC,Bool.and_eq_true,hB_t,zaj5 k]
  constructor
  ·rintro ⟨⟨h1,h2⟩,h3⟩
   refine ⟨h1,fun j hj => ?_⟩
   by_cases e:j=k
   ·subst e; exact h3
   ·exact h2 j (by omega)
  ·rintro ⟨h1,h2⟩
   exact ⟨⟨h1,fun j hj=>h2 j (by omega)⟩,h2 k (by omega)⟩
theorem zaj8 {W:Wld}:∀k:Nat,okT W k=true↔okC W W.cpus.length=true/\∀j:Nat,j<k->(gi W.tasks (j:Int)).v<=zbr/\(gi W.tasks (j:Int)).sum<=zbr/\(gi W.tasks (j:Int)).used<=zbr
 | 0=>by simp only [okT]; exact ⟨fun h=>⟨h,fun j hj=>by omega⟩,fun h=>h.1⟩
 | k+1=>by
  simp only [okT,Bool.and_eq_true,hB_t,zaj8 k]
  constructor
  ·rintro ⟨⟨h1,h2⟩,h3⟩
   refine ⟨h1,fun j hj => ?_⟩
   by_cases e:j=k
   ·subst e; exact h3
   ·exact h2 j (by omega)
  ·rintro ⟨h1,h2⟩
   exact ⟨⟨h1,fun j hj=>h2 j (by omega)⟩,h2 k (by omega)⟩
theorem zaj7 {W:Wld} {g:Int} {b0:Bool}:∀k:Nat,okS W g b0 k=true↔b0=true/\∀j:Nat,j<k->(shf W g (j:Int)).floor<=zbr/\(shf W g (j:Int)).v<=zbr/\(shf W g (j:Int)).sum<=zbr
 | 0=>by simp only [okS]; exact ⟨fun h=>⟨h,fun j hj=>by omega⟩,fun h=>h.1⟩
 | k+1=>by
  simp only [okS,Bool.and_eq_true,hB_t,zaj7 k]
  constructor
  ·rintro ⟨⟨h1,h2⟩,h3⟩
   refine ⟨h1,fun j hj => ?_⟩
   by_cases e:j=k
   ·subst e; exact h3
   ·exact h2 j (by omega)
  ·rintro ⟨h1,h2⟩
   exact ⟨⟨h1,fun j hj=>h2 j (by omega)⟩,h2 k (by omega)⟩
theorem zaj6 {W:Wld}:∀k:Nat,okG W k=true↔okT W W.tasks.length=true/\∀j:Nat,j<k->(gi W.groups (j:Int)).sum<=zbr/\∀q:Nat,q<(gi W.groups (j:Int)).shelves.length->(shf W (j:Int) (q:Int)).floor<=zbr/\(shf W (j:Int) (q:Int)).v<=zbr/\(shf W (j:Int) (q:Int)).sum<=zbr
 | 0=>by simp only [okG]; exact ⟨fun h=>⟨h,fun j hj=>by omega⟩,fun h=>h.1⟩
 | k+1=>by
  simp only [okG,zaj7,Bool.and_eq_true,hB_t,zaj6 k]
  constructor
  ·rintro ⟨⟨⟨h1,h2⟩,h3⟩,h4⟩
   refine ⟨h1,fun j hj => ?_⟩
   by_cases e:j=k
   ·subst e; exact ⟨h3,h4⟩
   ·exact h2 j (by omega)
  ·rintro ⟨h1,h2⟩
   exact ⟨⟨⟨h1,fun j hj=>h2 j (by omega)⟩,(h2 k (by omega)).1⟩,(h2 k (by omega)).2⟩
theorem zaiw (W:Wld):okG W W.groups.length=zhh W:=by
 have key:okG W W.groups.length=true↔zu3 W:=by
  rw [zaj6,zaj8,zaj5]
  constructor
  ·rintro ⟨⟨⟨h1,h2⟩,h3⟩,h4⟩
   have e:∀{i:Int},0<=i->((i.toNat:Nat):Int)=i:=fun h=>by omega
   refine ⟨h1,fun c a b => ?_,fun c a b => ?_,fun c a b => ?_,fun k c a b c0 c1 => ?_⟩
   ·have:=h2 c.toNat (by omega); rwa [e a] at this
   ·have:=h3 c.toNat (by omega); rwa [e a] at this
   ·have:=(h4 c.toNat (by omega)).1; rwa [e a] at this
   ·have:=(h4 k.toNat (by omega)).2 c.toNat (by rw [e a]; omega); rwa [e a,e c0] at this
  ·intro r
   exact ⟨⟨⟨r.n,fun j hj=>r.c (j:Int) (by omega) (by omega)⟩,fun j hj=>r.t (j:Int) (by omega) (by omega)⟩,fun j hj=>⟨r.g (j:Int) (by omega) (by omega),fun q hq=>r.s (j:Int) (q:Int) (by omega) (by omega) (by omega) (by omega)⟩⟩
 unfold zhh
 cases hb:decB (zu3 W) with
 | true=>exact key.2 (zbp.1 hb)
 | false=>
  cases ho:okG W W.groups.length with
  | false=>rfl
  | true=>exact absurd (key.1 ho) (zta.1 hb)
theorem z8l {a b:Bool} (h:a=true->False):(a&&b)=false:=by
 cases a with
 | false=>rfl
 | true=>exact (h rfl).elim
def zaho (I:Bool->Nat->Prop) (vs:List Value):Prop:=∃(x:Bool) (k:Nat),I x k/\vs=[.bool x,.int .i64 (k:Int)]
theorem zafq {B:(List Value->Prop)->(List Value->Nat)->Bool->Int->Prop} (n:Nat) {xi:Bool} {si:Int} (s:Nat) (hs:si=s) (I:Bool->Nat->Prop) (h0:I xi s)
  (hB:∀(x:Bool) (k:Nat),I x k->B (zaho I) (cntM n 1) x (k:Int)) :
  ∃(xInv:List Value->Prop) (mu:List Value->Nat),xInv [.bool xi,.int .i64 si]/\∀(x:Bool) (i:Int),xInv [.bool x,.int .i64 i]->B xInv mu x i:=by
 refine ⟨zaho I,cntM n 1,⟨xi,s,h0,by rw [hs]⟩,?_⟩
 rintro x i ⟨x',k,hI,he⟩
 simp only [List.cons.injEq,Value.int.injEq,Value.bool.injEq,true_and,and_true] at he
 obtain ⟨rfl,rfl⟩:=he
 exact hB x k hI
theorem zgp {n k:Nat} {I:Bool->Nat->Prop} {x x':Bool} (hk:k<n) (hI:I x' (k+1)):zaho I [.bool x',.int .i64 ((k:Int)+1)]/\cntM n 1 [.bool x',.int .i64 ((k:Int)+1)]<cntM n 1 [.bool x,.int .i64 (k:Int)]:=by
 refine ⟨⟨x',k+1,hI,by simp⟩,?_⟩
 simp only [cntM,zef,List.getElem?_cons_zero,List.getElem?_cons_succ]
 omega
section
variable {W:Wld} {m:MW} {w:World} {bs:List Nat} {p:Option Addr}
theorem z5w (h:WPt bs w p W m) (ha:WA W):zad bs Tryz.prog zgz #[.pointer p] w (.bool (zhh W)):=by
 rw [<-zaiw]
 refine zsm p fun wr hx => ?_
 have h:=(h.ext hx).less (cs:=[]) (by simp)
 have htl:=ha.t
 have hgl:=ha.gl
 have hcl:=ha.c2
 refine ⟨h.some,_,h.now,fun b hb=>⟨hB W.now,fun wx _ hc=>er1 hc,h.some,_,_,_,h.cpus,?_⟩⟩
 refine zafq W.cpus.length 0 rfl (fun x k=>k<=W.cpus.length/\x=okC W k) ⟨Nat.zero_le _,rfl⟩ fun x k ⟨hk,hx1⟩=>⟨fun hlt => ?_,fun hge => ?_⟩
 ·have hlt:=of_decide_eq_true hlt
  refine ⟨h.rd.c.ix zeg (by omega) hlt,_,_,_,_,_,h.rd.c k (by omega) hlt,fun b1 hb1=>⟨fun _ b2 hb2=>⟨_,fun _ wx _ hc=>er2 hc,⟨by omega,by omega⟩,zgp (by omega) ⟨by omega,by rw [hx1]; rfl⟩⟩,fun hn=>⟨⟨by omega,by omega⟩,zgp (by omega) ⟨by omega,?_⟩⟩⟩⟩
  simp only [okC]; rw [<-hx1,z8l hn]
 have hge:=of_decide_eq_false hge
 have hkk:k=W.cpus.length:=by omega
 subst hkk
 refine ⟨h.some,_,_,_,h.tasks,?_⟩
 refine zafq W.tasks.length 0 rfl (fun x k=>k<=W.tasks.length/\x=okT W k) ⟨Nat.zero_le _,hx1⟩ fun x k ⟨hk,hx1⟩=>⟨fun hlt => ?_,fun hge => ?_⟩
 ·have hlt:=of_decide_eq_true hlt
  refine ⟨h.rd.t.ix zce (by omega) hlt,_,_,_,_,_,_,_,_,_,h.rd.t k (by omega) hlt,fun b1 hb1=>⟨fun _ b2 hb2=>⟨_,fun _ wx _ hc=>er3 hc,⟨by omega,by omega⟩,zgp (by omega) ⟨by omega,by rw [hx1]; rfl⟩⟩,fun hn=>⟨⟨by omega,by omega⟩,zgp (by omega) ⟨by omega,?_⟩⟩⟩⟩
  simp only [okT]; rw [<-hx1,z8l hn]
 have hge:=of_decide_eq_false hge
 have hkk:k=W.tasks.length:=by omega
 subst hkk
 refine ⟨h.some,_,_,_,h.groups,?_⟩
 refine zafq W.groups.length 0 rfl (fun x k=>k<=W.groups.length/\x=okG W k) ⟨Nat.zero_le _,hx1⟩ fun x k ⟨hk,hx1⟩=>⟨fun hlt => ?_,fun hge => ?_⟩
 ·have hlt:=of_decide_eq_true hlt
  have hsl:(gi W.groups (k:Int)).shelves.length<=4:=(zqe ha (k:=(k:Int)) (by omega) (by omega)).2.2
  have hrs:=h.rd.g.shelves (k:Int) (by omega) hlt
  rw [Int.toNat_natCast] at hrs
  have inner:∀{b0:Bool},b0=(okG W k&&hB (gi W.groups (k:Int)).sum)->∃(xInv:List Value->Prop) (mu:List Value->Nat),xInv [.bool b0,.int .i64 0]/\∀(ok3:Bool) (x14:Int),xInv [.bool ok3,.int .i64 x14]->
    ((decide (x14<(((gi W.groups (k:Int)).shelves.length:Nat):Int)))=true->
     Ix (m.ms k).sO (gi W.groups (k:Int)).shelves.length x14/\
     (∃(x03:Int) (x15:Bool) (x23:Int) (x33:Int) (x43:Int),
     zaa [] wr (m.ms k).sO (Int.toNat x14*5) [.int .i64 x03,.bool x15,.int .i64 x23,.int .i64 x33,.int .i64 x43]/\
     (∀b7,wr.heap.size<=b7->
     (ok3=true->(∀b8,wr.heap.size<=b8->
     (∃(early4:Bool),
     (ok3=true->(∀wx4,ExtX [] wr wx4->wx4.heap[b8]? = some (Obj.cells ([.int .i64 x03,.int .i64 x23,.int .i64 x43]:List Value).toArray zao (0,0))->zad [] Tryz.prog zb7 #[.slice (some (Addr.mk b8 0 none)) 3 3] wx4 (.bool early4)))/\
     InR .i64 (x14+1)/\
     xInv [.bool (ok3&&early4),.int .i64 (x14+1)]/\mu [.bool (ok3&&early4),.int .i64 (x14+1)]<mu [.bool ok3,.int .i64 x14])))/\
     ((ok3=true->False)->
     InR .i64 (x14+1)/\
     xInv [.bool false,.int .i64 (x14+1)]/\mu [.bool false,.int .i64 (x14+1)]<mu [.bool ok3,.int .i64 x14]))))/\
    ((decide (x14<(((gi W.groups (k:Int)).shelves.length:Nat):Int)))=false->ok3=okG W (k+1)):=fun {b0} hb0=>by
   refine zafq (gi W.groups (k:Int)).shelves.length 0 rfl (fun x q=>q<=(gi W.groups (k:Int)).shelves.length/\x=okS W (k:Int) (okG W k&&hB (gi W.groups (k:Int)).sum) q) ⟨Nat.zero_le _,hb0⟩ fun x q ⟨hq,hx2⟩=>⟨fun hlt2 => ?_,fun hge2 => ?_⟩
   ·have hlt2:=of_decide_eq_true hlt2
    refine ⟨hrs.ix ze4 (by omega) hlt2,_,_,_,_,_,hrs q (by omega) hlt2,fun b7 hb7=>⟨fun _ b8 hb8=>⟨_,fun _ wx _ hc=>er3 hc,⟨by omega,by omega⟩,zgp (by omega) ⟨by omega,by rw [hx2]; rfl⟩⟩,fun hn=>⟨⟨by omega,by omega⟩,zgp (by omega) ⟨by omega,?_⟩⟩⟩⟩
    simp only [okS]; rw [<-hx2,z8l hn]
   ·have hge2:=of_decide_eq_false hge2
    have:q=(gi W.groups (k:Int)).shelves.length:=by omega
    rw [hx2,this]; rfl
  refine ⟨h.rd.g.ix (by omega) hlt,_,_,_,_,_,_,_,_,_,_,_,_,_,_,_,_,_,_,_,_,h.rd.g.cells (k:Int) (by omega) hlt,fun b5 hb5=>⟨fun _ b6 hb6=>⟨hB (gi W.groups (k:Int)).sum,fun _ wx _ hc=>er1 hc,?_⟩,fun hn => ?_⟩⟩
  ·obtain ⟨xI,mu,h0,hI⟩:=inner (b0:=x&&hB (gi W.groups (k:Int)).sum) (by rw [hx1])
   refine ⟨xI,mu,h0,fun ok3 x14 hi=>⟨(hI ok3 x14 hi).1,fun hge2=>⟨⟨by omega,by omega⟩,?_⟩⟩⟩
   have e:=(hI ok3 x14 hi).2 hge2
   exact zgp (by omega) ⟨by omega,e⟩
  ·obtain ⟨xI,mu,h0,hI⟩:=inner (b0:=false) (by rw [<-hx1,z8l hn])
   refine ⟨xI,mu,h0,fun ok3 x14 hi=>⟨(hI ok3 x14 hi).1,fun hge2=>⟨⟨by omega,by omega⟩,?_⟩⟩⟩
   have e:=(hI ok3 x14 hi).2 hge2
   exact zgp (by omega) ⟨by omega,e⟩
 ·have hge:=of_decide_eq_false hge
  have hkk:k=W.groups.length:=by omega
  subst hkk
  rw [hx1]
end
def zp2 (w:World):Prop:=w.cell? ⟨0,0,none⟩=some (.iface 160 (.agg #[.pointer (some ⟨1,103,none⟩)]))
theorem zp2.ext {w w':World} (h:zp2 w) (hx:ExtX [] w w'):zp2 w':=by
 have hlt:0<w.heap.size:=by
  rcases Nat.eq_zero_or_pos w.heap.size with h0 | h1
  ·unfold zp2 at h; simp [World.cell?,h0] at h
  ·exact h1
 have hb:=hx.block 0 hlt (by simp)
 unfold zp2 at h ⊢
 unfold World.cell? at h ⊢
 dsimp only at h ⊢
 rw [hb]
 exact h
theorem zaic (t:Value) (w:World):Calls Tryz.prog zm0 #[.nilIface,t] w fun e w'=>e = .returned (.bool false)/\ExtX [] w w':=(zajh t w).mono fun e w' ⟨he,hw⟩=>⟨he,by rw [hw]; exact ExtX.refl _ _⟩
theorem zafh {n:Int} {t:Nat} {old:Int} {w:World} {ty:TypeId} (hg:zp2 w) (ht:w.heap[t]? = some (.cells ([.int .i64 old]:List Value).toArray ty (0,0))) :
  Calls Tryz.prog zm0 #[.iface zb5 (.agg #[.int .i64 n]),.iface zed (.pointer (some ⟨t,0,none⟩))] w fun e w'=>e = .returned (.bool true)/\w'.heap[t]? = some (.cells ([.int .i64 n]:List Value).toArray ty (0,0))/\ExtX [t] w w':=by
 refine (zajf n ⟨t,0,none⟩ (.int .i64 old) w hg (by rw [zkg ht]; rfl) (by simp [World.frozen?,ht])).mono fun e w' ⟨he,hw⟩=>⟨he,?_⟩
 subst hw
 have hx:=(((((ExtX.refl [] w).alloc (.cells #[.pointer (some ⟨t,0,none⟩)] zed)).alloc (.cells #[.pointer (some ⟨1,zed,none⟩),.pointer (some ⟨w.heap.size,0,none⟩),.int .u64 150] zey)).alloc (.cells #[.pointer (some ⟨1,zed,none⟩),.pointer (some ⟨w.heap.size,0,none⟩),.int .u64 150] zey)).alloc (.cells #[.int .i64 n] zb5))
 have hb:=za0 ht hx (by simp)
 refine ⟨?_,?_⟩
 ·have:=znz (k:=0) (n:=0) (vs:=[.int .i64 n]) hb
  exact this
 ·exact hx.of_nil.setCell (p:=⟨t,0,none⟩) (.inr (by simp)) _
structure Done (base pb:Nat) (ex:List Nat) (w:World) (m:MW) (w':World) (W':Wld) (m':MW):Prop where
 own:MWd 8 base w' W' m'
 pt:w'.heap[pb]? = some (.cells (encW W' m').toArray zab (0,0))
 ext:ExtX (ex++(pb::zbc 8 m)) w w'
 sub:∀x∈zbc 8 m',x∈zbc 8 m\/w.heap.size<=x
theorem Mp.done {base pb:Nat} {ex:List Nat} {w w':World} {W':Wld} {m m':MW} (h:Mp base pb [] w m w' W' m'):Done base pb ex w m w' W' m':=
 ⟨h.v.own,h.pt,h.v.ext.mono fun x hx=>List.mem_append_right _ (List.mem_cons_of_mem _ hx),h.v.sub⟩
def AnsE (ex:List Nat) (r:Wld×Int) (w:World) (v:Value) (w':World):Prop:=∃n m',v = .tuple #[.agg (encW r.1 m').toArray,.int .i64 r.2]/\MWd n w.heap.size w' r.1 m'/\ExtX ex w w'
section
variable {W W':Wld} {m:MW} {w:World} {bar:Int}
theorem zaae {cf:Fn} {ca ck:Array Value} (ex:List Nat) (P:World->Prop) (hP:∀(a b:World) (bs:List Nat),P a->ExtX bs a b->(∀x∈bs,w.heap.size<=x)->P b) (hex:∀x∈ex,x<w.heap.size) (hz:0∉ex) (h:RdW [] w W m) (hr:∀x∈ex,∀w1,ExtX ex w w1->RdW [] w1 W m) (hl:LenW W) (hg:zp2 w)
  (hcall:∀(w1:World) (pb:Nat) (m1:MW),zbi W=true->ExtX [] w w1->w.heap.size<=pb->PW w.heap.size pb w1 W m1->
   zmh Tryz.prog (.func cf ca ck) [.pointer (pA pb)] w1 fun e w2=>(bar≠0/\e = .returned (.iface zb5 (.agg #[.int .i64 bar]))/\ExtX [] w1 w2)\/(bar=0/\e = .returned .nilIface/\P w2/\∃m2,Done w.heap.size pb ex w1 m1 w2 W' m2)) :
  Calls Tryz.prog zg0 #[.agg (encW W m).toArray,.func cf ca ck] w fun e w'=>∃v,e = .returned v/\AnsE ex (ansD W bar W') w v w'/\(zbi W=true->bar=0->P w')/\(zbi W=false\/bar≠0->ExtX [] w w'):=by
 refine zzl W.now m.cO W.cpus.length m.cC m.tO W.tasks.length m.tC m.gO W.groups.length m.gC cf ca ck (R:=fun v w'=>AnsE ex (ansD W bar W') w v w'/\(zbi W=true->bar=0->P w')/\(zbi W=false\/bar≠0->ExtX [] w w')) ?_
 intro x hx x1 hx1
 refine ⟨_,zzv h hl.c hl.g hl.f,fun g wr hx2 => ?_,fun g wr1 hx2 hs1 => ?_⟩
 ·have hW:zbi W=false:=by simpa using g
  refine ⟨?_,fun hw=>(by rw [hW] at hw; cases hw),fun _=>hx2⟩
  rw [zaa7 hW]
  exact ⟨0,noM,rfl,MWd.zero _ _,hx2.of_nil⟩
 have hW:zbi W=true:=by simpa using g
 have wp:=zbp.1 hW
 have s1:Sc w [x,x1] wr1:=(((Sc.start w).add hx).add hx1).call0 hx2
 refine Calls.mono (zxk (h.ext hx2) wp.a) ?_
 rintro e wv ⟨m1,he,hM1,hy1⟩
 have s2:=s1.call0 hy1
 have hO2:=(OW.of hM1 hs1).mono hx2.size
 refine ⟨_,_,_,_,_,_,_,_,_,_,he,zaz hy1 hs1,fun b2 wb hxb hb2 hcb hn2 => ?_⟩
 have s3:=s2.step hxb
 have hO3:=hO2.step hxb
 have hb2w:w.heap.size<=b2:=Nat.le_trans s2.ext.size hb2
 have hp2:b2∉zbc 8 m1:=fun hm=>by
  have:=(hO2.own.lt b2 hm).2
  omega
 refine ⟨zyy (k0:=0) hcb hn2 (by simp),fun b3 wb1 hxb1 hb3 hcb1 hn3 => ?_⟩
 have hst:=znz (k:=0) (n:=0) (vs:=encW W m1) hcb
 have hstx:ExtX [b2] wb (sto wb (some ⟨b2,0,none⟩) 0 (encW W m1)):=zj8 fun a ha=>by cases ha; simp
 have hO4 := (hO3.call hstx fun y hy hm => hp2 (by have:y=b2:=by simpa using hm
                                                   exact this▸hy)).step hxb1
 have s4 := (s3.call hstx fun y hy => by have:y=b2:=by simpa using hy
                                         omega).step hxb1
 have hpt4:wb1.heap[b2]? = some (.cells (encW W m1).toArray zab (0,0)):=za0 hst hxb1 hn2
 have hb23:b2≠b3:=fun e=>by
  have:=zjm hst
  have hb3':(sto wb (some ⟨b2,0,none⟩) 0 (encW W m1)).heap.size<=b3:=hb3
  omega
 have hb3w:w.heap.size<=b3:=by
  have h1:=hstx.size
  have h2:=s3.ext.size
  have hb3':(sto wb (some ⟨b2,0,none⟩) 0 (encW W m1)).heap.size<=b3:=hb3
  omega
 intro wr2 hx4 hs2
 have hO5:=hO4.step hx4
 have s5:=s4.step hx4
 have hpt5:=za0 hpt4 hx4 hn2
 have hc5:=za0 hcb1 hx4 hn3
 refine zmh.mono (hcall wr2 b2 m1 hW s5.ext hb2w ⟨hO5.own,hpt5,hp2⟩) ?_
 rintro e1 wv1 (⟨hb0,he1,hy⟩ | ⟨hb0,he1,hPw,m2,hD⟩)
 ·
  refine ⟨_,he1,zaz hy hs2,fun wr3 hx5 hs3 => ?_⟩
  have s6:=(s5.call0 hy).step hx5
  have hc6:=za0 (za0 hc5 hy (by simp)) hx5 hn3
  refine Calls.mono (zafh (hg.ext s6.ext) hc6) ?_
  rintro e2 wv2 ⟨he2,hc7,hy2⟩
  have s7 := s6.call hy2 fun y hy => by have:y=b3:=by simpa using hy
                                        omega
  have hcell:∀{w9:World},ExtX [x,x1] wv2 w9->zaa [x,x1] w9 (some ⟨b3,0,none⟩) (0+0) [.int .i64 bar]:=fun h9=>zij (za0 hc7 h9 hn3) hn3 (k0:=0) rfl
  refine ⟨true, he2, zn8 hy2 hs3 (fun y hm hm' => by have:y=b3:=by simpa using hm
                                                     exact hn3 (this▸hm')),fun _=>⟨bar,hcell (ExtX.refl _ _),fun wr4 hx6 hs4 => ?_⟩,fun g=>by cases g⟩
  have s8:=s7.step hx6
  refine Calls.mono (zxk (h.ext s8.ext) wp.a) ?_
  rintro e3 wv3 ⟨m3,he3,hM3,hy3⟩
  have s9:=s8.call0 hy3
  have hO9:=(OW.of hM3 hs4).mono s8.ext.size
  have hc9:zaa [x,x1] wv3 (some ⟨b3,0,none⟩) (0+0) [.int .i64 bar]:=zij (za0 (za0 hc7 hx6 hn3) hy3 (by simp)) hn3 (k0:=0) rfl
  refine ⟨_,_,_,_,_,_,_,_,_,_,he3,zaz hy3 hs4,hc9,hc9,fun wr5 hx7=>⟨?_,fun _ hb=>absurd hb hb0,fun _=>(s9.step hx7).ext⟩⟩
  rw [z2r hW hb0]
  exact ⟨8,m3,rfl,(hO9.step hx7).own,(s9.step hx7).ext.of_nil⟩
 ·
  have hpbs:∀y∈ex++(b2::zbc 8 m1),y∉[x,x1]:=fun y hy hm=>by
   rcases List.mem_append.1 hy with h1 | h1
   ·have:=hex y h1
    have:=s1.new y hm
    omega
   ·rcases List.mem_cons.1 h1 with h1 | h1
    ·subst h1; exact hn2 hm
    ·exact hO5.nb y h1 hm
  refine ⟨_,he1,zn8 hD.ext hs2 hpbs,fun wr3 hx5 hs3 => ?_⟩
  refine Calls.mono (zaic _ _) ?_
  rintro e2 wv2 ⟨he2,hy2⟩
  have hnb2:∀y∈zbc 8 m2,y∉[x,x1]:=fun y hy hm=>by
   rcases hD.sub y hy with h1 | h1
   ·exact hO5.nb y h1 hm
   ·have:=hs2 y hm
    omega
  have hM7:=((hD.own.ext hx5 hnb2).ext0 hy2)
  have hpt7:=za0 (za0 hD.pt hx5 hn2) hy2 (by simp)
  have hX2:ExtX ex w wv1:=s5.ext.of_nil.fresh hD.ext fun y hy=>by
   rcases List.mem_append.1 hy with h1 | h1
   ·exact .inr h1
   ·refine .inl ?_
    rcases List.mem_cons.1 h1 with h1 | h1
    ·omega
    ·exact (hO5.own.lt y h1).1
  have hX3:ExtX ex w wv2:=(hX2.fresh hx5 fun y hy=>.inl (s1.new y hy)).trans hy2.of_nil
  refine ⟨false,he2,zaz hy2 hs3,fun g=>(by cases g),fun _=>⟨_,_,_,_,_,_,_,_,_,_,zhp hpt7 hn2 (k0:=0) (n:=0) fun j v hj=>by simpa [encW] using hj,fun wr6 hx6=>⟨?_,fun _ _ => ?_,fun hn => ?_⟩⟩⟩
  ·rw [zagq hW hb0]
   exact ⟨8,m2,rfl,hM7.ext hx6 hnb2,hX3.fresh hx6 fun y hy=>.inl (s1.new y hy)⟩
  ·exact hP _ _ _ (hP _ _ _ (hP _ _ _ hPw hx5 s1.new) hy2 (by simp)) hx6 s1.new
  ·rcases hn with h1 | h1
   ·rw [hW] at h1; cases h1
   ·exact absurd hb0 h1
theorem zacg {cf:Fn} {ca ck:Array Value} (h:RdW [] w W m) (hl:LenW W) (hg:zp2 w)
  (hcall:∀(w1:World) (pb:Nat) (m1:MW),zbi W=true->ExtX [] w w1->w.heap.size<=pb->PW w.heap.size pb w1 W m1->
   zmh Tryz.prog (.func cf ca ck) [.pointer (pA pb)] w1 fun e w2=>(bar≠0/\e = .returned (.iface zb5 (.agg #[.int .i64 bar]))/\ExtX [] w1 w2)\/(bar=0/\e = .returned .nilIface/\∃m2,Done w.heap.size pb [] w1 m1 w2 W' m2)) :
  Calls Tryz.prog zg0 #[.agg (encW W m).toArray,.func cf ca ck] w fun e w'=>∃v,e = .returned v/\AnsW (ansD W bar W') w v w':=
 (zaae [] (fun _=>True) (fun _ _ _ _ _ _=>trivial) (by simp) (by simp) h (by simp) hl hg fun w1 pb m1 a b c d=>(hcall w1 pb m1 a b c d).mono fun e w2 hh=>by
  rcases hh with h1 | ⟨h1,h2,h3⟩
  ·exact .inl h1
  ·exact .inr ⟨h1,h2,trivial,h3⟩).mono fun e w' ⟨v,he,hA,_⟩=>⟨v,he,hA⟩
end
end Go.Proofs.YtclpmgfpjeaibaaGreatDoor
