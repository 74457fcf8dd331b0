/- Part 14 of what the law FnExactCpuBalance needs: the engine, the functions' propositions, the contracts. -/
import Derived.Test.YtajdcjidpolloaaGreatDoorFnExactCpuBalancePm
import Derived.LaidEql
import Derived.Stop.Asserts
import Derived.RowKitTokens
namespace Go.Proofs.YtajdcjidpolloaaGreatDoor
open Go.RowKit Go.Extern.Stop Go.Stop Go.Extern
set_option linter.unusedVariables false
set_option linter.unusedSimpArgs false
set_option maxRecDepth 100000
theorem zama (t:Value) (w:World) :
  Calls Tryz.prog 133 #[.nilIface,t] w fun e w'=>e = .returned (.bool false)∧w'=w:=by
 go_enter Tryz.func133,Tryz.ntmps133
 go_wp2
 go_ret
 exact ⟨rfl,rfl⟩
theorem zaaw (t:Addr) (w:World):(ReflectliteValue.unpack (.iface 143 (.pointer (some t)))).run Tryz.prog w
  = .ok (.agg #[.pointer (some ⟨1,143,none⟩),.pointer (some ⟨w.heap.size,0,none⟩),.int .u64 150]) (w.alloc (.cells #[.pointer (some t)] 143)):=by kernel_rfl
theorem zah7 (a : Addr) (w : World) : (ReflectliteValue.methodAny (ReflectliteValue.valueError "reflectlite.Value.Type" 0) (fun t _ _ _ => ReflectliteType.toType t) #[.agg #[.pointer (some ⟨1, 143, none⟩), .pointer (some a), .int .u64 150]]).run Tryz.prog w
  = .ok (.iface 189 (.agg #[.pointer (some ⟨1,143,none⟩)])) w:=by kernel_rfl
theorem z5w (h : Value) (w : World) : (Go.method 361 189 (.agg #[h]) "Kind").run Tryz.prog w = .ok (271, h) w := by kernel_rfl
theorem zah5 (w:World):((ReflectliteType.abiMethod fun t=>(fun a:Nat=>Value.int IntKind.u8 (a:Int)) <$> Rtype.kind t) #[.pointer (some ⟨1,143,none⟩)]).run Tryz.prog w = .ok (.int .u8 22) w:=by kernel_rfl
theorem zah4 (w:World):((ReflectliteType.abiMethod fun t=>(fun a:Nat=>Value.int IntKind.u8 (a:Int)) <$> Rtype.kind t) #[.pointer (some ⟨1,63,none⟩)]).run Tryz.prog w = .ok (.int .u8 25) w:=by kernel_rfl
theorem zaj4 (z:Sem Value) (f:TypeId→Addr→Nat→Nat→Sem Value) (v:Value) :
  ReflectliteValue.method z f #[v]=(do match ←ReflectliteValue.parts v with | none=>z | some (t,a,fl)=>f t a fl (fl % 32)):=rfl
theorem z8o (a:Addr) (w:World):(ReflectliteValue.parts (.agg #[.pointer (some ⟨1,143,none⟩),.pointer (some a),.int .u64 150])).run Tryz.prog w = .ok (some (143,a,150)) w:=by kernel_rfl
theorem z8p:Tryz.prog.underlying 143=some (.pointer 63):=by kernel_rfl
theorem zaeu (a p:Addr) (W:World) (ha:W.cell? a=some (.pointer (some p))) :
  (ReflectliteValue.method (ReflectliteValue.valueError "reflectlite.Value.IsNil" 0) ReflectliteValue.isNil #[.agg #[.pointer (some ⟨1, 143, none⟩), .pointer (some a), .int .u64 150]]).run Tryz.prog W = .ok (.bool false) W := by
 rw [zaj4]
 simp only [Sem.run_bind,z8o,Result.andThen]
 simp [ReflectliteValue.isNil,loadVar,isAgg,underlying,z8p,ha,Result.andThen]
theorem z5v (h : Value) (w : World) : (Go.method 361 189 (.agg #[h]) "Elem").run Tryz.prog w = .ok (281, .agg #[h]) w := by kernel_rfl
theorem zq0 (h : Value) (w : World) : (Go.method 361 189 (.agg #[h]) "Implements").run Tryz.prog w = .ok (282, .agg #[h]) w := by kernel_rfl
theorem zoj (h : Value) (w : World) : (Go.method 361 189 (.agg #[h]) "AssignableTo").run Tryz.prog w = .ok (279, .agg #[h]) w := by kernel_rfl
theorem zah2 (w:World):(ReflectliteType.method ReflectliteType.elem #[.agg #[.pointer (some ⟨1,143,none⟩)]]).run Tryz.prog w = .ok (.iface 189 (.agg #[.pointer (some ⟨1,63,none⟩)])) w:=by kernel_rfl
theorem zah3 (w : World) : (ReflectliteType.relation "Implements" ReflectliteType.implements_ #[.agg #[.pointer (some ⟨1, 63, none⟩)], .iface 189 (.agg #[.pointer (some ⟨1, 60, none⟩)])]).run Tryz.prog w = .ok (.bool true) w := by kernel_rfl
theorem zada (v:Value) (w:World):(ReflectliteType.typeOf #[.iface 63 v]).run Tryz.prog w = .ok (.iface 189 (.agg #[.pointer (some ⟨1,63,none⟩)])) w:=by kernel_rfl
theorem zac6 (w : World) : (ReflectliteType.relation "AssignableTo" ReflectliteType.assignableTo #[.agg #[.pointer (some ⟨1, 63, none⟩)], .iface 189 (.agg #[.pointer (some ⟨1, 63, none⟩)])]).run Tryz.prog w = .ok (.bool true) w := by kernel_rfl
theorem zaav (n:Int) (w:World):(ReflectliteValue.unpack (.iface 63 (.agg #[.int .i64 n]))).run Tryz.prog w
  = .ok (.agg #[.pointer (some ⟨1,63,none⟩),.pointer (some ⟨w.heap.size,0,none⟩),.int .u64 153]) (w.alloc (.cells #[.int .i64 n] 63)):=by kernel_rfl
theorem zac8 (w:World):(Rtype.elem? 143).run Tryz.prog w = .ok (some 63) w:=by kernel_rfl
theorem zal9 (p:Addr) (w:World):(ReflectliteValue.mk 63 p ReflectliteValue.flagAddr).run Tryz.prog w = .ok (.agg #[.pointer (some ⟨1,63,none⟩),.pointer (some p),.int .u64 409]) w:=by kernel_rfl
theorem zaet (a p:Addr) (W:World) (ha:W.cell? a=some (.pointer (some p))) :
  (ReflectliteValue.method (ReflectliteValue.valueError "reflectlite.Value.Elem" 0) ReflectliteValue.elem #[.agg #[.pointer (some ⟨1, 143, none⟩), .pointer (some a), .int .u64 150]]).run Tryz.prog W
   = .ok (.agg #[.pointer (some ⟨1,63,none⟩),.pointer (some p),.int .u64 409]) W:=by
 rw [zaj4]
 simp only [Sem.run_bind,z8o,Result.andThen]
 simp [ReflectliteValue.elem,loadVar,isAgg,underlying,z8p,ha,Result.andThen,zac8,zal9]
theorem zac9 (a:Addr) (w:World):(ReflectliteValue.parts (.agg #[.pointer (some ⟨1,63,none⟩),.pointer (some a),.int .u64 409])).run Tryz.prog w = .ok (some (63,a,409)) w:=by kernel_rfl
theorem zaev (a:Addr) (w:World):(ReflectliteValue.parts (.agg #[.pointer (some ⟨1,63,none⟩),.pointer (some a),.int .u64 153])).run Tryz.prog w = .ok (some (63,a,153)) w:=by kernel_rfl
theorem zac7 (w:World):(Rtype.directlyAssignable 63 63).run Tryz.prog w = .ok true w:=by kernel_rfl
end Go.Proofs.YtajdcjidpolloaaGreatDoor
namespace Go.Proofs.YtajdcjidpolloaaGreatDoor
open Go.RowKit Go.Extern.Stop Go.Stop Go.Extern
set_option linter.unusedVariables false
set_option linter.unusedSimpArgs false
set_option maxRecDepth 100000
theorem zamb (v x:Value):ReflectliteValue.set #[v,x]=(do
  let (some (dst,a,fl),some (src,b,_)):=(←ReflectliteValue.parts v,←ReflectliteValue.parts x)
   | unsupported (.noEntry "extern/(internal/reflectlite.Value).Set.zeroValue")
  if fl / ReflectliteValue.flagAddr % 2 == 0 then unsupported (.noEntry "extern/(internal/reflectlite.Value).Set.unaddressable")
  let val ←loadVar src b
  if ←Rtype.directlyAssignable dst src then storeVar dst a val
  else if ←Rtype.implements dst src then
   if (←Rtype.kind src)==20 then
    match val with
    | .nilIface => unsupported (.noEntry "extern/reflectlite: a nil value of one interface type handed on as a value of another")
    | _=>storeVar dst a val
   else storeVar dst a (.iface src val)
  else panicString ("reflectlite.Set: value of type " ++ (← Rtype.spelt src) ++ " is not assignable to type " ++ (← Rtype.spelt dst))
  pure (.tuple #[])):=rfl
theorem zakp (w:World):(isAgg 63).run Tryz.prog w = .ok true w:=by kernel_rfl
theorem zab4 (w:World):(sizeOf 63).run Tryz.prog w = .ok 1 w:=by kernel_rfl
theorem zah6 (b:Addr) (n:Int) (W:World) (hb:W.cell? b=some (.int .i64 n)):(loadVar 63 b).run Tryz.prog W = .ok (.agg #[.int .i64 n]) W:=by
 unfold loadVar
 simp only [Sem.run_bind,zakp,Result.andThen,if_true]
 simp only [Sem.run_bind,zab4,Result.andThen]
 have e:b.add 0=b:=by cases b; rfl
 simp [loadCells,loadCellsFrom,e,hb,Result.andThen]
theorem zakq (ta b:Addr) (n:Int) (old:Value) (W:World) (hb:W.cell? b=some (.int .i64 n)) (ht:W.cell? ta=some old) (hf:W.frozen? ta=false) :
  (ReflectliteValue.set #[.agg #[.pointer (some ⟨1,63,none⟩),.pointer (some ta),.int .u64 409],.agg #[.pointer (some ⟨1,63,none⟩),.pointer (some b),.int .u64 153]]).run Tryz.prog W
   = .ok (.tuple #[]) (W.setCell ta (.int .i64 n)):=by
 rw [zamb]
 simp only [Sem.run_bind,zac9,zaev,Result.andThen]
 have e:ta.add 0=ta:=by cases ta; rfl
 simp [ReflectliteValue.flagAddr,zah6 b n W hb,Result.andThen,zac7,storeVar,zab4,Value.cells,storeCells,e]
 rw [run_store Tryz.prog W ta _ _ (by rfl)]
 simp [ht,hf]
set_option maxHeartbeats 4000000 in
theorem zal8 (n:Int) (t:Addr) (old:Value) (w:World) (hg:w.cell? ⟨0,0,none⟩=some (.iface 189 (.agg #[.pointer (some ⟨1,60,none⟩)]))) (ht0:w.cell? t=some old) (hf0:w.frozen? t=false) :
  Calls Tryz.prog 133 #[.iface 63 (.agg #[.int .i64 n]),.iface 143 (.pointer (some t))] w fun ev w'=>ev = .returned (.bool true)∧w'=((((w.alloc (.cells #[.pointer (some t)] 143)).alloc (.cells #[.pointer (some ⟨1,143,none⟩),.pointer (some ⟨w.heap.size,0,none⟩),.int .u64 150] 169)).alloc (.cells #[.pointer (some ⟨1,143,none⟩),.pointer (some ⟨w.heap.size,0,none⟩),.int .u64 150] 169)).alloc (.cells #[.int .i64 n] 63)).setCell t (.int .i64 n):=by
 have h6 := @run_callFunc_extern Tryz.prog 200 _ (fun args=>ReflectliteValue.unpack (args.getD 0 (.tuple #[]))) Tryz.func200 (by kernel_rfl) (by kernel_rfl) (by kernel_rfl) (by kernel_rfl)
 have h7 := @run_callFunc_extern Tryz.prog 201 _ (ReflectliteValue.methodAny (ReflectliteValue.valueError "reflectlite.Value.Type" 0) (fun t _ _ _ => ReflectliteType.toType t)) Tryz.func201 (by kernel_rfl) (by kernel_rfl) (by kernel_rfl) (by kernel_rfl)
 have h8 := @run_callFunc_extern Tryz.prog 202 _ (ReflectliteValue.method (ReflectliteValue.valueError "reflectlite.Value.IsNil" 0) ReflectliteValue.isNil) Tryz.func202 (by kernel_rfl) (by kernel_rfl) (by kernel_rfl) (by kernel_rfl)
 have h27 := @run_callFunc_extern Tryz.prog 271 _ (ReflectliteType.abiMethod fun t=>do pure (.int .u8 (←Rtype.kind t))) Tryz.func271 (by kernel_rfl) (by kernel_rfl) (by kernel_rfl) (by kernel_rfl)
 have h37 := @run_callFunc_extern Tryz.prog 281 _ (ReflectliteType.method ReflectliteType.elem) Tryz.func281 (by kernel_rfl) (by kernel_rfl) (by kernel_rfl) (by kernel_rfl)
 have h38 := @run_callFunc_extern Tryz.prog 282 _ (ReflectliteType.relation "Implements" ReflectliteType.implements_) Tryz.func282 (by kernel_rfl) (by kernel_rfl) (by kernel_rfl) (by kernel_rfl)
 have h10 := @run_callFunc_extern Tryz.prog 240 _ ReflectliteType.typeOf Tryz.func240 (by kernel_rfl) (by kernel_rfl) (by kernel_rfl) (by kernel_rfl)
 have h35 := @run_callFunc_extern Tryz.prog 279 _ (ReflectliteType.relation "AssignableTo" ReflectliteType.assignableTo) Tryz.func279 (by kernel_rfl) (by kernel_rfl) (by kernel_rfl) (by kernel_rfl)
 have h11 := @run_callFunc_extern Tryz.prog 241 _ (ReflectliteValue.method (ReflectliteValue.valueError "reflectlite.Value.Elem" 0) ReflectliteValue.elem) Tryz.func241 (by kernel_rfl) (by kernel_rfl) (by kernel_rfl) (by kernel_rfl)
 have h12 := @run_callFunc_extern Tryz.prog 242 _ ReflectliteValue.set Tryz.func242 (by kernel_rfl) (by kernel_rfl) (by kernel_rfl) (by kernel_rfl)
 have tO:=zada
 have mA:=zoj
 have a25:=zac6
 have v25:=zaav
 have f6:=zaaw
 have f7:=zah7
 have mK:=z5w
 have mE:=z5v
 have mI:=zq0
 have k27:=zah5
 have k25:=zah4
 have e27:=zah2
 have i25:=zah3
 have n8:=zaeu ⟨w.heap.size,0,none⟩ t ((w.alloc (.cells #[.pointer (some t)] 143)).alloc (.cells #[.pointer (some ⟨1,143,none⟩),.pointer (some ⟨w.heap.size,0,none⟩),.int .u64 150] 169)) (by simp)
 have hlt:0<w.heap.size:=by
  rcases Nat.eq_zero_or_pos w.heap.size with h0 | h
  ·simp [World.cell?,h0] at hg
  ·exact h
 have hg2:((w.alloc (.cells #[.pointer (some t)] 143)).alloc (.cells #[.pointer (some ⟨1,143,none⟩),.pointer (some ⟨w.heap.size,0,none⟩),.int .u64 150] 169)).cell? ⟨0,0,none⟩=some (.iface 189 (.agg #[.pointer (some ⟨1,60,none⟩)])):=by
  rw [World.cell?_alloc_lt _ _ ⟨0,0,none⟩ (by simp),World.cell?_alloc_lt _ _ ⟨0,0,none⟩ hlt]; exact hg
 have htl:t.block<w.heap.size:=by
  rcases Nat.lt_or_ge t.block w.heap.size with h | h
  ·exact h
  ·simp [World.cell?,Array.getElem?_eq_none h] at ht0
 have el:=zaet ⟨w.heap.size,0,none⟩ t (((w.alloc (.cells #[.pointer (some t)] 143)).alloc (.cells #[.pointer (some ⟨1,143,none⟩),.pointer (some ⟨w.heap.size,0,none⟩),.int .u64 150] 169)).alloc (.cells #[.pointer (some ⟨1,143,none⟩),.pointer (some ⟨w.heap.size,0,none⟩),.int .u64 150] 169)) (by rw [World.cell?_alloc_lt _ _ ⟨w.heap.size,0,none⟩ (by simp; omega)]; simp)
 have st:=zakq t ⟨w.heap.size+1+1+1,0,none⟩ n old ((((w.alloc (.cells #[.pointer (some t)] 143)).alloc (.cells #[.pointer (some ⟨1,143,none⟩),.pointer (some ⟨w.heap.size,0,none⟩),.int .u64 150] 169)).alloc (.cells #[.pointer (some ⟨1,143,none⟩),.pointer (some ⟨w.heap.size,0,none⟩),.int .u64 150] 169)).alloc (.cells #[.int .i64 n] 63))
  (by rw [World.cell?_alloc_at _ _ _ _ (by simp)]; rfl)
  (by rw [World.cell?_alloc_lt _ _ t (by simp; omega),World.cell?_alloc_lt _ _ t (by simp; omega),World.cell?_alloc_lt _ _ t (by simp; omega),World.cell?_alloc_lt _ _ t htl]; exact ht0)
  (by rw [World.frozen?_alloc_old _ _ t (by simp; omega),World.frozen?_alloc_old _ _ t (by simp; omega),World.frozen?_alloc_old _ _ t (by simp; omega),World.frozen?_alloc_old _ _ t (Nat.ne_of_lt htl)]; exact hf0)
 go_enter Tryz.func133,Tryz.ntmps133
 go_wp2
 refine wp_loop_rounds 1 ?_
 rw [rounds_succ]
 go_wp2
 go_ret
 exact ⟨rfl,rfl⟩
end Go.Proofs.YtajdcjidpolloaaGreatDoor
namespace Go.Proofs.YtajdcjidpolloaaGreatDoor
open Go.RowKit
set_option linter.unusedVariables false
set_option linter.unusedSimpArgs false
set_option maxRecDepth 10000
def hB (v:Int):Bool:=decide (v≤zbu)
theorem zabg {l:List Int} {o:Option Addr} {c:Nat} {w:World} {bs:List Nat} (h:RdI bs w o l) (hl:l.length≤maxLen):zab bs Tryz.prog zbp #[.slice o l.length c] w (.bool (l.all hB)) :=
 z92 o l.length c fun wr hx=>by
  have h:=(h.ext hx).less (cs:=[]) (by simp)
  refine ze7 l.length 0 rfl (fun k=>k≤l.length∧∀j:Nat,j<k→hB (gi l (j:Int))=true) ⟨Nat.zero_le _,fun j hj=>absurd hj (Nat.not_lt_zero j)⟩ fun k ⟨hk,hI⟩=>⟨fun hlt => ?_,fun hge => ?_⟩
  ·have hlt:=of_decide_eq_true hlt
   refine ⟨h.ix zgs (by omega) hlt,_,h k (by omega) hlt,fun g => ?_,fun g=>⟨zfv hlt hl,zai (by omega) ⟨by omega,fun j hj => ?_⟩⟩⟩
   ·have g:=of_decide_eq_true g
    have:l.all hB=false:=by
     cases hb:l.all hB with
     | false=>rfl
     | true =>
      have:=of_decide_eq_true (z5u.1 hb k (by omega))
      simp only [zbu] at this
      omega
    rw [this]
   ·by_cases hjk:j<k
    ·exact hI j hjk
    ·have:j=k:=by omega
     subst this
     have g:=of_decide_eq_false g
     exact decide_eq_true (by simp only [zbu]; omega)
  ·have hge:=of_decide_eq_false hge
   have hk:k=l.length:=by omega
   subst hk
   rw [z5u.2 hI]
theorem er1 {a:Int} {w:World} {b:Nat} {t:TypeId} {fz:Nat×Nat} (h:w.heap[b]? = some (.cells ([.int .i64 a]:List Value).toArray t fz)):zab [] Tryz.prog zbp #[.slice (some ⟨b,0,none⟩) 1 1] w (.bool (hB a)):=by
 have:=zabg (l:=[a]) (c:=1) (bs:=[]) (zpk h (by simp)) (by simp [maxLen])
 simpa using this
theorem er2 {a b2:Int} {w:World} {b:Nat} {t:TypeId} {fz:Nat×Nat} (h:w.heap[b]? = some (.cells ([.int .i64 a,.int .i64 b2]:List Value).toArray t fz)):zab [] Tryz.prog zbp #[.slice (some ⟨b,0,none⟩) 2 2] w (.bool (hB a&&hB b2)):=by
 have:=zabg (l:=[a,b2]) (c:=2) (bs:=[]) (zpk h (by simp)) (by simp [maxLen])
 simpa using this
theorem er3 {a b2 b3:Int} {w:World} {b:Nat} {t:TypeId} {fz:Nat×Nat} (h:w.heap[b]? = some (.cells ([.int .i64 a,.int .i64 b2,.int .i64 b3]:List Value).toArray t fz)):zab [] Tryz.prog zbp #[.slice (some ⟨b,0,none⟩) 3 3] w (.bool (hB a&&(hB b2&&hB b3))):=by
 have:=zabg (l:=[a,b2,b3]) (c:=3) (bs:=[]) (zpk h (by simp)) (by simp [maxLen])
 simpa using this
def okC (W:Wld):Nat→Bool
 | 0=>hB W.now
 | k+1=>okC W k&&(hB (gi W.cpus (k:Int)).busy&&hB (gi W.cpus (k:Int)).idle)
def okT (W:Wld):Nat→Bool
 | 0=>okC W W.cpus.length
 | k+1=>okT W k&&(hB (gi W.tasks (k:Int)).v&&(hB (gi W.tasks (k:Int)).sum&&hB (gi W.tasks (k:Int)).used))
def okS (W:Wld) (g:Int) (b0:Bool):Nat→Bool
 | 0=>b0
 | q+1=>okS W g b0 q&&(hB (shf W g (q:Int)).floor&&(hB (shf W g (q:Int)).v&&hB (shf W g (q:Int)).sum))
def okG (W:Wld):Nat→Bool
 | 0=>okT W W.tasks.length
 | k+1=>okS W (k:Int) (okG W k&&hB (gi W.groups (k:Int)).sum) (gi W.groups (k:Int)).shelves.length
theorem hB_t {v:Int}:hB v=true↔v≤zbu:=decide_eq_true_iff
theorem zamp {W:Wld}:∀k:Nat,okC W k=true↔W.now≤zbu∧∀j:Nat,j<k→(gi W.cpus (j:Int)).busy≤zbu∧(gi W.cpus (j:Int)).idle≤zbu
 | 0=>by simp only [okC,hB_t]; exact ⟨fun h=>⟨h,fun j hj=>by omega⟩,fun h=>h.1⟩
 | k+1=>by
  simp only [okC,Bool.and_eq_true,hB_t,zamp k]
  constructor
  ·rintro ⟨⟨h1,h2⟩,h3⟩
   refine ⟨h1,fun j hj => ?_⟩
   by_cases e:j=k
   ·subst e; exact h3
   ·exact h2 j (by omega)
  ·rintro ⟨h1,h2⟩
   exact ⟨⟨h1,fun j hj=>h2 j (by omega)⟩,h2 k (by omega)⟩
theorem zams {W:Wld}:∀k:Nat,okT W k=true↔okC W W.cpus.length=true∧∀j:Nat,j<k→(gi W.tasks (j:Int)).v≤zbu∧(gi W.tasks (j:Int)).sum≤zbu∧(gi W.tasks (j:Int)).used≤zbu
 | 0=>by simp only [okT]; exact ⟨fun h=>⟨h,fun j hj=>by omega⟩,fun h=>h.1⟩
 | k+1=>by
  simp only [okT,Bool.and_eq_true,hB_t,zams k]
  constructor
  ·rintro ⟨⟨h1,h2⟩,h3⟩
   refine ⟨h1,fun j hj => ?_⟩
   by_cases e:j=k
   ·subst e; exact h3
   ·exact h2 j (by omega)
  ·rintro ⟨h1,h2⟩
   exact ⟨⟨h1,fun j hj=>h2 j (by omega)⟩,h2 k (by omega)⟩
theorem zamr {W:Wld} {g:Int} {b0:Bool}:∀k:Nat,okS W g b0 k=true↔b0=true∧∀j:Nat,j<k→(shf W g (j:Int)).floor≤zbu∧(shf W g (j:Int)).v≤zbu∧(shf W g (j:Int)).sum≤zbu
 | 0=>by simp only [okS]; exact ⟨fun h=>⟨h,fun j hj=>by omega⟩,fun h=>h.1⟩
 | k+1=>by
  simp only [okS,Bool.and_eq_true,hB_t,zamr k]
  constructor
  ·rintro ⟨⟨h1,h2⟩,h3⟩
   refine ⟨h1,fun j hj => ?_⟩
   by_cases e:j=k
   ·subst e; exact h3
   ·exact h2 j (by omega)
  ·rintro ⟨h1,h2⟩
   exact ⟨⟨h1,fun j hj=>h2 j (by omega)⟩,h2 k (by omega)⟩
theorem zamq {W:Wld}:∀k:Nat,okG W k=true↔okT W W.tasks.length=true∧∀j:Nat,j<k→(gi W.groups (j:Int)).sum≤zbu∧∀q:Nat,q<(gi W.groups (j:Int)).shelves.length→(shf W (j:Int) (q:Int)).floor≤zbu∧(shf W (j:Int) (q:Int)).v≤zbu∧(shf W (j:Int) (q:Int)).sum≤zbu
 | 0=>by simp only [okG]; exact ⟨fun h=>⟨h,fun j hj=>by omega⟩,fun h=>h.1⟩
 | k+1=>by
  simp only [okG,zamr,Bool.and_eq_true,hB_t,zamq k]
  constructor
  ·rintro ⟨⟨⟨h1,h2⟩,h3⟩,h4⟩
   refine ⟨h1,fun j hj => ?_⟩
   by_cases e:j=k
   ·subst e; exact ⟨h3,h4⟩
   ·exact h2 j (by omega)
  ·rintro ⟨h1,h2⟩
   exact ⟨⟨⟨h1,fun j hj=>h2 j (by omega)⟩,(h2 k (by omega)).1⟩,(h2 k (by omega)).2⟩
theorem zalo (W:Wld):okG W W.groups.length=zs5 W:=by
 have key:okG W W.groups.length=true↔z79 W:=by
  rw [zamq,zams,zamp]
  constructor
  ·rintro ⟨⟨⟨h1,h2⟩,h3⟩,h4⟩
   have e:∀{i:Int},0≤i→((i.toNat:Nat):Int)=i:=fun h=>by omega
   refine ⟨h1,fun c a b => ?_,fun c a b => ?_,fun c a b => ?_,fun k c a b c0 c1 => ?_⟩
   ·have:=h2 c.toNat (by omega); rwa [e a] at this
   ·have:=h3 c.toNat (by omega); rwa [e a] at this
   ·have:=(h4 c.toNat (by omega)).1; rwa [e a] at this
   ·have:=(h4 k.toNat (by omega)).2 c.toNat (by rw [e a]; omega); rwa [e a,e c0] at this
  ·intro r
   exact ⟨⟨⟨r.n,fun j hj=>r.c (j:Int) (by omega) (by omega)⟩,fun j hj=>r.t (j:Int) (by omega) (by omega)⟩,fun j hj=>⟨r.g (j:Int) (by omega) (by omega),fun q hq=>r.s (j:Int) (q:Int) (by omega) (by omega) (by omega) (by omega)⟩⟩
 unfold zs5
 cases hb:decB (z79 W) with
 | true=>exact key.2 (zb9.1 hb)
 | false =>
  cases ho:okG W W.groups.length with
  | false=>rfl
  | true=>exact absurd (key.1 ho) (zvc.1 hb)
theorem zab3 {a b:Bool} (h:a=true→False):(a&&b)=false:=by
 cases a with
 | false=>rfl
 | true=>exact (h rfl).elim
def zakt (I:Bool→Nat→Prop) (vs:List Value):Prop:=∃(x:Bool) (k:Nat),I x k∧vs=[.bool x,.int .i64 (k:Int)]
theorem zai6 {B:(List Value→Prop)→(List Value→Nat)→Bool→Int→Prop} (n:Nat) {xi:Bool} {si:Int} (s:Nat) (hs:si=s) (I:Bool→Nat→Prop) (h0:I xi s)
  (hB:∀(x:Bool) (k:Nat),I x k→B (zakt I) (cntM n 1) x (k:Int)) :
  ∃(xInv:List Value→Prop) (mu:List Value→Nat),xInv [.bool xi,.int .i64 si]∧∀(x:Bool) (i:Int),xInv [.bool x,.int .i64 i]→B xInv mu x i:=by
 refine ⟨zakt I,cntM n 1,⟨xi,s,h0,by rw [hs]⟩,?_⟩
 rintro x i ⟨x',k,hI,he⟩
 simp only [List.cons.injEq,Value.int.injEq,Value.bool.injEq,true_and,and_true] at he
 obtain ⟨rfl,rfl⟩:=he
 exact hB x k hI
theorem zgu {n k:Nat} {I:Bool→Nat→Prop} {x x':Bool} (hk:k<n) (hI:I x' (k+1)):zakt I [.bool x',.int .i64 ((k:Int)+1)]∧cntM n 1 [.bool x',.int .i64 ((k:Int)+1)]<cntM n 1 [.bool x,.int .i64 (k:Int)]:=by
 refine ⟨⟨x',k+1,hI,by simp⟩,?_⟩
 simp only [cntM,zcw,List.getElem?_cons_zero,List.getElem?_cons_succ]
 omega
section
variable {W:Wld} {m:MW} {w:World} {bs:List Nat} {p:Option Addr}
theorem z9i (h:WPt bs w p W m) (ha:WA W):zab bs Tryz.prog zg6 #[.pointer p] w (.bool (zs5 W)):=by
 rw [←zalo]
 refine zun p fun wr hx => ?_
 have h:=(h.ext hx).less (cs:=[]) (by simp)
 have htl:=ha.t
 have hgl:=ha.gl
 have hcl:=ha.c2
 refine ⟨h.some,_,h.now,fun b hb=>⟨hB W.now,fun wx _ hc=>er1 hc,h.some,_,_,_,h.cpus,?_⟩⟩
 refine zai6 W.cpus.length 0 rfl (fun x k=>k≤W.cpus.length∧x=okC W k) ⟨Nat.zero_le _,rfl⟩ fun x k ⟨hk,hx1⟩=>⟨fun hlt => ?_,fun hge => ?_⟩
 ·have hlt:=of_decide_eq_true hlt
  refine ⟨h.rd.c.ix zf2 (by omega) hlt,_,_,_,_,_,h.rd.c k (by omega) hlt,fun b1 hb1=>⟨fun _ b2 hb2=>⟨_,fun _ wx _ hc=>er2 hc,⟨by omega,by omega⟩,zgu (by omega) ⟨by omega,by rw [hx1]; rfl⟩⟩,fun hn=>⟨⟨by omega,by omega⟩,zgu (by omega) ⟨by omega,?_⟩⟩⟩⟩
  simp only [okC]; rw [←hx1,zab3 hn]
 have hge:=of_decide_eq_false hge
 have hkk:k=W.cpus.length:=by omega
 subst hkk
 refine ⟨h.some,_,_,_,h.tasks,?_⟩
 refine zai6 W.tasks.length 0 rfl (fun x k=>k≤W.tasks.length∧x=okT W k) ⟨Nat.zero_le _,hx1⟩ fun x k ⟨hk,hx1⟩=>⟨fun hlt => ?_,fun hge => ?_⟩
 ·have hlt:=of_decide_eq_true hlt
  refine ⟨h.rd.t.ix zbb (by omega) hlt,_,_,_,_,_,_,_,_,_,h.rd.t k (by omega) hlt,fun b1 hb1=>⟨fun _ b2 hb2=>⟨_,fun _ wx _ hc=>er3 hc,⟨by omega,by omega⟩,zgu (by omega) ⟨by omega,by rw [hx1]; rfl⟩⟩,fun hn=>⟨⟨by omega,by omega⟩,zgu (by omega) ⟨by omega,?_⟩⟩⟩⟩
  simp only [okT]; rw [←hx1,zab3 hn]
 have hge:=of_decide_eq_false hge
 have hkk:k=W.tasks.length:=by omega
 subst hkk
 refine ⟨h.some,_,_,_,h.groups,?_⟩
 refine zai6 W.groups.length 0 rfl (fun x k=>k≤W.groups.length∧x=okG W k) ⟨Nat.zero_le _,hx1⟩ fun x k ⟨hk,hx1⟩=>⟨fun hlt => ?_,fun hge => ?_⟩
 ·have hlt:=of_decide_eq_true hlt
  have hsl:(gi W.groups (k:Int)).shelves.length≤4:=(zr8 ha (k:=(k:Int)) (by omega) (by omega)).2.2
  have hrs:=h.rd.g.shelves (k:Int) (by omega) hlt
  rw [Int.toNat_natCast] at hrs
  have inner:∀{b0:Bool},b0=(okG W k&&hB (gi W.groups (k:Int)).sum)→∃(xInv:List Value→Prop) (mu:List Value→Nat),xInv [.bool b0,.int .i64 0]∧∀(ok3:Bool) (x14:Int),xInv [.bool ok3,.int .i64 x14] →
    ((decide (x14<(((gi W.groups (k:Int)).shelves.length:Nat):Int)))=true →
     Ix (m.ms k).sO (gi W.groups (k:Int)).shelves.length x14 ∧
     (∃(x03:Int) (x15:Bool) (x23:Int) (x33:Int) (x43:Int),
     zaa [] wr (m.ms k).sO (Int.toNat x14*5) [.int .i64 x03,.bool x15,.int .i64 x23,.int .i64 x33,.int .i64 x43] ∧
     (∀b7,wr.heap.size≤b7 →
     (ok3=true→(∀b8,wr.heap.size≤b8 →
     (∃(early4:Bool),
     (ok3=true→(∀wx4,ExtX [] wr wx4→wx4.heap[b8]? = some (Obj.cells ([.int .i64 x03,.int .i64 x23,.int .i64 x43]:List Value).toArray ty_int (0,0))→zab [] Tryz.prog zbp #[.slice (some (Addr.mk b8 0 none)) 3 3] wx4 (.bool early4))) ∧
     InR .i64 (x14+1) ∧
     xInv [.bool (ok3&&early4),.int .i64 (x14+1)]∧mu [.bool (ok3&&early4),.int .i64 (x14+1)]<mu [.bool ok3,.int .i64 x14]))) ∧
     ((ok3=true→False) →
     InR .i64 (x14+1) ∧
     xInv [.bool false,.int .i64 (x14+1)]∧mu [.bool false,.int .i64 (x14+1)]<mu [.bool ok3,.int .i64 x14])))) ∧
    ((decide (x14<(((gi W.groups (k:Int)).shelves.length:Nat):Int)))=false→ok3=okG W (k+1)):=fun {b0} hb0=>by
   refine zai6 (gi W.groups (k:Int)).shelves.length 0 rfl (fun x q=>q≤(gi W.groups (k:Int)).shelves.length∧x=okS W (k:Int) (okG W k&&hB (gi W.groups (k:Int)).sum) q) ⟨Nat.zero_le _,hb0⟩ fun x q ⟨hq,hx2⟩=>⟨fun hlt2 => ?_,fun hge2 => ?_⟩
   ·have hlt2:=of_decide_eq_true hlt2
    refine ⟨hrs.ix zej (by omega) hlt2,_,_,_,_,_,hrs q (by omega) hlt2,fun b7 hb7=>⟨fun _ b8 hb8=>⟨_,fun _ wx _ hc=>er3 hc,⟨by omega,by omega⟩,zgu (by omega) ⟨by omega,by rw [hx2]; rfl⟩⟩,fun hn=>⟨⟨by omega,by omega⟩,zgu (by omega) ⟨by omega,?_⟩⟩⟩⟩
    simp only [okS]; rw [←hx2,zab3 hn]
   ·have hge2:=of_decide_eq_false hge2
    have:q=(gi W.groups (k:Int)).shelves.length:=by omega
    rw [hx2,this]; rfl
  refine ⟨h.rd.g.ix (by omega) hlt,_,_,_,_,_,_,_,_,_,_,_,_,_,_,_,_,_,_,_,_,h.rd.g.cells (k:Int) (by omega) hlt,fun b5 hb5=>⟨fun _ b6 hb6=>⟨hB (gi W.groups (k:Int)).sum,fun _ wx _ hc=>er1 hc,?_⟩,fun hn => ?_⟩⟩
  ·obtain ⟨xI,mu,h0,hI⟩:=inner (b0:=x&&hB (gi W.groups (k:Int)).sum) (by rw [hx1])
   refine ⟨xI,mu,h0,fun ok3 x14 hi=>⟨(hI ok3 x14 hi).1,fun hge2=>⟨⟨by omega,by omega⟩,?_⟩⟩⟩
   have e:=(hI ok3 x14 hi).2 hge2
   exact zgu (by omega) ⟨by omega,e⟩
  ·obtain ⟨xI,mu,h0,hI⟩:=inner (b0:=false) (by rw [←hx1,zab3 hn])
   refine ⟨xI,mu,h0,fun ok3 x14 hi=>⟨(hI ok3 x14 hi).1,fun hge2=>⟨⟨by omega,by omega⟩,?_⟩⟩⟩
   have e:=(hI ok3 x14 hi).2 hge2
   exact zgu (by omega) ⟨by omega,e⟩
 ·have hge:=of_decide_eq_false hge
  have hkk:k=W.groups.length:=by omega
  subst hkk
  rw [hx1]
end
end Go.Proofs.YtajdcjidpolloaaGreatDoor
namespace Go.Proofs.YtajdcjidpolloaaGreatDoor
open Go.RowKit
set_option linter.unusedVariables false
set_option linter.unusedSimpArgs false
set_option maxRecDepth 10000
def ztf (w:World):Prop:=w.cell? ⟨0,0,none⟩=some (.iface 189 (.agg #[.pointer (some ⟨1,60,none⟩)]))
theorem ztf.ext {w w':World} (h:ztf w) (hx:ExtX [] w w'):ztf w':=by
 have hlt:0<w.heap.size:=by
  rcases Nat.eq_zero_or_pos w.heap.size with h0 | h1
  ·unfold ztf at h; simp [World.cell?,h0] at h
  ·exact h1
 have hb:=hx.block 0 hlt (by simp)
 unfold ztf at h ⊢
 unfold World.cell? at h ⊢
 dsimp only at h ⊢
 rw [hb]
 exact h
theorem zak9 (t:Value) (w:World):Calls Tryz.prog zop #[.nilIface,t] w fun e w'=>e = .returned (.bool false)∧ExtX [] w w':=(zama t w).mono fun e w' ⟨he,hw⟩=>⟨he,by rw [hw]; exact ExtX.refl _ _⟩
theorem zair {n:Int} {t:Nat} {old:Int} {w:World} {ty:TypeId} (hg:ztf w) (ht:w.heap[t]? = some (.cells ([.int .i64 old]:List Value).toArray ty (0,0))) :
  Calls Tryz.prog zop #[.iface za5 (.agg #[.int .i64 n]),.iface zd7 (.pointer (some ⟨t,0,none⟩))] w fun e w'=>e = .returned (.bool true)∧w'.heap[t]? = some (.cells ([.int .i64 n]:List Value).toArray ty (0,0))∧ExtX [t] w w':=by
 refine (zal8 n ⟨t,0,none⟩ (.int .i64 old) w hg (by rw [zjr ht]; rfl) (by simp [World.frozen?,ht])).mono fun e w' ⟨he,hw⟩=>⟨he,?_⟩
 subst hw
 have hx:=(((((ExtX.refl [] w).alloc (.cells #[.pointer (some ⟨t,0,none⟩)] zd7)).alloc (.cells #[.pointer (some ⟨1,zd7,none⟩),.pointer (some ⟨w.heap.size,0,none⟩),.int .u64 150] zer)).alloc (.cells #[.pointer (some ⟨1,zd7,none⟩),.pointer (some ⟨w.heap.size,0,none⟩),.int .u64 150] zer)).alloc (.cells #[.int .i64 n] za5))
 have hb:=zan ht hx (by simp)
 refine ⟨?_,?_⟩
 ·have:=zo9 (k:=0) (n:=0) (vs:=[.int .i64 n]) hb
  exact this
 ·exact hx.of_nil.setCell (p:=⟨t,0,none⟩) (.inr (by simp)) _
structure Done (base pb:Nat) (ex:List Nat) (w:World) (m:MW) (w':World) (W':Wld) (m':MW):Prop where
 own:MWd 8 base w' W' m'
 pt:w'.heap[pb]? = some (.cells (encW W' m').toArray zaz (0,0))
 ext:ExtX (ex++(pb::za3 8 m)) w w'
 sub:∀x∈za3 8 m',x∈za3 8 m∨w.heap.size≤x
theorem Mp.done {base pb:Nat} {ex:List Nat} {w w':World} {W':Wld} {m m':MW} (h:Mp base pb [] w m w' W' m'):Done base pb ex w m w' W' m' :=
 ⟨h.v.own,h.pt,h.v.ext.mono fun x hx=>List.mem_append_right _ (List.mem_cons_of_mem _ hx),h.v.sub⟩
def AnsE (ex:List Nat) (r:Wld×Int) (w:World) (v:Value) (w':World):Prop:=∃n m',v = .tuple #[.agg (encW r.1 m').toArray,.int .i64 r.2]∧MWd n w.heap.size w' r.1 m'∧ExtX ex w w'
section
variable {W W':Wld} {m:MW} {w:World} {bar:Int}
theorem zadq {cf:Fn} {ca ck:Array Value} (ex:List Nat) (P:World→Prop) (hP:∀(a b:World) (bs:List Nat),P a→ExtX bs a b→(∀x∈bs,w.heap.size≤x)→P b) (hex:∀x∈ex,x<w.heap.size) (hz:0∉ex) (h:RdW [] w W m) (hr:∀x∈ex,∀w1,ExtX ex w w1→RdW [] w1 W m) (hl:LenW W) (hg:ztf w)
  (hcall:∀(w1:World) (pb:Nat) (m1:MW),zcq W=true→ExtX [] w w1→w.heap.size≤pb→PW w.heap.size pb w1 W m1 →
   zm0 Tryz.prog (.func cf ca ck) [.pointer (pA pb)] w1 fun e w2=>(bar≠0∧e = .returned (.iface za5 (.agg #[.int .i64 bar]))∧ExtX [] w1 w2)∨(bar=0∧e = .returned .nilIface∧P w2∧∃m2,Done w.heap.size pb ex w1 m1 w2 W' m2)) :
  Calls Tryz.prog zg7 #[.agg (encW W m).toArray,.func cf ca ck] w fun e w'=>∃v,e = .returned v∧AnsE ex (ansD W bar W') w v w'∧(zcq W=true→bar=0→P w')∧(zcq W=false∨bar≠0→ExtX [] w w'):=by
 refine z2a W.now m.cO W.cpus.length m.cC m.tO W.tasks.length m.tC m.gO W.groups.length m.gC cf ca ck (R:=fun v w'=>AnsE ex (ansD W bar W') w v w'∧(zcq W=true→bar=0→P w')∧(zcq W=false∨bar≠0→ExtX [] w w')) ?_
 intro x hx x1 hx1
 refine ⟨_,z2l h hl.c hl.g hl.f,fun g wr hx2 => ?_,fun g wr1 hx2 hs1 => ?_⟩
 ·have hW:zcq W=false:=by simpa using g
  refine ⟨?_,fun hw=>(by rw [hW] at hw; cases hw),fun _=>hx2⟩
  rw [zaer hW]
  exact ⟨0,noM,rfl,MWd.zero _ _,hx2.of_nil⟩
 have hW:zcq W=true:=by simpa using g
 have wp:=zb9.1 hW
 have s1:Sc w [x,x1] wr1:=(((Sc.start w).add hx).add hx1).call0 hx2
 refine Calls.mono (zz1 (h.ext hx2) wp.a) ?_
 rintro e wv ⟨m1,he,hM1,hy1⟩
 have s2:=s1.call0 hy1
 have hO2:=(OW.of hM1 hs1).mono hx2.size
 refine ⟨_,_,_,_,_,_,_,_,_,_,he,za9 hy1 hs1,fun b2 wb hxb hb2 hcb hn2 => ?_⟩
 have s3:=s2.step hxb
 have hO3:=hO2.step hxb
 have hb2w:w.heap.size≤b2:=Nat.le_trans s2.ext.size hb2
 have hp2:b2∉za3 8 m1:=fun hm=>by
  have:=(hO2.own.lt b2 hm).2
  omega
 refine ⟨zpc (k0:=0) hcb hn2 (by simp),fun b3 wb1 hxb1 hb3 hcb1 hn3 => ?_⟩
 have hst:=zo9 (k:=0) (n:=0) (vs:=encW W m1) hcb
 have hstx:ExtX [b2] wb (sto wb (some ⟨b2,0,none⟩) 0 (encW W m1)):=zh2 fun a ha=>by cases ha; simp
 have hO4 := (hO3.call hstx fun y hy hm => hp2 (by have:y=b2:=by simpa using hm
                                                   exact this▸hy)).step hxb1
 have s4 := (s3.call hstx fun y hy => by have:y=b2:=by simpa using hy
                                         omega).step hxb1
 have hpt4:wb1.heap[b2]? = some (.cells (encW W m1).toArray zaz (0,0)):=zan hst hxb1 hn2
 have hb23:b2≠b3:=fun e=>by
  have:=zjn hst
  have hb3':(sto wb (some ⟨b2,0,none⟩) 0 (encW W m1)).heap.size≤b3:=hb3
  omega
 have hb3w:w.heap.size≤b3:=by
  have h1:=hstx.size
  have h2:=s3.ext.size
  have hb3':(sto wb (some ⟨b2,0,none⟩) 0 (encW W m1)).heap.size≤b3:=hb3
  omega
 intro wr2 hx4 hs2
 have hO5:=hO4.step hx4
 have s5:=s4.step hx4
 have hpt5:=zan hpt4 hx4 hn2
 have hc5:=zan hcb1 hx4 hn3
 refine zm0.mono (hcall wr2 b2 m1 hW s5.ext hb2w ⟨hO5.own,hpt5,hp2⟩) ?_
 rintro e1 wv1 (⟨hb0,he1,hy⟩ | ⟨hb0,he1,hPw,m2,hD⟩)
 ·
  refine ⟨_,he1,za9 hy hs2,fun wr3 hx5 hs3 => ?_⟩
  have s6:=(s5.call0 hy).step hx5
  have hc6:=zan (zan hc5 hy (by simp)) hx5 hn3
  refine Calls.mono (zair (hg.ext s6.ext) hc6) ?_
  rintro e2 wv2 ⟨he2,hc7,hy2⟩
  have s7 := s6.call hy2 fun y hy => by have:y=b3:=by simpa using hy
                                        omega
  have hcell:∀{w9:World},ExtX [x,x1] wv2 w9→zaa [x,x1] w9 (some ⟨b3,0,none⟩) (0+0) [.int .i64 bar]:=fun h9=>zkj (zan hc7 h9 hn3) hn3 (k0:=0) rfl
  refine ⟨true, he2, zjz hy2 hs3 (fun y hm hm' => by have:y=b3:=by simpa using hm
                                                     exact hn3 (this▸hm')),fun _=>⟨bar,hcell (ExtX.refl _ _),fun wr4 hx6 hs4 => ?_⟩,fun g=>by cases g⟩
  have s8:=s7.step hx6
  refine Calls.mono (zz1 (h.ext s8.ext) wp.a) ?_
  rintro e3 wv3 ⟨m3,he3,hM3,hy3⟩
  have s9:=s8.call0 hy3
  have hO9:=(OW.of hM3 hs4).mono s8.ext.size
  have hc9:zaa [x,x1] wv3 (some ⟨b3,0,none⟩) (0+0) [.int .i64 bar]:=zkj (zan (zan hc7 hx6 hn3) hy3 (by simp)) hn3 (k0:=0) rfl
  refine ⟨_,_,_,_,_,_,_,_,_,_,he3,za9 hy3 hs4,hc9,hc9,fun wr5 hx7=>⟨?_,fun _ hb=>absurd hb hb0,fun _=>(s9.step hx7).ext⟩⟩
  rw [zaes hW hb0]
  exact ⟨8,m3,rfl,(hO9.step hx7).own,(s9.step hx7).ext.of_nil⟩
 ·
  have hpbs:∀y∈ex++(b2::za3 8 m1),y∉[x,x1]:=fun y hy hm=>by
   rcases List.mem_append.1 hy with h1 | h1
   ·have:=hex y h1
    have:=s1.new y hm
    omega
   ·rcases List.mem_cons.1 h1 with h1 | h1
    ·subst h1; exact hn2 hm
    ·exact hO5.nb y h1 hm
  refine ⟨_,he1,zjz hD.ext hs2 hpbs,fun wr3 hx5 hs3 => ?_⟩
  refine Calls.mono (zak9 _ _) ?_
  rintro e2 wv2 ⟨he2,hy2⟩
  have hnb2:∀y∈za3 8 m2,y∉[x,x1]:=fun y hy hm=>by
   rcases hD.sub y hy with h1 | h1
   ·exact hO5.nb y h1 hm
   ·have:=hs2 y hm
    omega
  have hM7:=((hD.own.ext hx5 hnb2).ext0 hy2)
  have hpt7:=zan (zan hD.pt hx5 hn2) hy2 (by simp)
  have hX2:ExtX ex w wv1:=s5.ext.of_nil.fresh hD.ext fun y hy=>by
   rcases List.mem_append.1 hy with h1 | h1
   ·exact .inr h1
   ·refine .inl ?_
    rcases List.mem_cons.1 h1 with h1 | h1
    ·omega
    ·exact (hO5.own.lt y h1).1
  have hX3:ExtX ex w wv2:=(hX2.fresh hx5 fun y hy=>.inl (s1.new y hy)).trans hy2.of_nil
  refine ⟨false,he2,za9 hy2 hs3,fun g=>(by cases g),fun _=>⟨_,_,_,_,_,_,_,_,_,_,zj4 hpt7 hn2 (k0:=0) (n:=0) fun j v hj=>by simpa [encW] using hj,fun wr6 hx6=>⟨?_,fun _ _ => ?_,fun hn => ?_⟩⟩⟩
  ·rw [zaj2 hW hb0]
   exact ⟨8,m2,rfl,hM7.ext hx6 hnb2,hX3.fresh hx6 fun y hy=>.inl (s1.new y hy)⟩
  ·exact hP _ _ _ (hP _ _ _ (hP _ _ _ hPw hx5 s1.new) hy2 (by simp)) hx6 s1.new
  ·rcases hn with h1 | h1
   ·rw [hW] at h1; cases h1
   ·exact absurd hb0 h1
theorem zafq {cf:Fn} {ca ck:Array Value} (h:RdW [] w W m) (hl:LenW W) (hg:ztf w)
  (hcall:∀(w1:World) (pb:Nat) (m1:MW),zcq W=true→ExtX [] w w1→w.heap.size≤pb→PW w.heap.size pb w1 W m1 →
   zm0 Tryz.prog (.func cf ca ck) [.pointer (pA pb)] w1 fun e w2=>(bar≠0∧e = .returned (.iface za5 (.agg #[.int .i64 bar]))∧ExtX [] w1 w2)∨(bar=0∧e = .returned .nilIface∧∃m2,Done w.heap.size pb [] w1 m1 w2 W' m2)) :
  Calls Tryz.prog zg7 #[.agg (encW W m).toArray,.func cf ca ck] w fun e w'=>∃v,e = .returned v∧AnsW (ansD W bar W') w v w' :=
 (zadq [] (fun _=>True) (fun _ _ _ _ _ _=>trivial) (by simp) (by simp) h (by simp) hl hg fun w1 pb m1 a b c d=>(hcall w1 pb m1 a b c d).mono fun e w2 hh=>by
  rcases hh with h1 | ⟨h1,h2,h3⟩
  ·exact .inl h1
  ·exact .inr ⟨h1,h2,trivial,h3⟩).mono fun e w' ⟨v,he,hA,_⟩=>⟨v,he,hA⟩
end
end Go.Proofs.YtajdcjidpolloaaGreatDoor
