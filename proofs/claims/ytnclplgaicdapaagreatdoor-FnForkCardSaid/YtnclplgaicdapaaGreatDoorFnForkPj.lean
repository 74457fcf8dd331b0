/- Part 10 of what the law FnFork needs. -/
import Derived.Test.YtnclplgaicdapaaGreatDoorFnForkPi
import Derived.LaidEql
import Derived.Stop.Asserts
import Derived.RowKitTokens
set_option linter.unusedVariables false
set_option linter.unusedSimpArgs false
set_option maxRecDepth 100000
set_option maxHeartbeats 8000000
namespace Go.Proofs.YtnclplgaicdapaaGreatDoor
open Go.RowKit
section
open Go.RowKit Go.Extern.Stop Go.Stop Go.Extern
theorem z0q(t:Va)(w:Wo) :
  Cz 173 #[.nilIface,t] w λe w'=>e=.returned (.bool false)/\w'=w:=by
 go_enter Tryz.func173,Tryz.ntmps173
 go_wp2
 go_ret
 exact⟨rfl,rfl⟩
theorem zk9(t:Addr)(w:Wo):(ReflectliteValue.unpack (.iface 130 (.pointer (some t)))).run Tryz.prog w
  = .ok (.agg #[.pointer (some ⟨1,130,none⟩),.pointer (some ⟨w.heap.size,0,none⟩),.int .u64 150]) (w.alloc (.cells #[.pointer (some t)] 130)):=Qk
theorem zuc (a : Addr) (w : World) : (ReflectliteValue.methodAny (ReflectliteValue.valueError "reflectlite.Value.Type" 0) (λt _ _ _ => ReflectliteType.toType t) #[.agg #[.pointer (some ⟨1, 130, none⟩), .pointer (some a), .int .u64 150]]).run Tryz.prog w
  = .ok (.iface 174 (.agg #[.pointer (some ⟨1,130,none⟩)])) w:=Qk
theorem zff (h : Value) (w : World) : (Go.method 343 174 (.agg #[h]) "Kind").run Tryz.prog w = .ok (296, h) w := by kernel_rfl
theorem zt9(w:Wo):((ReflectliteType.abiMethod λt=>(λa:Nat=>Value.int IntKind.u8 (a:Int)) <$> Rtype.kind t) #[.pointer (some ⟨1,130,none⟩)]).run Tryz.prog w=.ok (.int .u8 22) w:=Qk
theorem zt8(w:Wo):((ReflectliteType.abiMethod λt=>(λa:Nat=>Value.int IntKind.u8 (a:Int)) <$> Rtype.kind t) #[.pointer (some ⟨1,69,none⟩)]).run Tryz.prog w=.ok (.int .u8 25) w:=Qk
theorem zub(z:Sem Va)(f:TypeId->Addr->Nat->Nat->Sem Va)(v:Va) :
  ReflectliteValue.method z f #[v]=(do match <-ReflectliteValue.parts v with | none=>z | some (t,a,fl)=>f t a fl (fl % 32)):=rfl
theorem zg2(a:Addr)(w:Wo):(ReflectliteValue.parts (.agg #[.pointer (some ⟨1,130,none⟩),.pointer (some a),.int .u64 150])).run Tryz.prog w=.ok (some (130,a,150)) w:=Qk
theorem zg3:Tryz.prog.underlying 130=some (.pointer 69):=Qk
theorem zrn (a p:Addr) (W:Wo) (ha:W.cell? a=some (.pointer (some p))) :
  (ReflectliteValue.method (ReflectliteValue.valueError "reflectlite.Value.IsNil" 0) ReflectliteValue.isNil #[.agg #[.pointer (some ⟨1, 130, none⟩), .pointer (some a), .int .u64 150]]).run Tryz.prog W = .ok (.bool false) W := by
 rw[zub]
 simp only[Sem.run_bind,zg2,Result.andThen]
 simp[ReflectliteValue.isNil,loadVar,isAgg,underlying,zg3,ha,Result.andThen]
theorem zfe (h : Value) (w : World) : (Go.method 343 174 (.agg #[h]) "Elem").run Tryz.prog w = .ok (314, .agg #[h]) w := by kernel_rfl
theorem HD (h : Value) (w : World) : (Go.method 343 174 (.agg #[h]) "Implements").run Tryz.prog w = .ok (315, .agg #[h]) w := by kernel_rfl
theorem LB (h : Value) (w : World) : (Go.method 343 174 (.agg #[h]) "AssignableTo").run Tryz.prog w = .ok (312, .agg #[h]) w := by kernel_rfl
theorem zt6(w:Wo):(ReflectliteType.method ReflectliteType.elem #[.agg #[.pointer (some ⟨1,130,none⟩)]]).run Tryz.prog w=.ok (.iface 174 (.agg #[.pointer (some ⟨1,69,none⟩)])) w:=Qk
theorem zt7 (w : World) : (ReflectliteType.relation "Implements" ReflectliteType.implements_ #[.agg #[.pointer (some ⟨1, 69, none⟩)], .iface 174 (.agg #[.pointer (some ⟨1, 67, none⟩)])]).run Tryz.prog w = .ok (.bool true) w := by kernel_rfl
theorem zny(v:Va)(w:Wo):(ReflectliteType.typeOf #[.iface 69 v]).run Tryz.prog w=.ok (.iface 174 (.agg #[.pointer (some ⟨1,69,none⟩)])) w:=Qk
theorem znu (w : World) : (ReflectliteType.relation "AssignableTo" ReflectliteType.assignableTo #[.agg #[.pointer (some ⟨1, 69, none⟩)], .iface 174 (.agg #[.pointer (some ⟨1, 69, none⟩)])]).run Tryz.prog w = .ok (.bool true) w := by kernel_rfl
theorem zk8(n:Int)(w:Wo):(ReflectliteValue.unpack (.iface 69 (.agg #[I n]))).run Tryz.prog w
  = .ok (.agg #[.pointer (some ⟨1,69,none⟩),.pointer (some ⟨w.heap.size,0,none⟩),.int .u64 153]) (w.alloc (.cells #[I n] 69)):=Qk
theorem znw(w:Wo):(Rtype.elem? 130).run Tryz.prog w=.ok (some 69) w:=Qk
theorem z0p(p:Addr)(w:Wo):(ReflectliteValue.mk 69 p ReflectliteValue.flagAddr).run Tryz.prog w=.ok (.agg #[.pointer (some ⟨1,69,none⟩),.pointer (some p),.int .u64 409]) w:=Qk
theorem zrm (a p:Addr) (W:Wo) (ha:W.cell? a=some (.pointer (some p))) :
  (ReflectliteValue.method (ReflectliteValue.valueError "reflectlite.Value.Elem" 0) ReflectliteValue.elem #[.agg #[.pointer (some ⟨1, 130, none⟩), .pointer (some a), .int .u64 150]]).run Tryz.prog W
   = .ok (.agg #[.pointer (some ⟨1,69,none⟩),.pointer (some p),.int .u64 409]) W:=by
 rw[zub]
 simp only[Sem.run_bind,zg2,Result.andThen]
 simp[ReflectliteValue.elem,loadVar,isAgg,underlying,zg3,ha,Result.andThen,znw,z0p]
theorem znx(a:Addr)(w:Wo):(ReflectliteValue.parts (.agg #[.pointer (some ⟨1,69,none⟩),.pointer (some a),.int .u64 409])).run Tryz.prog w=.ok (some (69,a,409)) w:=Qk
theorem zro(a:Addr)(w:Wo):(ReflectliteValue.parts (.agg #[.pointer (some ⟨1,69,none⟩),.pointer (some a),.int .u64 153])).run Tryz.prog w=.ok (some (69,a,153)) w:=Qk
theorem znv(w:Wo):(Rtype.directlyAssignable 69 69).run Tryz.prog w=.ok true w:=Qk
theorem z0r (v x:Va):ReflectliteValue.set #[v,x]=(do
  let (some (dst,a,fl),some (src,b,_)):=(<-ReflectliteValue.parts v,<-ReflectliteValue.parts x)
   | unsupported (.noEntry "extern/(internal/reflectlite.Value).Set.zeroValue")
  if fl / ReflectliteValue.flagAddr % 2 == 0 then unsupported (.noEntry "extern/(internal/reflectlite.Value).Set.unaddressable")
  let val <-loadVar src b
  if <-Rtype.directlyAssignable dst src then storeVar dst a val
  else if <-Rtype.implements dst src then
   if (<-Rtype.kind src)==20 then
    match val with
    | .nilIface => unsupported (.noEntry "extern/reflectlite: a nil value of one interface type handed on as a value of another")
    | _=>storeVar dst a val
   else storeVar dst a (.iface src val)
  else panicString ("reflectlite.Set: value of type " ++ (← Rtype.spelt src) ++ " is not assignable to type " ++ (← Rtype.spelt dst))
  pure (.tuple #[])):=rfl
theorem zxp(w:Wo):(isAgg 69).run Tryz.prog w=.ok true w:=Qk
theorem zk7(w:Wo):(sizeOf 69).run Tryz.prog w=.ok 1 w:=Qk
theorem zua(b:Addr)(n:Int)(W:Wo)(hb:W.cell? b=some (I n)):(loadVar 69 b).run Tryz.prog W=.ok (.agg #[I n]) W:=by
 unfold loadVar;simp only[Sem.run_bind,zxp,Result.andThen,if_true];simp only[Sem.run_bind,zk7,Result.andThen];have e:b.add 0=b:=by cases b; rfl
 simp[loadCells,loadCellsFrom,e,hb,Result.andThen]
theorem zxq(ta b:Addr)(n:Int)(old:Va)(W:Wo)(hb:W.cell? b=some (I n))(ht:W.cell? ta=some old)(hf:W.frozen? ta=false) :
  (ReflectliteValue.set #[.agg #[.pointer (some ⟨1,69,none⟩),.pointer (some ta),.int .u64 409],.agg #[.pointer (some ⟨1,69,none⟩),.pointer (some b),.int .u64 153]]).run Tryz.prog W
   = .ok (.tuple #[]) (W.setCell ta (I n)):=by
 rw[z0r];simp only[Sem.run_bind,znx,zro,Result.andThen];have e:ta.add 0=ta:=by cases ta; rfl
 simp[ReflectliteValue.flagAddr,zua b n W hb,Result.andThen,znv,storeVar,zk7,Value.cells,storeCells,e];rw[run_store Tryz.prog W ta _ _ (by rfl)];simp[ht,hf]
set_option maxHeartbeats 4000000 in
theorem z0o (n:Int) (t:Addr) (old:Va) (w:Wo) (hg:w.cell? ⟨0,0,none⟩=some (.iface 174 (.agg #[.pointer (some ⟨1,67,none⟩)]))) (ht0:w.cell? t=some old) (hf0:w.frozen? t=false) :
  Cz 173 #[.iface 69 (.agg #[.int .i64 n]),.iface 130 (.pointer (some t))] w λev w'=>ev=.returned (.bool true)/\w'=((((w.alloc (.cells #[.pointer (some t)] 130)).alloc (.cells #[.pointer (some ⟨1,130,none⟩),.pointer (some ⟨w.heap.size,0,none⟩),.int .u64 150] 157)).alloc (.cells #[.pointer (some ⟨1,130,none⟩),.pointer (some ⟨w.heap.size,0,none⟩),.int .u64 150] 157)).alloc (.cells #[.int .i64 n] 69)).setCell t (.int .i64 n):=by
 have h6:=@run_callFunc_extern Tryz.prog 243 _ (λargs=>ReflectliteValue.unpack (args.getD 0 (.tuple #[]))) Tryz.func243 Qk Qk Qk Qk
 have h7 := @run_callFunc_extern Tryz.prog 244 _ (ReflectliteValue.methodAny (ReflectliteValue.valueError "reflectlite.Value.Type" 0) (λt _ _ _ => ReflectliteType.toType t)) Tryz.func244 (by kernel_rfl) (by kernel_rfl) (by kernel_rfl) (by kernel_rfl)
 have h8 := @run_callFunc_extern Tryz.prog 245 _ (ReflectliteValue.method (ReflectliteValue.valueError "reflectlite.Value.IsNil" 0) ReflectliteValue.isNil) Tryz.func245 (by kernel_rfl) (by kernel_rfl) (by kernel_rfl) (by kernel_rfl)
 have h27:=@run_callFunc_extern Tryz.prog 296 _ (ReflectliteType.abiMethod λt=>do pure (.int .u8 (<-Rtype.kind t))) Tryz.func296 Qk Qk Qk Qk
 have h37:=@run_callFunc_extern Tryz.prog 314 _ (ReflectliteType.method ReflectliteType.elem) Tryz.func314 Qk Qk Qk Qk
 have h38 := @run_callFunc_extern Tryz.prog 315 _ (ReflectliteType.relation "Implements" ReflectliteType.implements_) Tryz.func315 (by kernel_rfl) (by kernel_rfl) (by kernel_rfl) (by kernel_rfl)
 have h10:=@run_callFunc_extern Tryz.prog 263 _ ReflectliteType.typeOf Tryz.func263 Qk Qk Qk Qk
 have h35 := @run_callFunc_extern Tryz.prog 312 _ (ReflectliteType.relation "AssignableTo" ReflectliteType.assignableTo) Tryz.func312 (by kernel_rfl) (by kernel_rfl) (by kernel_rfl) (by kernel_rfl)
 have h11 := @run_callFunc_extern Tryz.prog 264 _ (ReflectliteValue.method (ReflectliteValue.valueError "reflectlite.Value.Elem" 0) ReflectliteValue.elem) Tryz.func264 (by kernel_rfl) (by kernel_rfl) (by kernel_rfl) (by kernel_rfl)
 have h12:=@run_callFunc_extern Tryz.prog 265 _ ReflectliteValue.set Tryz.func265 Qk Qk Qk Qk
 have tO:=zny
 have mA:=LB
 have a25:=znu
 have v25:=zk8
 have f6:=zk9
 have f7:=zuc
 have mK:=zff
 have mE:=zfe
 have mI:=HD
 have k27:=zt9
 have k25:=zt8
 have e27:=zt6
 have i25:=zt7
 have n8:=zrn ⟨w.heap.size,0,none⟩ t ((w.alloc (.cells #[.pointer (some t)] 130)).alloc (.cells #[.pointer (some ⟨1,130,none⟩),.pointer (some ⟨w.heap.size,0,none⟩),.int .u64 150] 157)) Qs
 have IU:0<w.heap.size:=by
  rcases Nat.eq_zero_or_pos w.heap.size with h0 | h
  ·simp[World.cell?,h0] at hg
  ·exact h
 have hg2:((w.alloc (.cells #[.pointer (some t)] 130)).alloc (.cells #[.pointer (some ⟨1,130,none⟩),.pointer (some ⟨w.heap.size,0,none⟩),.int .u64 150] 157)).cell? ⟨0,0,none⟩=some (.iface 174 (.agg #[.pointer (some ⟨1,67,none⟩)])):=by
  rw[World.cell?_alloc_lt _ _ ⟨0,0,none⟩ Qs,World.cell?_alloc_lt _ _ ⟨0,0,none⟩ IU]; exact hg
 have fH:t.block<w.heap.size:=by
  rcases Nat.lt_or_ge t.block w.heap.size with h | h
  ·exact h
  ·simp[World.cell?,Array.getElem?_eq_none h] at ht0
 have el:=zrm ⟨w.heap.size,0,none⟩ t (((w.alloc (.cells #[.pointer (some t)] 130)).alloc (.cells #[.pointer (some ⟨1,130,none⟩),.pointer (some ⟨w.heap.size,0,none⟩),.int .u64 150] 157)).alloc (.cells #[.pointer (some ⟨1,130,none⟩),.pointer (some ⟨w.heap.size,0,none⟩),.int .u64 150] 157)) (by rw[World.cell?_alloc_lt _ _ ⟨w.heap.size,0,none⟩ (by simp; omega)]; simp)
 have st:=zxq t ⟨w.heap.size+1+1+1,0,none⟩ n old ((((w.alloc (.cells #[.pointer (some t)] 130)).alloc (.cells #[.pointer (some ⟨1,130,none⟩),.pointer (some ⟨w.heap.size,0,none⟩),.int .u64 150] 157)).alloc (.cells #[.pointer (some ⟨1,130,none⟩),.pointer (some ⟨w.heap.size,0,none⟩),.int .u64 150] 157)).alloc (.cells #[.int .i64 n] 69))
  (by rw[World.cell?_alloc_at _ _ _ _ Qs]; rfl)
  (by rw[World.cell?_alloc_lt _ _ t (by simp; omega),World.cell?_alloc_lt _ _ t (by simp; omega),World.cell?_alloc_lt _ _ t (by simp; omega),World.cell?_alloc_lt _ _ t fH]; exact ht0)
  (by rw[World.frozen?_alloc_old _ _ t (by simp; omega),World.frozen?_alloc_old _ _ t (by simp; omega),World.frozen?_alloc_old _ _ t (by simp; omega),World.frozen?_alloc_old _ _ t (Nat.ne_of_lt fH)]; exact hf0)
 go_enter Tryz.func173,Tryz.ntmps173
 go_wp2
 refine wp_loop_rounds 1 ?_
 rw[rounds_succ]
 go_wp2
 go_ret
 exact⟨rfl,rfl⟩
end
def hB(v:Int):Bool:=decide (v<=Ql)
theorem zjz{l:List Int}{o:OA}{c:Nat}{w:Wo}{bs:List Nat}(h:znt bs w o l)(hl:l.length<=maxLen):PX bs ZW #[.slice o l.length c] w (.bool (l.all hB)):=
 zkf o l.length c λwr hx=>by
  have h:=(h.ext hx).less (cs:=[]) Qs;refine XL l.length 0 rfl (λk=>k<=l.length/\∀j:Nat,j<k->hB (gi l (j:Int))=true) ⟨Ie _,λj hj=>Is hj (Nat.not_lt_zero j)⟩ λk ⟨hk,hI⟩=>⟨λIU=>?_,λRN=>?_⟩
  ·have IU:=Ot IU;refine⟨h.ix JH Qo IU,_,h k Qo IU,λg=>?_,λg=>⟨zjw IU hl,QI Qo ⟨Qo,λj hj=>?_⟩⟩⟩
   ·have g:=Ot g
    have:l.all hB=false:=by
     cases hb:l.all hB with
     | false=>rfl
     | true=>
      have:=Ot (CY.1 hb k Qo);simp only[Ql] at this;omega
    rw[this]
   ·by_cases iP:j<k
    ·exact hI j iP
    ·have:j=k:=Qo;subst this;have g:=Ou g;exact Ii (by simp only[Ql]; omega)
  ·have RN:=Ou RN;have hk:k=l.length:=Qo;subst hk;rw[CY.2 hI]
theorem z3j{a:Int}{w:Wo}{b:Nat}{t:TypeId}{fz:Nat×Nat}(h:w.heap[b]? = some (.cells ([I a]:List Va).toArray t fz)):PX [] ZW #[.slice (some ⟨b,0,none⟩) 1 1] w (.bool (hB a)):=by
 have:=zjz (l:=[a]) (c:=1) (bs:=[]) (KD h Qs) (by simp[maxLen])
 simpa using this
theorem z3u{a b2:Int}{w:Wo}{b:Nat}{t:TypeId}{fz:Nat×Nat}(h:w.heap[b]? = some (.cells ([I a,I b2]:List Va).toArray t fz)):PX [] ZW #[.slice (some ⟨b,0,none⟩) 2 2] w (.bool (hB a&&hB b2)):=by
 have:=zjz (l:=[a,b2]) (c:=2) (bs:=[]) (KD h Qs) (by simp[maxLen])
 simpa using this
theorem z3k{a b2 b3:Int}{w:Wo}{b:Nat}{t:TypeId}{fz:Nat×Nat}(h:w.heap[b]? = some (.cells ([I a,I b2,I b3]:List Va).toArray t fz)):PX [] ZW #[.slice (some ⟨b,0,none⟩) 3 3] w (.bool (hB a&&(hB b2&&hB b3))):=by
 have:=zjz (l:=[a,b2,b3]) (c:=3) (bs:=[]) (KD h Qs) (by simp[maxLen])
 simpa using this
def zz7(W:Q7):Nat->Bool
 | 0=>hB W.now
 | k+1=>zz7 W k&&(hB (gi W.IF (k:Int)).busy&&hB (gi W.IF (k:Int)).idle)
def z0b(W:Q7):Nat->Bool
 | 0=>zz7 W W.IF.length
 | k+1=>z0b W k&&(hB (gi W.tasks (k:Int)).v&&(hB (gi W.tasks (k:Int)).sum&&hB (gi W.tasks (k:Int)).used))
def z1o(W:Q7)(g:Int)(b0:Bool):Nat->Bool
 | 0=>b0
 | q+1=>z1o W g b0 q&&(hB (Qb W g (q:Int)).floor&&(hB (Qb W g (q:Int)).v&&hB (Qb W g (q:Int)).sum))
def zvz(W:Q7):Nat->Bool
 | 0=>z0b W W.tasks.length
 | k+1=>z1o W (k:Int) (zvz W k&&hB (gi W.IE (k:Int)).sum) (gi W.IE (k:Int)).IG.length
theorem zu0{v:Int}:hB v=true↔v<=Ql:=decide_eq_true_iff
theorem zz8{W:Q7}:∀k:Nat,zz7 W k=true↔W.now<=Ql/\∀j:Nat,j<k->(gi W.IF (j:Int)).busy<=Ql/\(gi W.IF (j:Int)).idle<=Ql
 | 0=>by simp only[zz7,zu0]; exact⟨λh=>⟨h,λj hj=>by omega⟩,λh=>h.1⟩
 | k+1=>by
  simp only[zz7,A',zu0,zz8 k];constructor
  ·rintro⟨⟨h1,h2⟩,h3⟩;refine⟨h1,λj hj=>?_⟩
   by_cases e:j=k
   ·subst e; exact h3
   ·exact h2 j Qo
  ·rintro⟨h1,h2⟩;exact⟨⟨h1,λj hj=>h2 j Qo⟩,h2 k Qo⟩
theorem z0c{W:Q7}:∀k:Nat,z0b W k=true↔zz7 W W.IF.length=true/\∀j:Nat,j<k->(gi W.tasks (j:Int)).v<=Ql/\(gi W.tasks (j:Int)).sum<=Ql/\(gi W.tasks (j:Int)).used<=Ql
 | 0=>by simp only[z0b]; exact⟨λh=>⟨h,λj hj=>by omega⟩,λh=>h.1⟩
 | k+1=>by
  simp only[z0b,A',zu0,z0c k];constructor
  ·rintro⟨⟨h1,h2⟩,h3⟩;refine⟨h1,λj hj=>?_⟩
   by_cases e:j=k
   ·subst e; exact h3
   ·exact h2 j Qo
  ·rintro⟨h1,h2⟩;exact⟨⟨h1,λj hj=>h2 j Qo⟩,h2 k Qo⟩
theorem z0a{W:Q7}{g:Int}{b0:Bool}:∀k:Nat,z1o W g b0 k=true↔b0=true/\∀j:Nat,j<k->(Qb W g (j:Int)).floor<=Ql/\(Qb W g (j:Int)).v<=Ql/\(Qb W g (j:Int)).sum<=Ql
 | 0=>by simp only[z1o]; exact⟨λh=>⟨h,λj hj=>by omega⟩,λh=>h.1⟩
 | k+1=>by
  simp only[z1o,A',zu0,z0a k];constructor
  ·rintro⟨⟨h1,h2⟩,h3⟩;refine⟨h1,λj hj=>?_⟩
   by_cases e:j=k
   ·subst e; exact h3
   ·exact h2 j Qo
  ·rintro⟨h1,h2⟩;exact⟨⟨h1,λj hj=>h2 j Qo⟩,h2 k Qo⟩
theorem zz9{W:Q7}:∀k:Nat,zvz W k=true↔z0b W W.tasks.length=true/\∀j:Nat,j<k->(gi W.IE (j:Int)).sum<=Ql/\∀q:Nat,q<(gi W.IE (j:Int)).IG.length->(Qb W (j:Int) (q:Int)).floor<=Ql/\(Qb W (j:Int) (q:Int)).v<=Ql/\(Qb W (j:Int) (q:Int)).sum<=Ql
 | 0=>by simp only[zvz]; exact⟨λh=>⟨h,λj hj=>by omega⟩,λh=>h.1⟩
 | k+1=>by
  simp only[zvz,z0a,A',zu0,zz9 k];constructor
  ·rintro⟨⟨⟨h1,h2⟩,h3⟩,h4⟩;refine⟨h1,λj hj=>?_⟩
   by_cases e:j=k
   ·subst e; exact⟨h3,h4⟩
   ·exact h2 j Qo
  ·rintro⟨h1,h2⟩;exact⟨⟨⟨h1,λj hj=>h2 j Qo⟩,(h2 k Qo).1⟩,(h2 k Qo).2⟩
theorem zzi(W:Q7):zvz W W.IE.length=QM W:=by
 have key:zvz W W.IE.length=true↔Lj W:=by
  rw[zz9,z0c,zz8];constructor
  ·rintro⟨⟨⟨h1,h2⟩,h3⟩,h4⟩;have e:∀{i:Int},0<=i->((i.toNat:Nat):Int)=i:=λh=>by omega
   refine⟨h1,λc a b=>?_,λc a b=>?_,λc a b=>?_,λk c a b c0 c1=>?_⟩
   ·have:=h2 c.toNat Qo; rwa[e a] at this
   ·have:=h3 c.toNat Qo; rwa[e a] at this
   ·have:=(h4 c.toNat Qo).1; rwa[e a] at this
   ·have:=(h4 k.toNat Qo).2 c.toNat (by rw[e a]; omega); rwa[e a,e c0] at this
  ·intro r;exact⟨⟨⟨r.n,λj hj=>r.c (j:Int) Qo Qo⟩,λj hj=>r.t (j:Int) Qo Qo⟩,λj hj=>⟨r.g (j:Int) Qo Qo,λq hq=>r.s (j:Int) (q:Int) Qo Qo Qo Qo⟩⟩
 unfold QM
 cases hb:U6 (Lj W) with
 | true=>exact key.2 (Qh.1 hb)
 | false=>
  cases ho:zvz W W.IE.length with
  | false=>rfl
  | true=>exact Is (key.1 ho) (G7.1 hb)
theorem ziy{a b:Bool}(h:a=true->False):(a&&b)=false:=by
 cases a with
 | false=>rfl
 | true=>exact(h rfl).elim
def zug(I:Bool->Nat->Prop)(vs:List Va):Prop:=∃(x:Bool) (k:Nat),I x k/\vs=[.bool x,.int .i64 (k:Int)]
theorem zqh{B:(List Va->Prop)->(List Va->Nat)->Bool->Int->Prop}(n:Nat){xi:Bool}{si:Int}(s:Nat)(hs:si=s)(I:Bool->Nat->Prop)(h0:I xi s)(hB:∀(x:Bool) (k:Nat),I x k->B (zug I) (Xe n 1) x (k:Int)) :
  ∃(IP:List Va->Prop) (mu:List Va->Nat),IP [.bool xi,.int .i64 si]/\∀(x:Bool) (i:Int),IP [.bool x,.int .i64 i]->B IP mu x i:=by
 refine⟨zug I,Xe n 1,⟨xi,s,h0,by rw[hs]⟩,?_⟩;rintro x i ⟨x',k,hI,he⟩;simp only[I5,I6,Value.bool.injEq,true_and,and_true] at he;obtain⟨rfl,rfl⟩:=he;exact hB x k hI
theorem UF{n k:Nat}{I:Bool->Nat->Prop}{x x':Bool}(hk:k<n)(hI:I x' (k+1)):zug I [.bool x',.int .i64 ((k:Int)+1)]/\Xe n 1 [.bool x',.int .i64 ((k:Int)+1)]<Xe n 1 [.bool x,.int .i64 (k:Int)]:=by
 refine⟨⟨x',k+1,hI,Qs⟩,?_⟩;simp only[Xe,ZQ,Ig,List.getElem?_cons_succ];omega
section
variable {W:Q7}{m:MW}{w:Wo}{bs:List Nat}{p:OA}
theorem Fi(h:My bs w p W m)(ha:WA W):PX bs JK #[.pointer p] w (.bool (QM W)):=by
 rw[<-zzi];refine FI p λwr hx=>?_
 have h:=(h.ext hx).less (cs:=[]) Qs;have fH:=ha.t;have cP:=ha.gl;have tP:=ha.c2;refine⟨h.some,_,h.now,λb hb=>⟨hB W.now,λwx _ hc=>z3j hc,h.some,_,_,_,h.IF,?_⟩⟩;refine zqh W.IF.length 0 rfl (λx k=>k<=W.IF.length/\x=zz7 W k) ⟨Ie _,rfl⟩ λx k ⟨hk,RZ⟩=>⟨λIU=>?_,λRN=>?_⟩
 ·have IU:=Ot IU;refine⟨h.rd.c.ix Ym Qo IU,_,_,_,_,_,h.rd.c k Qo IU,λb1 gH=>⟨λ_ b2 cN=>⟨_,λ_ wx _ hc=>z3u hc,⟨Qo,Qo⟩,UF Qo ⟨Qo,by rw[RZ]; rfl⟩⟩,λhn=>⟨⟨Qo,Qo⟩,UF Qo ⟨Qo,?_⟩⟩⟩⟩;simp only[zz7]; rw[<-RZ,ziy hn]
 have RN:=Ou RN;have hkk:k=W.IF.length:=Qo;subst hkk;refine⟨h.some,_,_,_,h.tasks,?_⟩;refine zqh W.tasks.length 0 rfl (λx k=>k<=W.tasks.length/\x=z0b W k) ⟨Ie _,RZ⟩ λx k ⟨hk,RZ⟩=>⟨λIU=>?_,λRN=>?_⟩
 ·have IU:=Ot IU;refine⟨h.rd.t.ix QF Qo IU,_,_,_,_,_,_,_,_,_,h.rd.t k Qo IU,λb1 gH=>⟨λ_ b2 cN=>⟨_,λ_ wx _ hc=>z3k hc,⟨Qo,Qo⟩,UF Qo ⟨Qo,by rw[RZ]; rfl⟩⟩,λhn=>⟨⟨Qo,Qo⟩,UF Qo ⟨Qo,?_⟩⟩⟩⟩;simp only[z0b]; rw[<-RZ,ziy hn]
 have RN:=Ou RN;have hkk:k=W.tasks.length:=Qo;subst hkk;refine⟨h.some,_,_,_,h.IE,?_⟩;refine zqh W.IE.length 0 rfl (λx k=>k<=W.IE.length/\x=zvz W k) ⟨Ie _,RZ⟩ λx k ⟨hk,RZ⟩=>⟨λIU=>?_,λRN=>?_⟩
 ·have IU:=Ot IU;have hsl:(gi W.IE (k:Int)).IG.length<=4:=(Kj ha (k:=(k:Int)) Qo Qo).2.2;have xK:=h.rd.g.IG (k:Int) Qo IU;rw[Ih] at xK
  have inner:∀{b0:Bool},b0=(zvz W k&&hB (gi W.IE (k:Int)).sum)->∃(IP:List Va->Prop) (mu:List Va->Nat),IP [.bool b0,I 0]/\∀(ok3:Bool) (dR:Int),IP [.bool ok3,I dR]->
    ((decide (dR<(((gi W.IE (k:Int)).IG.length:Nat):Int)))=true->
     Ix (m.ms k).sO (gi W.IE (k:Int)).IG.length dR/\
     (∃(x03:Int) (x15:Bool) (x23:Int) (x33:Int) (x43:Int),
     Q1 [] wr (m.ms k).sO (Int.toNat dR*5) [I x03,.bool x15,I x23,I x33,I x43]/\
     (∀b7,wr.heap.size<=b7->
     (ok3=true->(∀b8,wr.heap.size<=b8->
     (∃(xC:Bool),
     (ok3=true->(∀wx4,Q0 [] wr wx4->wx4.heap[b8]? = some (Obj.cells ([I x03,I x23,I x43]:List Va).toArray Qc (0,0))->PX [] ZW #[.slice (some (Addr.mk b8 0 none)) 3 3] wx4 (.bool xC)))/\
     Qm .i64 (dR+1)/\
     IP [.bool (ok3&&xC),I (dR+1)]/\mu [.bool (ok3&&xC),I (dR+1)]<mu [.bool ok3,I dR])))/\
     ((ok3=true->False)->
     Qm .i64 (dR+1)/\
     IP [.bool false,I (dR+1)]/\mu [.bool false,I (dR+1)]<mu [.bool ok3,I dR]))))/\
    ((decide (dR<(((gi W.IE (k:Int)).IG.length:Nat):Int)))=false->ok3=zvz W (k+1)):=λ{b0} hb0=>by
   refine zqh (gi W.IE (k:Int)).IG.length 0 rfl (λx q=>q<=(gi W.IE (k:Int)).IG.length/\x=z1o W (k:Int) (zvz W k&&hB (gi W.IE (k:Int)).sum) q) ⟨Ie _,hb0⟩ λx q ⟨hq,R2⟩=>⟨λRM=>?_,λbS=>?_⟩
   ·have RM:=Ot RM;refine⟨xK.ix Y7 Qo RM,_,_,_,_,_,xK q Qo RM,λb7 hb7=>⟨λ_ b8 hb8=>⟨_,λ_ wx _ hc=>z3k hc,⟨Qo,Qo⟩,UF Qo ⟨Qo,by rw[R2]; rfl⟩⟩,λhn=>⟨⟨Qo,Qo⟩,UF Qo ⟨Qo,?_⟩⟩⟩⟩;simp only[z1o]; rw[<-R2,ziy hn]
   ·have bS:=Ou bS;have:q=(gi W.IE (k:Int)).IG.length:=Qo;rw[R2,this]; rfl
  refine⟨h.rd.g.ix Qo IU,_,_,_,_,_,_,_,_,_,_,_,_,_,_,_,_,_,_,_,_,h.rd.g.cells (k:Int) Qo IU,λb5 hb5=>⟨λ_ b6 hb6=>⟨hB (gi W.IE (k:Int)).sum,λ_ wx _ hc=>z3j hc,?_⟩,λhn=>?_⟩⟩
  ·obtain⟨xI,mu,h0,hI⟩:=inner (b0:=x&&hB (gi W.IE (k:Int)).sum) (by rw[RZ]);refine⟨xI,mu,h0,λok3 dR hi=>⟨(hI ok3 dR hi).1,λbS=>⟨⟨Qo,Qo⟩,?_⟩⟩⟩;have e:=(hI ok3 dR hi).2 bS;exact UF Qo ⟨Qo,e⟩
  ·obtain⟨xI,mu,h0,hI⟩:=inner (b0:=false) (by rw[<-RZ,ziy hn]);refine⟨xI,mu,h0,λok3 dR hi=>⟨(hI ok3 dR hi).1,λbS=>⟨⟨Qo,Qo⟩,?_⟩⟩⟩;have e:=(hI ok3 dR hi).2 bS;exact UF Qo ⟨Qo,e⟩
 ·have RN:=Ou RN;have hkk:k=W.IE.length:=Qo;subst hkk;rw[RZ]
end
def Tc(w:Wo):Prop:=w.cell? ⟨0,0,none⟩=some (.iface 174 (.agg #[.pointer (some ⟨1,67,none⟩)]))
theorem Tc.ext{w w':Wo}(h:Tc w)(hx:Q0 [] w w'):Tc w':=by
 have IU:0<w.heap.size:=by
  rcases Nat.eq_zero_or_pos w.heap.size with h0 | h1
  ·unfold Tc at h; simp[World.cell?,h0] at h
  ·exact h1
 have hb:=hx.block 0 IU Qs;unfold Tc at h ⊢;unfold World.cell? at h ⊢
 dsimp only at h ⊢
 rw[hb];exact h
theorem Tc.lt{w:Wo}(h:Tc w):0<w.heap.size:=by
 rcases Nat.eq_zero_or_pos w.heap.size with h0 | h1
 ·unfold Tc at h; simp[World.cell?,h0] at h
 ·exact h1
theorem zyn(t:Va)(w:Wo):Cz KZ #[.nilIface,t] w λe w'=>e=.returned (.bool false)/\Q0 [] w w':=(z0q t w).mono λe w' ⟨he,hw⟩=>⟨he,by rw[hw]; exact Q0.refl _ _⟩
theorem zva{n:Int}{t:Nat}{old:Int}{w:Wo}{ty:TypeId}(hg:Tc w)(ht:w.heap[t]? = some (.cells ([I old]:List Va).toArray ty (0,0))) :
  Cz KZ #[.iface Z3 (.agg #[I n]),.iface J6 (.pointer (some ⟨t,0,none⟩))] w λe w'=>e=.returned (.bool true)/\w'.heap[t]? = some (.cells ([I n]:List Va).toArray ty (0,0))/\Q0 [t] w w':=by
 refine(z0o n ⟨t,0,none⟩ (I old) w hg (by rw[Tg ht]; rfl) (by simp[World.frozen?,ht])).mono λe w' ⟨he,hw⟩=>⟨he,?_⟩
 subst hw;have hx:=(((((Q0.refl [] w).alloc (.cells #[.pointer (some ⟨t,0,none⟩)] J6)).alloc (.cells #[.pointer (some ⟨1,J6,none⟩),.pointer (some ⟨w.heap.size,0,none⟩),.int .u64 150] JE)).alloc (.cells #[.pointer (some ⟨1,J6,none⟩),.pointer (some ⟨w.heap.size,0,none⟩),.int .u64 150] JE)).alloc (.cells #[I n] Z3));have hb:=Qq ht hx Qs;refine⟨?_,?_⟩
 ·have:=UX (k:=0) (n:=0) (vs:=[I n]) hb;exact this
 ·exact hx.of_nil.setCell (p:=⟨t,0,none⟩) (.inr Qs) _
structure Bh (base pb:Nat) (ex:List Nat) (w:Wo) (m:MW) (w':Wo) (W':Q7) (m':MW):Prop where
 own:Zj 8 base w' W' m'
 pt:w'.heap[pb]? = some (.cells (Qa W' m').toArray Q4 (0,0))
 ext:Q0 (ex++(pb::QB 8 m)) w w'
 sub:∀x∈QB 8 m',x∈QB 8 m\/w.heap.size<=x
theorem Mp.done{base pb:Nat}{ex:List Nat}{w w':Wo}{W':Q7}{m m':MW}(h:Mp base pb [] w m w' W' m'):Bh base pb ex w m w' W' m':=
 ⟨h.v.own,h.pt,h.v.ext.mono λx hx=>Iy _ (I2 _ hx),h.v.sub⟩
def z17(ex:List Nat)(r:Q7×Int)(w:Wo)(v:Va)(w':Wo):Prop:=∃n m',v=.tuple #[.agg (Qa r.1 m').toArray,I r.2]/\Zj n w.heap.size w' r.1 m'/\Q0 ex w w'
section
variable {W W':Q7}{m:MW}{w:Wo}{bar:Int}
theorem zcc{cf:Fn}{ca ck:Array Va}(ex:List Nat)(P:Wo->Prop)(hP:∀(a b:Wo) (bs:List Nat),P a->Q0 bs a b->(∀x∈bs,w.heap.size<=x)->P b)(hex:∀x∈ex,x<w.heap.size)(hz:0∉ex)(h:Xg [] w W m)(hr:∀x∈ex,∀w1,Q0 ex w w1->Xg [] w1 W m)(hl:XM W)(hg:Tc w)(RD:∀(w1:Wo) (pb:Nat) (m1:MW),Qw W=true->Q0 [] w w1->w.heap.size<=pb->PW w.heap.size pb w1 W m1->
   MA Tryz.prog (.func cf ca ck) [.pointer (pA pb)] w1 λe w2=>(bar≠0/\e=.returned (.iface Z3 (.agg #[I bar]))/\Q0 [] w1 w2)\/(bar=0/\e=.returned .nilIface/\P w2/\∃m2,Bh w.heap.size pb ex w1 m1 w2 W' m2)) :
  Cz JU #[.agg (Qa W m).toArray,.func cf ca ck] w λe w'=>∃v,e=.returned v/\z17 ex (Xi W bar W') w v w'/\(Qw W=true->bar=0->P w')/\(Qw W=false\/bar≠0->Q0 [] w w'):=by
 refine zbk _ _ _ _ _ _ _ _ _ _ cf ca ck (R:=λv w'=>z17 ex (Xi W bar W') w v w'/\(Qw W=true->bar=0->P w')/\(Qw W=false\/bar≠0->Q0 [] w w')) ?_;intro x hx x1 RZ;refine⟨_,zce h hl.c hl.g hl.f,λg wr R2=>?_,λg M' R2 dK=>?_⟩
 ·have hW:Qw W=false:=by simpa using g
  refine⟨?_,λhw=>(by rw[hW] at hw; cases hw),λ_=>R2⟩;rw[ziz hW];exact⟨0,zxf,rfl,Zj.zero _ _,R2.of_nil⟩
 have hW:Qw W=true:=by simpa using g
 have wp:=Qh.1 hW;have s1:Sc w [x,x1] M':=(((Sc.start w).add hx).add RZ).R5 R2;refine I4 (NW (h.ext R2) wp.a) ?_;rintro e wv ⟨m1,he,hM1,dG⟩;have s2:=s1.R5 dG;have oZ:=(OW.of hM1 dK).mono R2.size;refine⟨_,_,_,_,_,_,_,_,_,_,he,Qe dG dK,λb2 wb hxb cN hcb hn2=>?_⟩;have s3:=s2.step hxb;have hO3:=oZ.step hxb;have C09:w.heap.size<=b2:=IB s2.ext.size cN
 have gV:b2∉QB 8 m1:=λhm=>by
  have:=(oZ.own.lt b2 hm).2;omega
 refine⟨V0 (k0:=0) hcb hn2 Qs,λb3 wH CR8 hb3 C23 hn3=>?_⟩;have mS:=UX (k:=0) (n:=0) (vs:=Qa W m1) hcb;have CR2:Q0 [b2] wb (R9 wb (some ⟨b2,0,none⟩) 0 (Qa W m1)):=Xp λa ha=>by cases ha; simp
 have hO4 := (hO3.call CR2 fun y hy hm => gV (by have:y=b2:=by simpa using hm
                                                 exact this▸hy)).step CR8
 have s4 := (s3.call CR2 fun y hy => by have:y=b2:=by simpa using hy
                                        omega).step CR8
 have C60:wH.heap[b2]? = some (.cells (Qa W m1).toArray Q4 (0,0)):=Qq mS CR8 hn2
 have DV9:b2≠b3:=λe=>by
  have:=YY mS;have C10:(R9 wb (some ⟨b2,0,none⟩) 0 (Qa W m1)).heap.size<=b3:=hb3;omega
 have DW0:w.heap.size<=b3:=by
  have h1:=CR2.size;have h2:=s3.ext.size;have C10:(R9 wb (some ⟨b2,0,none⟩) 0 (Qa W m1)).heap.size<=b3:=hb3;omega
 intro O' SZ We;have hO5:=hO4.step SZ;have s5:=s4.step SZ;have C61:=Qq C60 SZ hn2;have hc5:=Qq C23 SZ hn3;refine MA.mono (RD O' b2 m1 hW s5.ext C09 ⟨hO5.own,C61,gV⟩) ?_;rintro e1 R7 (⟨hb0,jG,hy⟩ | ⟨hb0,jG,hPw,m2,hD⟩)
 ·
  refine⟨_,jG,Qe hy We,λRq Sy iB=>?_⟩;have s6:=(s5.R5 hy).step Sy;have hc6:=Qq (Qq hc5 hy Qs) Sy hn3;refine I4 (zva (hg.ext s6.ext) hc6) ?_;rintro e2 Rr ⟨aT,hc7,SE⟩
  have s7 := s6.call SE fun y hy => by have:y=b3:=by simpa using hy
                                       omega
  have Wd:∀{w9:Wo},Q0 [x,x1] Rr w9->Q1 [x,x1] w9 (some ⟨b3,0,none⟩) (0+0) [I bar]:=λh9=>XP (Qq hc7 h9 hn3) hn3 (k0:=0) rfl
  refine ⟨true, aT, Gw SE iB (fun y hm gX => by have:y=b3:=by simpa using hm
                                                exact hn3 (this▸gX)),λ_=>⟨bar,Wd (Q0.refl _ _),λRw aS gY=>?_⟩,λg=>by cases g⟩
  have s8:=s7.step aS;refine I4 (NW (h.ext s8.ext) wp.a) ?_;rintro e3 S3 ⟨m3,gP,kQ,jL⟩;have s9:=s8.R5 jL;have hO9:=(OW.of kQ gY).mono s8.ext.size;have hc9:Q1 [x,x1] S3 (some ⟨b3,0,none⟩) (0+0) [I bar]:=XP (Qq (Qq hc7 aS hn3) jL Qs) hn3 (k0:=0) rfl;refine⟨_,_,_,_,_,_,_,_,_,_,gP,Qe jL gY,hc9,hc9,λRQ kR=>⟨?_,λ_ hb=>Is hb hb0,λ_=>(s9.step kR).ext⟩⟩;rw[zi0 hW hb0];exact⟨8,m3,rfl,(hO9.step kR).own,(s9.step kR).ext.of_nil⟩
 ·
  have C56:∀y∈ex++(b2::QB 8 m1),y∉[x,x1]:=λy hy hm=>by
   rcases Io.1 hy with h1 | h1
   ·have:=hex y h1;have:=s1.new y hm;omega
   ·rcases Ij.1 h1 with h1 | h1
    ·subst h1; exact hn2 hm
    ·exact hO5.nb y h1 hm
  refine⟨_,jG,Gw hD.ext We C56,λRq Sy iB=>?_⟩;refine I4 (zyn _ _) ?_;rintro e2 Rr ⟨aT,SE⟩
  have Bl9:∀y∈QB 8 m2,y∉[x,x1]:=λy hy hm=>by
   rcases hD.sub y hy with h1 | h1
   ·exact hO5.nb y h1 hm
   ·have:=We y hm;omega
  have uV:=((hD.own.ext Sy Bl9).WQ SE);have C62:=Qq (Qq hD.pt Sy hn2) SE Qs
  have hX2:Q0 ex w R7:=s5.ext.of_nil.fresh hD.ext λy hy=>by
   rcases Io.1 hy with h1 | h1
   ·exact .inr h1
   ·refine .inl ?_;rcases Ij.1 h1 with h1 | h1
    ·omega
    ·exact(hO5.own.lt y h1).1
  have hX3:Q0 ex w Rr:=(hX2.fresh Sy λy hy=>.inl (s1.new y hy)).trans SE.of_nil;refine⟨false,aT,Qe SE iB,λg=>(by cases g),λ_=>⟨_,_,_,_,_,_,_,_,_,_,PV C62 hn2 (k0:=0) (n:=0) λj v hj=>by simpa[Qa] using hj,λSi aS=>⟨?_,λ_ _=>?_,λhn=>?_⟩⟩⟩
  ·rw[zi1 hW hb0];exact⟨8,m2,rfl,uV.ext aS Bl9,hX3.fresh aS λy hy=>.inl (s1.new y hy)⟩
  ·exact hP _ _ _ (hP _ _ _ (hP _ _ _ hPw Sy s1.new) SE Qs) aS s1.new
  ·rcases hn with h1 | h1
   ·rw[hW] at h1; cases h1
   ·exact Is hb0 h1
theorem zse{cf:Fn}{ca ck:Array Va}(h:Xg [] w W m)(hl:XM W)(hg:Tc w)(RD:∀(w1:Wo) (pb:Nat) (m1:MW),Qw W=true->Q0 [] w w1->w.heap.size<=pb->PW w.heap.size pb w1 W m1->
   MA Tryz.prog (.func cf ca ck) [.pointer (pA pb)] w1 λe w2=>(bar≠0/\e=.returned (.iface Z3 (.agg #[I bar]))/\Q0 [] w1 w2)\/(bar=0/\e=.returned .nilIface/\∃m2,Bh w.heap.size pb [] w1 m1 w2 W' m2)) :
  Cz JU #[.agg (Qa W m).toArray,.func cf ca ck] w λe w'=>∃v,e=.returned v/\QU (Xi W bar W') w v w':=
 (zcc [] (λ_=>True) (λ_ _ _ _ _ _=>trivial) Qs Qs h Qs hl hg λw1 pb m1 a b c d=>(RD w1 pb m1 a b c d).mono λe w2 hh=>by
  rcases hh with h1 | ⟨h1,h2,h3⟩
  ·exact .inl h1
  ·exact .inr ⟨h1,h2,trivial,h3⟩).mono λe w' ⟨v,he,hA,_⟩=>⟨v,he,hA⟩
end
end Go.Proofs.YtnclplgaicdapaaGreatDoor
