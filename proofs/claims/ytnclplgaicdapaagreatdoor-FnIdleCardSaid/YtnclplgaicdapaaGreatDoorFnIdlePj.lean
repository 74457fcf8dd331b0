/- Part 10 of what the law FnIdle needs. -/
import Derived.Test.YtnclplgaicdapaaGreatDoorFnIdlePi
import Derived.LaidEql
import Derived.Stop.Asserts
import Derived.RowKitTokens
set_option linter.unusedVariables false
set_option linter.unusedSimpArgs false
set_option maxRecDepth 100000
set_option maxHeartbeats 8000000
namespace Go.Proofs.YtnclplgaicdapaaGreatDoor
open Go.RowKit
section
open Go.RowKit Go.Extern.Stop Go.Stop Go.Extern
theorem z2w(t:Va)(w:Wo) :
  Cz 173 #[.nilIface,t] w λe w'=>e=.returned (.bool false)/\w'=w:=by
 go_enter Tryz.func173,Tryz.ntmps173
 go_wp2
 go_ret
 exact⟨rfl,rfl⟩
theorem znd(t:Addr)(w:Wo):(ReflectliteValue.unpack (.iface 130 (.pointer (some t)))).run Tryz.prog w
  = .ok (.agg #[.pointer (some ⟨1,130,none⟩),.pointer (some ⟨w.heap.size,0,none⟩),.int .u64 150]) (w.alloc (.cells #[.pointer (some t)] 130)):=Qk
theorem zwl (a : Addr) (w : World) : (ReflectliteValue.methodAny (ReflectliteValue.valueError "reflectlite.Value.Type" 0) (λt _ _ _ => ReflectliteType.toType t) #[.agg #[.pointer (some ⟨1, 130, none⟩), .pointer (some a), .int .u64 150]]).run Tryz.prog w
  = .ok (.iface 174 (.agg #[.pointer (some ⟨1,130,none⟩)])) w:=Qk
theorem zhb (h : Value) (w : World) : (Go.method 343 174 (.agg #[h]) "Kind").run Tryz.prog w = .ok (296, h) w := by kernel_rfl
theorem zwi(w:Wo):((ReflectliteType.abiMethod λt=>(λa:Nat=>Value.int IntKind.u8 (a:Int)) <$> Rtype.kind t) #[.pointer (some ⟨1,130,none⟩)]).run Tryz.prog w=.ok (.int .u8 22) w:=Qk
theorem zwh(w:Wo):((ReflectliteType.abiMethod λt=>(λa:Nat=>Value.int IntKind.u8 (a:Int)) <$> Rtype.kind t) #[.pointer (some ⟨1,69,none⟩)]).run Tryz.prog w=.ok (.int .u8 25) w:=Qk
theorem zwk(z:Sem Va)(f:TypeId->Addr->Nat->Nat->Sem Va)(v:Va) :
  ReflectliteValue.method z f #[v]=(do match <-ReflectliteValue.parts v with | none=>z | some (t,a,fl)=>f t a fl (fl % 32)):=rfl
theorem zi5(a:Addr)(w:Wo):(ReflectliteValue.parts (.agg #[.pointer (some ⟨1,130,none⟩),.pointer (some a),.int .u64 150])).run Tryz.prog w=.ok (some (130,a,150)) w:=Qk
theorem zi6:Tryz.prog.underlying 130=some (.pointer 69):=Qk
theorem ztw (a p:Addr) (W:Wo) (ha:W.cell? a=some (.pointer (some p))) :
  (ReflectliteValue.method (ReflectliteValue.valueError "reflectlite.Value.IsNil" 0) ReflectliteValue.isNil #[.agg #[.pointer (some ⟨1, 130, none⟩), .pointer (some a), .int .u64 150]]).run Tryz.prog W = .ok (.bool false) W := by
 rw[zwk]
 simp only[Sem.run_bind,zi5,Result.andThen]
 simp[ReflectliteValue.isNil,loadVar,isAgg,underlying,zi6,ha,Result.andThen]
theorem zha (h : Value) (w : World) : (Go.method 343 174 (.agg #[h]) "Elem").run Tryz.prog w = .ok (314, .agg #[h]) w := by kernel_rfl
theorem Dd (h : Value) (w : World) : (Go.method 343 174 (.agg #[h]) "Implements").run Tryz.prog w = .ok (315, .agg #[h]) w := by kernel_rfl
theorem Gc (h : Value) (w : World) : (Go.method 343 174 (.agg #[h]) "AssignableTo").run Tryz.prog w = .ok (312, .agg #[h]) w := by kernel_rfl
theorem zwf(w:Wo):(ReflectliteType.method ReflectliteType.elem #[.agg #[.pointer (some ⟨1,130,none⟩)]]).run Tryz.prog w=.ok (.iface 174 (.agg #[.pointer (some ⟨1,69,none⟩)])) w:=Qk
theorem zwg (w : World) : (ReflectliteType.relation "Implements" ReflectliteType.implements_ #[.agg #[.pointer (some ⟨1, 69, none⟩)], .iface 174 (.agg #[.pointer (some ⟨1, 67, none⟩)])]).run Tryz.prog w = .ok (.bool true) w := by kernel_rfl
theorem zpu(v:Va)(w:Wo):(ReflectliteType.typeOf #[.iface 69 v]).run Tryz.prog w=.ok (.iface 174 (.agg #[.pointer (some ⟨1,69,none⟩)])) w:=Qk
theorem zpq (w : World) : (ReflectliteType.relation "AssignableTo" ReflectliteType.assignableTo #[.agg #[.pointer (some ⟨1, 69, none⟩)], .iface 174 (.agg #[.pointer (some ⟨1, 69, none⟩)])]).run Tryz.prog w = .ok (.bool true) w := by kernel_rfl
theorem znc(n:Int)(w:Wo):(ReflectliteValue.unpack (.iface 69 (.agg #[I n]))).run Tryz.prog w
  = .ok (.agg #[.pointer (some ⟨1,69,none⟩),.pointer (some ⟨w.heap.size,0,none⟩),.int .u64 153]) (w.alloc (.cells #[I n] 69)):=Qk
theorem zps(w:Wo):(Rtype.elem? 130).run Tryz.prog w=.ok (some 69) w:=Qk
theorem z2v(p:Addr)(w:Wo):(ReflectliteValue.mk 69 p ReflectliteValue.flagAddr).run Tryz.prog w=.ok (.agg #[.pointer (some ⟨1,69,none⟩),.pointer (some p),.int .u64 409]) w:=Qk
theorem ztv (a p:Addr) (W:Wo) (ha:W.cell? a=some (.pointer (some p))) :
  (ReflectliteValue.method (ReflectliteValue.valueError "reflectlite.Value.Elem" 0) ReflectliteValue.elem #[.agg #[.pointer (some ⟨1, 130, none⟩), .pointer (some a), .int .u64 150]]).run Tryz.prog W
   = .ok (.agg #[.pointer (some ⟨1,69,none⟩),.pointer (some p),.int .u64 409]) W:=by
 rw[zwk]
 simp only[Sem.run_bind,zi5,Result.andThen]
 simp[ReflectliteValue.elem,loadVar,isAgg,underlying,zi6,ha,Result.andThen,zps,z2v]
theorem zpt(a:Addr)(w:Wo):(ReflectliteValue.parts (.agg #[.pointer (some ⟨1,69,none⟩),.pointer (some a),.int .u64 409])).run Tryz.prog w=.ok (some (69,a,409)) w:=Qk
theorem ztx(a:Addr)(w:Wo):(ReflectliteValue.parts (.agg #[.pointer (some ⟨1,69,none⟩),.pointer (some a),.int .u64 153])).run Tryz.prog w=.ok (some (69,a,153)) w:=Qk
theorem zpr(w:Wo):(Rtype.directlyAssignable 69 69).run Tryz.prog w=.ok true w:=Qk
theorem z2x (v x:Va):ReflectliteValue.set #[v,x]=(do
  let (some (dst,a,fl),some (src,b,_)):=(<-ReflectliteValue.parts v,<-ReflectliteValue.parts x)
   | unsupported (.noEntry "extern/(internal/reflectlite.Value).Set.zeroValue")
  if fl / ReflectliteValue.flagAddr % 2 == 0 then unsupported (.noEntry "extern/(internal/reflectlite.Value).Set.unaddressable")
  let val <-loadVar src b
  if <-Rtype.directlyAssignable dst src then storeVar dst a val
  else if <-Rtype.implements dst src then
   if (<-Rtype.kind src)==20 then
    match val with
    | .nilIface => unsupported (.noEntry "extern/reflectlite: a nil value of one interface type handed on as a value of another")
    | _=>storeVar dst a val
   else storeVar dst a (.iface src val)
  else panicString ("reflectlite.Set: value of type " ++ (← Rtype.spelt src) ++ " is not assignable to type " ++ (← Rtype.spelt dst))
  pure (.tuple #[])):=rfl
theorem zz3(w:Wo):(isAgg 69).run Tryz.prog w=.ok true w:=Qk
theorem znb(w:Wo):(sizeOf 69).run Tryz.prog w=.ok 1 w:=Qk
theorem zwj(b:Addr)(n:Int)(W:Wo)(hb:W.cell? b=some (I n)):(loadVar 69 b).run Tryz.prog W=.ok (.agg #[I n]) W:=by
 unfold loadVar;simp only[Sem.run_bind,zz3,Result.andThen,if_true];simp only[Sem.run_bind,znb,Result.andThen];have e:b.add 0=b:=by cases b; rfl
 simp[loadCells,loadCellsFrom,e,hb,Result.andThen]
theorem zz4(ta b:Addr)(n:Int)(old:Va)(W:Wo)(hb:W.cell? b=some (I n))(ht:W.cell? ta=some old)(hf:W.frozen? ta=false) :
  (ReflectliteValue.set #[.agg #[.pointer (some ⟨1,69,none⟩),.pointer (some ta),.int .u64 409],.agg #[.pointer (some ⟨1,69,none⟩),.pointer (some b),.int .u64 153]]).run Tryz.prog W
   = .ok (.tuple #[]) (W.setCell ta (I n)):=by
 rw[z2x];simp only[Sem.run_bind,zpt,ztx,Result.andThen];have e:ta.add 0=ta:=by cases ta; rfl
 simp[ReflectliteValue.flagAddr,zwj b n W hb,Result.andThen,zpr,storeVar,znb,Value.cells,storeCells,e];rw[run_store Tryz.prog W ta _ _ (by rfl)];simp[ht,hf]
set_option maxHeartbeats 4000000 in
theorem z2u (n:Int) (t:Addr) (old:Va) (w:Wo) (hg:w.cell? ⟨0,0,none⟩=some (.iface 174 (.agg #[.pointer (some ⟨1,67,none⟩)]))) (ht0:w.cell? t=some old) (hf0:w.frozen? t=false) :
  Cz 173 #[.iface 69 (.agg #[.int .i64 n]),.iface 130 (.pointer (some t))] w λev w'=>ev=.returned (.bool true)/\w'=((((w.alloc (.cells #[.pointer (some t)] 130)).alloc (.cells #[.pointer (some ⟨1,130,none⟩),.pointer (some ⟨w.heap.size,0,none⟩),.int .u64 150] 157)).alloc (.cells #[.pointer (some ⟨1,130,none⟩),.pointer (some ⟨w.heap.size,0,none⟩),.int .u64 150] 157)).alloc (.cells #[.int .i64 n] 69)).setCell t (.int .i64 n):=by
 have h6:=@run_callFunc_extern Tryz.prog 243 _ (λargs=>ReflectliteValue.unpack (args.getD 0 (.tuple #[]))) Tryz.func243 Qk Qk Qk Qk
 have h7 := @run_callFunc_extern Tryz.prog 244 _ (ReflectliteValue.methodAny (ReflectliteValue.valueError "reflectlite.Value.Type" 0) (λt _ _ _ => ReflectliteType.toType t)) Tryz.func244 (by kernel_rfl) (by kernel_rfl) (by kernel_rfl) (by kernel_rfl)
 have h8 := @run_callFunc_extern Tryz.prog 245 _ (ReflectliteValue.method (ReflectliteValue.valueError "reflectlite.Value.IsNil" 0) ReflectliteValue.isNil) Tryz.func245 (by kernel_rfl) (by kernel_rfl) (by kernel_rfl) (by kernel_rfl)
 have h27:=@run_callFunc_extern Tryz.prog 296 _ (ReflectliteType.abiMethod λt=>do pure (.int .u8 (<-Rtype.kind t))) Tryz.func296 Qk Qk Qk Qk
 have h37:=@run_callFunc_extern Tryz.prog 314 _ (ReflectliteType.method ReflectliteType.elem) Tryz.func314 Qk Qk Qk Qk
 have h38 := @run_callFunc_extern Tryz.prog 315 _ (ReflectliteType.relation "Implements" ReflectliteType.implements_) Tryz.func315 (by kernel_rfl) (by kernel_rfl) (by kernel_rfl) (by kernel_rfl)
 have h10:=@run_callFunc_extern Tryz.prog 263 _ ReflectliteType.typeOf Tryz.func263 Qk Qk Qk Qk
 have h35 := @run_callFunc_extern Tryz.prog 312 _ (ReflectliteType.relation "AssignableTo" ReflectliteType.assignableTo) Tryz.func312 (by kernel_rfl) (by kernel_rfl) (by kernel_rfl) (by kernel_rfl)
 have h11 := @run_callFunc_extern Tryz.prog 264 _ (ReflectliteValue.method (ReflectliteValue.valueError "reflectlite.Value.Elem" 0) ReflectliteValue.elem) Tryz.func264 (by kernel_rfl) (by kernel_rfl) (by kernel_rfl) (by kernel_rfl)
 have h12:=@run_callFunc_extern Tryz.prog 265 _ ReflectliteValue.set Tryz.func265 Qk Qk Qk Qk
 have tO:=zpu
 have mA:=Gc
 have a25:=zpq
 have v25:=znc
 have f6:=znd
 have f7:=zwl
 have mK:=zhb
 have mE:=zha
 have mI:=Dd
 have k27:=zwi
 have k25:=zwh
 have e27:=zwf
 have i25:=zwg
 have n8:=ztw ⟨w.heap.size,0,none⟩ t ((w.alloc (.cells #[.pointer (some t)] 130)).alloc (.cells #[.pointer (some ⟨1,130,none⟩),.pointer (some ⟨w.heap.size,0,none⟩),.int .u64 150] 157)) Qs
 have IN:0<w.heap.size:=by
  rcases Nat.eq_zero_or_pos w.heap.size with h0 | h
  ·simp[World.cell?,h0] at hg
  ·exact h
 have hg2:((w.alloc (.cells #[.pointer (some t)] 130)).alloc (.cells #[.pointer (some ⟨1,130,none⟩),.pointer (some ⟨w.heap.size,0,none⟩),.int .u64 150] 157)).cell? ⟨0,0,none⟩=some (.iface 174 (.agg #[.pointer (some ⟨1,67,none⟩)])):=by
  rw[World.cell?_alloc_lt _ _ ⟨0,0,none⟩ Qs,World.cell?_alloc_lt _ _ ⟨0,0,none⟩ IN]; exact hg
 have eM:t.block<w.heap.size:=by
  rcases Nat.lt_or_ge t.block w.heap.size with h | h
  ·exact h
  ·simp[World.cell?,Array.getElem?_eq_none h] at ht0
 have el:=ztv ⟨w.heap.size,0,none⟩ t (((w.alloc (.cells #[.pointer (some t)] 130)).alloc (.cells #[.pointer (some ⟨1,130,none⟩),.pointer (some ⟨w.heap.size,0,none⟩),.int .u64 150] 157)).alloc (.cells #[.pointer (some ⟨1,130,none⟩),.pointer (some ⟨w.heap.size,0,none⟩),.int .u64 150] 157)) (by rw[World.cell?_alloc_lt _ _ ⟨w.heap.size,0,none⟩ (by simp; omega)]; simp)
 have st:=zz4 t ⟨w.heap.size+1+1+1,0,none⟩ n old ((((w.alloc (.cells #[.pointer (some t)] 130)).alloc (.cells #[.pointer (some ⟨1,130,none⟩),.pointer (some ⟨w.heap.size,0,none⟩),.int .u64 150] 157)).alloc (.cells #[.pointer (some ⟨1,130,none⟩),.pointer (some ⟨w.heap.size,0,none⟩),.int .u64 150] 157)).alloc (.cells #[.int .i64 n] 69))
  (by rw[World.cell?_alloc_at _ _ _ _ Qs]; rfl)
  (by rw[World.cell?_alloc_lt _ _ t (by simp; omega),World.cell?_alloc_lt _ _ t (by simp; omega),World.cell?_alloc_lt _ _ t (by simp; omega),World.cell?_alloc_lt _ _ t eM]; exact ht0)
  (by rw[World.frozen?_alloc_old _ _ t (by simp; omega),World.frozen?_alloc_old _ _ t (by simp; omega),World.frozen?_alloc_old _ _ t (by simp; omega),World.frozen?_alloc_old _ _ t (Nat.ne_of_lt eM)]; exact hf0)
 go_enter Tryz.func173,Tryz.ntmps173
 go_wp2
 refine wp_loop_rounds 1 ?_
 rw[rounds_succ]
 go_wp2
 go_ret
 exact⟨rfl,rfl⟩
end
def hB(v:Int):Bool:=decide (v<=Qn)
theorem zlz{l:List Int}{o:OA}{c:Nat}{w:Wo}{bs:List Nat}(h:zm9 bs w o l)(hl:l.length<=maxLen):PX bs ZY #[.slice o l.length c] w (.bool (l.all hB)):=
 zmg o l.length c λwr hx=>by
  have h:=(h.ext hx).less (cs:=[]) Qs;refine YV l.length 0 rfl (λk=>k<=l.length/\∀j:Nat,j<k->hB (gi l (j:Int))=true) ⟨Ic _,λj hj=>Ir hj (Nat.not_lt_zero j)⟩ λk ⟨hk,hI⟩=>⟨λIN=>?_,λRx=>?_⟩
  ·have IN:=Ot IN;refine⟨h.ix XV Qo IN,_,h k Qo IN,λg=>?_,λg=>⟨zlw IN hl,Qu Qo ⟨Qo,λj hj=>?_⟩⟩⟩
   ·have g:=Ot g
    have:l.all hB=false:=by
     cases hb:l.all hB with
     | false=>rfl
     | true=>
      have:=Ot (za7.1 hb k Qo);simp only[Qn] at this;omega
    rw[this]
   ·by_cases fN:j<k
    ·exact hI j fN
    ·have:j=k:=Qo;subst this;have g:=Ou g;exact Ih (by simp only[Qn]; omega)
  ·have Rx:=Ou Rx;have hk:k=l.length:=Qo;subst hk;rw[za7.2 hI]
theorem z5v{a:Int}{w:Wo}{b:Nat}{t:TypeId}{fz:Nat×Nat}(h:w.heap[b]? = some (.cells ([I a]:List Va).toArray t fz)):PX [] ZY #[.slice (some ⟨b,0,none⟩) 1 1] w (.bool (hB a)):=by
 have:=zlz (l:=[a]) (c:=1) (bs:=[]) (Lc h Qs) (by simp[maxLen])
 simpa using this
theorem z57{a b2:Int}{w:Wo}{b:Nat}{t:TypeId}{fz:Nat×Nat}(h:w.heap[b]? = some (.cells ([I a,I b2]:List Va).toArray t fz)):PX [] ZY #[.slice (some ⟨b,0,none⟩) 2 2] w (.bool (hB a&&hB b2)):=by
 have:=zlz (l:=[a,b2]) (c:=2) (bs:=[]) (Lc h Qs) (by simp[maxLen])
 simpa using this
theorem z5w{a b2 b3:Int}{w:Wo}{b:Nat}{t:TypeId}{fz:Nat×Nat}(h:w.heap[b]? = some (.cells ([I a,I b2,I b3]:List Va).toArray t fz)):PX [] ZY #[.slice (some ⟨b,0,none⟩) 3 3] w (.bool (hB a&&(hB b2&&hB b3))):=by
 have:=zlz (l:=[a,b2,b3]) (c:=3) (bs:=[]) (Lc h Qs) (by simp[maxLen])
 simpa using this
def z2i(W:Q8):Nat->Bool
 | 0=>hB W.now
 | k+1=>z2i W k&&(hB (gi W.IE (k:Int)).busy&&hB (gi W.IE (k:Int)).idle)
def z2m(W:Q8):Nat->Bool
 | 0=>z2i W W.IE.length
 | k+1=>z2m W k&&(hB (gi W.tasks (k:Int)).v&&(hB (gi W.tasks (k:Int)).sum&&hB (gi W.tasks (k:Int)).used))
def z3s(W:Q8)(g:Int)(b0:Bool):Nat->Bool
 | 0=>b0
 | q+1=>z3s W g b0 q&&(hB (Qa W g (q:Int)).floor&&(hB (Qa W g (q:Int)).v&&hB (Qa W g (q:Int)).sum))
def zye(W:Q8):Nat->Bool
 | 0=>z2m W W.tasks.length
 | k+1=>z3s W (k:Int) (zye W k&&hB (gi W.ID (k:Int)).sum) (gi W.ID (k:Int)).IF.length
theorem zxf{v:Int}:hB v=true↔v<=Qn:=decide_eq_true_iff
theorem z2j{W:Q8}:∀k:Nat,z2i W k=true↔W.now<=Qn/\∀j:Nat,j<k->(gi W.IE (j:Int)).busy<=Qn/\(gi W.IE (j:Int)).idle<=Qn
 | 0=>by simp only[z2i,zxf]; exact⟨λh=>⟨h,λj hj=>by omega⟩,λh=>h.1⟩
 | k+1=>by
  simp only[z2i,A',zxf,z2j k];constructor
  ·rintro⟨⟨h1,h2⟩,h3⟩;refine⟨h1,λj hj=>?_⟩
   by_cases e:j=k
   ·subst e; exact h3
   ·exact h2 j Qo
  ·rintro⟨h1,h2⟩;exact⟨⟨h1,λj hj=>h2 j Qo⟩,h2 k Qo⟩
theorem z2n{W:Q8}:∀k:Nat,z2m W k=true↔z2i W W.IE.length=true/\∀j:Nat,j<k->(gi W.tasks (j:Int)).v<=Qn/\(gi W.tasks (j:Int)).sum<=Qn/\(gi W.tasks (j:Int)).used<=Qn
 | 0=>by simp only[z2m]; exact⟨λh=>⟨h,λj hj=>by omega⟩,λh=>h.1⟩
 | k+1=>by
  simp only[z2m,A',zxf,z2n k];constructor
  ·rintro⟨⟨h1,h2⟩,h3⟩;refine⟨h1,λj hj=>?_⟩
   by_cases e:j=k
   ·subst e; exact h3
   ·exact h2 j Qo
  ·rintro⟨h1,h2⟩;exact⟨⟨h1,λj hj=>h2 j Qo⟩,h2 k Qo⟩
theorem z2l{W:Q8}{g:Int}{b0:Bool}:∀k:Nat,z3s W g b0 k=true↔b0=true/\∀j:Nat,j<k->(Qa W g (j:Int)).floor<=Qn/\(Qa W g (j:Int)).v<=Qn/\(Qa W g (j:Int)).sum<=Qn
 | 0=>by simp only[z3s]; exact⟨λh=>⟨h,λj hj=>by omega⟩,λh=>h.1⟩
 | k+1=>by
  simp only[z3s,A',zxf,z2l k];constructor
  ·rintro⟨⟨h1,h2⟩,h3⟩;refine⟨h1,λj hj=>?_⟩
   by_cases e:j=k
   ·subst e; exact h3
   ·exact h2 j Qo
  ·rintro⟨h1,h2⟩;exact⟨⟨h1,λj hj=>h2 j Qo⟩,h2 k Qo⟩
theorem z2k{W:Q8}:∀k:Nat,zye W k=true↔z2m W W.tasks.length=true/\∀j:Nat,j<k->(gi W.ID (j:Int)).sum<=Qn/\∀q:Nat,q<(gi W.ID (j:Int)).IF.length->(Qa W (j:Int) (q:Int)).floor<=Qn/\(Qa W (j:Int) (q:Int)).v<=Qn/\(Qa W (j:Int) (q:Int)).sum<=Qn
 | 0=>by simp only[zye]; exact⟨λh=>⟨h,λj hj=>by omega⟩,λh=>h.1⟩
 | k+1=>by
  simp only[zye,z2l,A',zxf,z2k k];constructor
  ·rintro⟨⟨⟨h1,h2⟩,h3⟩,h4⟩;refine⟨h1,λj hj=>?_⟩
   by_cases e:j=k
   ·subst e; exact⟨h3,h4⟩
   ·exact h2 j Qo
  ·rintro⟨h1,h2⟩;exact⟨⟨⟨h1,λj hj=>h2 j Qo⟩,(h2 k Qo).1⟩,(h2 k Qo).2⟩
theorem z1u(W:Q8):zye W W.ID.length=QT W:=by
 have key:zye W W.ID.length=true↔LO W:=by
  rw[z2k,z2n,z2j];constructor
  ·rintro⟨⟨⟨h1,h2⟩,h3⟩,h4⟩;have e:∀{i:Int},0<=i->((i.toNat:Nat):Int)=i:=λh=>by omega
   refine⟨h1,λc a b=>?_,λc a b=>?_,λc a b=>?_,λk c a b c0 c1=>?_⟩
   ·have:=h2 c.toNat Qo; rwa[e a] at this
   ·have:=h3 c.toNat Qo; rwa[e a] at this
   ·have:=(h4 c.toNat Qo).1; rwa[e a] at this
   ·have:=(h4 k.toNat Qo).2 c.toNat (by rw[e a]; omega); rwa[e a,e c0] at this
  ·intro r;exact⟨⟨⟨r.n,λj hj=>r.c (j:Int) Qo Qo⟩,λj hj=>r.t (j:Int) Qo Qo⟩,λj hj=>⟨r.g (j:Int) Qo Qo,λq hq=>r.s (j:Int) (q:Int) Qo Qo Qo Qo⟩⟩
 unfold QT
 cases hb:Ub (LO W) with
 | true=>exact key.2 (Qj.1 hb)
 | false=>
  cases ho:zye W W.ID.length with
  | false=>rfl
  | true=>exact Ir (key.1 ho) (GC.1 hb)
theorem zk3{a b:Bool}(h:a=true->False):(a&&b)=false:=by
 cases a with
 | false=>rfl
 | true=>exact(h rfl).elim
def zwq(I:Bool->Nat->Prop)(vs:List Va):Prop:=∃(x:Bool) (k:Nat),I x k/\vs=[.bool x,.int .i64 (k:Int)]
theorem zsn{B:(List Va->Prop)->(List Va->Nat)->Bool->Int->Prop}(n:Nat){xi:Bool}{si:Int}(s:Nat)(hs:si=s)(I:Bool->Nat->Prop)(h0:I xi s)(hB:∀(x:Bool) (k:Nat),I x k->B (zwq I) (Xy n 1) x (k:Int)) :
  ∃(IL:List Va->Prop) (mu:List Va->Nat),IL [.bool xi,.int .i64 si]/\∀(x:Bool) (i:Int),IL [.bool x,.int .i64 i]->B IL mu x i:=by
 refine⟨zwq I,Xy n 1,⟨xi,s,h0,by rw[hs]⟩,?_⟩;rintro x i ⟨x',k,hI,he⟩;simp only[I4,I5,Value.bool.injEq,true_and,and_true] at he;obtain⟨rfl,rfl⟩:=he;exact hB x k hI
theorem UJ{n k:Nat}{I:Bool->Nat->Prop}{x x':Bool}(hk:k<n)(hI:I x' (k+1)):zwq I [.bool x',.int .i64 ((k:Int)+1)]/\Xy n 1 [.bool x',.int .i64 ((k:Int)+1)]<Xy n 1 [.bool x,.int .i64 (k:Int)]:=by
 refine⟨⟨x',k+1,hI,Qs⟩,?_⟩;simp only[Xy,ZE,Ie,List.getElem?_cons_succ];omega
section
variable {W:Q8}{m:MW}{w:Wo}{bs:List Nat}{p:OA}
theorem zl0(h:Tj bs w p W m)(ha:WA W):PX bs VV #[.pointer p] w (.bool (QT W)):=by
 rw[<-z1u];refine Bu p λwr hx=>?_
 have h:=(h.ext hx).less (cs:=[]) Qs;have eM:=ha.t;have bZ:=ha.gl;have rV:=ha.c2;refine⟨h.some,_,h.now,λb hb=>⟨hB W.now,λwx _ hc=>z5v hc,h.some,_,_,_,h.IE,?_⟩⟩;refine zsn W.IE.length 0 rfl (λx k=>k<=W.IE.length/\x=z2i W k) ⟨Ic _,rfl⟩ λx k ⟨hk,RZ⟩=>⟨λIN=>?_,λRx=>?_⟩
 ·have IN:=Ot IN;refine⟨h.rd.c.ix Y6 Qo IN,_,_,_,_,_,h.rd.c k Qo IN,λb1 cJ=>⟨λ_ b2 bR=>⟨_,λ_ wx _ hc=>z57 hc,⟨Qo,Qo⟩,UJ Qo ⟨Qo,by rw[RZ]; rfl⟩⟩,λhn=>⟨⟨Qo,Qo⟩,UJ Qo ⟨Qo,?_⟩⟩⟩⟩;simp only[z2i]; rw[<-RZ,zk3 hn]
 have Rx:=Ou Rx;have hkk:k=W.IE.length:=Qo;subst hkk;refine⟨h.some,_,_,_,h.tasks,?_⟩;refine zsn W.tasks.length 0 rfl (λx k=>k<=W.tasks.length/\x=z2m W k) ⟨Ic _,RZ⟩ λx k ⟨hk,RZ⟩=>⟨λIN=>?_,λRx=>?_⟩
 ·have IN:=Ot IN;refine⟨h.rd.t.ix QF Qo IN,_,_,_,_,_,_,_,_,_,h.rd.t k Qo IN,λb1 cJ=>⟨λ_ b2 bR=>⟨_,λ_ wx _ hc=>z5w hc,⟨Qo,Qo⟩,UJ Qo ⟨Qo,by rw[RZ]; rfl⟩⟩,λhn=>⟨⟨Qo,Qo⟩,UJ Qo ⟨Qo,?_⟩⟩⟩⟩;simp only[z2m]; rw[<-RZ,zk3 hn]
 have Rx:=Ou Rx;have hkk:k=W.tasks.length:=Qo;subst hkk;refine⟨h.some,_,_,_,h.ID,?_⟩;refine zsn W.ID.length 0 rfl (λx k=>k<=W.ID.length/\x=zye W k) ⟨Ic _,RZ⟩ λx k ⟨hk,RZ⟩=>⟨λIN=>?_,λRx=>?_⟩
 ·have IN:=Ot IN;have hsl:(gi W.ID (k:Int)).IF.length<=4:=(KM ha (k:=(k:Int)) Qo Qo).2.2;have hrs:=h.rd.g.IF (k:Int) Qo IN;rw[Ig] at hrs
  have inner:∀{b0:Bool},b0=(zye W k&&hB (gi W.ID (k:Int)).sum)->∃(IL:List Va->Prop) (mu:List Va->Nat),IL [.bool b0,I 0]/\∀(ok3:Bool) (bY:Int),IL [.bool ok3,I bY]->
    ((decide (bY<(((gi W.ID (k:Int)).IF.length:Nat):Int)))=true->
     Ix (m.ms k).sO (gi W.ID (k:Int)).IF.length bY/\
     (∃(x03:Int) (x15:Bool) (x23:Int) (x33:Int) (x43:Int),
     Q1 [] wr (m.ms k).sO (Int.toNat bY*5) [I x03,.bool x15,I x23,I x33,I x43]/\
     (∀b7,wr.heap.size<=b7->
     (ok3=true->(∀b8,wr.heap.size<=b8->
     (∃(vF:Bool),
     (ok3=true->(∀wx4,Q0 [] wr wx4->wx4.heap[b8]? = some (Obj.cells ([I x03,I x23,I x43]:List Va).toArray Qc (0,0))->PX [] ZY #[.slice (some (Addr.mk b8 0 none)) 3 3] wx4 (.bool vF)))/\
     Ql .i64 (bY+1)/\
     IL [.bool (ok3&&vF),I (bY+1)]/\mu [.bool (ok3&&vF),I (bY+1)]<mu [.bool ok3,I bY])))/\
     ((ok3=true->False)->
     Ql .i64 (bY+1)/\
     IL [.bool false,I (bY+1)]/\mu [.bool false,I (bY+1)]<mu [.bool ok3,I bY]))))/\
    ((decide (bY<(((gi W.ID (k:Int)).IF.length:Nat):Int)))=false->ok3=zye W (k+1)):=λ{b0} hb0=>by
   refine zsn (gi W.ID (k:Int)).IF.length 0 rfl (λx q=>q<=(gi W.ID (k:Int)).IF.length/\x=z3s W (k:Int) (zye W k&&hB (gi W.ID (k:Int)).sum) q) ⟨Ic _,hb0⟩ λx q ⟨hq,R5⟩=>⟨λRA=>?_,λaN=>?_⟩
   ·have RA:=Ot RA;refine⟨hrs.ix X0 Qo RA,_,_,_,_,_,hrs q Qo RA,λb7 hb7=>⟨λ_ b8 hb8=>⟨_,λ_ wx _ hc=>z5w hc,⟨Qo,Qo⟩,UJ Qo ⟨Qo,by rw[R5]; rfl⟩⟩,λhn=>⟨⟨Qo,Qo⟩,UJ Qo ⟨Qo,?_⟩⟩⟩⟩;simp only[z3s]; rw[<-R5,zk3 hn]
   ·have aN:=Ou aN;have:q=(gi W.ID (k:Int)).IF.length:=Qo;rw[R5,this]; rfl
  refine⟨h.rd.g.ix Qo IN,_,_,_,_,_,_,_,_,_,_,_,_,_,_,_,_,_,_,_,_,h.rd.g.cells (k:Int) Qo IN,λb5 hb5=>⟨λ_ b6 hb6=>⟨hB (gi W.ID (k:Int)).sum,λ_ wx _ hc=>z5v hc,?_⟩,λhn=>?_⟩⟩
  ·obtain⟨xI,mu,h0,hI⟩:=inner (b0:=x&&hB (gi W.ID (k:Int)).sum) (by rw[RZ]);refine⟨xI,mu,h0,λok3 bY hi=>⟨(hI ok3 bY hi).1,λaN=>⟨⟨Qo,Qo⟩,?_⟩⟩⟩;have e:=(hI ok3 bY hi).2 aN;exact UJ Qo ⟨Qo,e⟩
  ·obtain⟨xI,mu,h0,hI⟩:=inner (b0:=false) (by rw[<-RZ,zk3 hn]);refine⟨xI,mu,h0,λok3 bY hi=>⟨(hI ok3 bY hi).1,λaN=>⟨⟨Qo,Qo⟩,?_⟩⟩⟩;have e:=(hI ok3 bY hi).2 aN;exact UJ Qo ⟨Qo,e⟩
 ·have Rx:=Ou Rx;have hkk:k=W.ID.length:=Qo;subst hkk;rw[RZ]
end
def K7(w:Wo):Prop:=w.cell? ⟨0,0,none⟩=some (.iface 174 (.agg #[.pointer (some ⟨1,67,none⟩)]))
theorem K7.ext{w w':Wo}(h:K7 w)(hx:Q0 [] w w'):K7 w':=by
 have IN:0<w.heap.size:=by
  rcases Nat.eq_zero_or_pos w.heap.size with h0 | h1
  ·unfold K7 at h; simp[World.cell?,h0] at h
  ·exact h1
 have hb:=hx.block 0 IN Qs;unfold K7 at h ⊢;unfold World.cell? at h ⊢
 dsimp only at h ⊢
 rw[hb];exact h
theorem z03(t:Va)(w:Wo):Cz Lw #[.nilIface,t] w λe w'=>e=.returned (.bool false)/\Q0 [] w w':=(z2w t w).mono λe w' ⟨he,hw⟩=>⟨he,by rw[hw]; exact Q0.refl _ _⟩
theorem zxt{n:Int}{t:Nat}{old:Int}{w:Wo}{ty:TypeId}(hg:K7 w)(ht:w.heap[t]? = some (.cells ([I old]:List Va).toArray ty (0,0))) :
  Cz Lw #[.iface Zp (.agg #[I n]),.iface Jb (.pointer (some ⟨t,0,none⟩))] w λe w'=>e=.returned (.bool true)/\w'.heap[t]? = some (.cells ([I n]:List Va).toArray ty (0,0))/\Q0 [t] w w':=by
 refine(z2u n ⟨t,0,none⟩ (I old) w hg (by rw[Tt ht]; rfl) (by simp[World.frozen?,ht])).mono λe w' ⟨he,hw⟩=>⟨he,?_⟩
 subst hw;have hx:=(((((Q0.refl [] w).alloc (.cells #[.pointer (some ⟨t,0,none⟩)] Jb)).alloc (.cells #[.pointer (some ⟨1,Jb,none⟩),.pointer (some ⟨w.heap.size,0,none⟩),.int .u64 150] JD)).alloc (.cells #[.pointer (some ⟨1,Jb,none⟩),.pointer (some ⟨w.heap.size,0,none⟩),.int .u64 150] JD)).alloc (.cells #[I n] Zp));have hb:=QB ht hx Qs;refine⟨?_,?_⟩
 ·have:=M3 (k:=0) (n:=0) (vs:=[I n]) hb;exact this
 ·exact hx.of_nil.setCell (p:=⟨t,0,none⟩) (.inr Qs) _
structure E4 (base pb:Nat) (ex:List Nat) (w:Wo) (m:MW) (w':Wo) (W':Q8) (m':MW):Prop where
 own:Zo 8 base w' W' m'
 pt:w'.heap[pb]? = some (.cells (Qb W' m').toArray Q5 (0,0))
 ext:Q0 (ex++(pb::QU 8 m)) w w'
 sub:∀x∈QU 8 m',x∈QU 8 m\/w.heap.size<=x
theorem Mp.done{base pb:Nat}{ex:List Nat}{w w':Wo}{W':Q8}{m m':MW}(h:Mp base pb [] w m w' W' m'):E4 base pb ex w m w' W' m':=
 ⟨h.v.own,h.pt,h.v.ext.mono λx hx=>Iy _ (I1 _ hx),h.v.sub⟩
def z4b(ex:List Nat)(r:Q8×Int)(w:Wo)(v:Va)(w':Wo):Prop:=∃n m',v=.tuple #[.agg (Qb r.1 m').toArray,I r.2]/\Zo n w.heap.size w' r.1 m'/\Q0 ex w w'
section
variable {W W':Q8}{m:MW}{w:Wo}{bar:Int}
theorem zqj{cf:Fn}{ca ck:Array Va}(ex:List Nat)(P:Wo->Prop)(hP:∀(a b:Wo) (bs:List Nat),P a->Q0 bs a b->(∀x∈bs,w.heap.size<=x)->P b)(hex:∀x∈ex,x<w.heap.size)(hz:0∉ex)(h:XE [] w W m)(hr:∀x∈ex,∀w1,Q0 ex w w1->XE [] w1 W m)(hl:Ua W)(hg:K7 w)(Rq:∀(w1:Wo) (pb:Nat) (m1:MW),QD W=true->Q0 [] w w1->w.heap.size<=pb->PW w.heap.size pb w1 W m1->
   Tb Tryz.prog (.func cf ca ck) [.pointer (pA pb)] w1 λe w2=>(bar≠0/\e=.returned (.iface Zp (.agg #[I bar]))/\Q0 [] w1 w2)\/(bar=0/\e=.returned .nilIface/\P w2/\∃m2,E4 w.heap.size pb ex w1 m1 w2 W' m2)) :
  Cz VC #[.agg (Qb W m).toArray,.func cf ca ck] w λe w'=>∃v,e=.returned v/\z4b ex (YY W bar W') w v w'/\(QD W=true->bar=0->P w')/\(QD W=false\/bar≠0->Q0 [] w w'):=by
 refine zc3 _ _ _ _ _ _ _ _ _ _ cf ca ck (R:=λv w'=>z4b ex (YY W bar W') w v w'/\(QD W=true->bar=0->P w')/\(QD W=false\/bar≠0->Q0 [] w w')) ?_;intro x hx x1 RZ;refine⟨_,GS h hl.c hl.g hl.f,λg wr R5=>?_,λg I' R5 bX=>?_⟩
 ·have hW:QD W=false:=by simpa using g
  refine⟨?_,λhw=>(by rw[hW] at hw; cases hw),λ_=>R5⟩;rw[zr1 hW];exact⟨0,zzt,rfl,Zo.zero _ _,R5.of_nil⟩
 have hW:QD W=true:=by simpa using g
 have wp:=Qj.1 hW;have s1:Sc w [x,x1] I':=(((Sc.start w).add hx).add RZ).R4 R5;refine I3 (AN (h.ext R5) wp.a) ?_;rintro e wv ⟨m1,he,hM1,cP⟩;have s2:=s1.R4 cP;have jQ:=(OW.of hM1 bX).mono R5.size;refine⟨_,_,_,_,_,_,_,_,_,_,he,Qf cP bX,λb2 wb hxb bR hcb hn2=>?_⟩;have s3:=s2.step hxb;have zW:=jQ.step hxb;have Cp9:w.heap.size<=b2:=IB s2.ext.size bR
 have cN:b2∉QU 8 m1:=λhm=>by
  have:=(jQ.own.lt b2 hm).2;omega
 refine⟨M5 (k0:=0) hcb hn2 Qs,λb3 vT CB1 vK Cq9 hn3=>?_⟩;have oH:=M3 (k:=0) (n:=0) (vs:=Qb W m1) hcb;have CA5:Q0 [b2] wb (R9 wb (some ⟨b2,0,none⟩) 0 (Qb W m1)):=JS λa ha=>by cases ha; simp
 have hO4 := (zW.call CA5 fun y hy hm => cN (by have:y=b2:=by simpa using hm
                                                exact this▸hy)).step CB1
 have s4 := (s3.call CA5 fun y hy => by have:y=b2:=by simpa using hy
                                        omega).step CB1
 have Cv0:vT.heap[b2]? = some (.cells (Qb W m1).toArray Q5 (0,0)):=QB oH CB1 hn2
 have DH8:b2≠b3:=λe=>by
  have:=JG oH;have CN0:(R9 wb (some ⟨b2,0,none⟩) 0 (Qb W m1)).heap.size<=b3:=vK;omega
 have DI1:w.heap.size<=b3:=by
  have h1:=CA5.size;have h2:=s3.ext.size;have CN0:(R9 wb (some ⟨b2,0,none⟩) 0 (Qb W m1)).heap.size<=b3:=vK;omega
 intro M' SK SR;have hO5:=hO4.step SK;have s5:=s4.step SK;have Cv1:=QB Cv0 SK hn2;have hc5:=QB Cq9 SK hn3;refine Tb.mono (Rq M' b2 m1 hW s5.ext Cp9 ⟨hO5.own,Cv1,cN⟩) ?_;rintro e1 R8 (⟨hb0,gP,hy⟩ | ⟨hb0,gP,hPw,m2,hD⟩)
 ·
  refine⟨_,gP,Qf hy SR,λRr Sm fQ=>?_⟩;have s6:=(s5.R4 hy).step Sm;have hc6:=QB (QB hc5 hy Qs) Sm hn3;refine I3 (zxt (hg.ext s6.ext) hc6) ?_;rintro e2 RF ⟨aR,hc7,SI⟩
  have s7 := s6.call SI fun y hy => by have:y=b3:=by simpa using hy
                                       omega
  have Ss:∀{w9:Wo},Q0 [x,x1] RF w9->Q1 [x,x1] w9 (some ⟨b3,0,none⟩) (0+0) [I bar]:=λh9=>U2 (QB hc7 h9 hn3) hn3 (k0:=0) rfl
  refine ⟨true, aR, H0 SI fQ (fun y hm gI => by have:y=b3:=by simpa using hm
                                                exact hn3 (this▸gI)),λ_=>⟨bar,Ss (Q0.refl _ _),λRu WT eZ=>?_⟩,λg=>by cases g⟩
  have s8:=s7.step WT;refine I3 (AN (h.ext s8.ext) wp.a) ?_;rintro e3 RU ⟨m3,jR,iV,gH⟩;have s9:=s8.R4 gH;have hO9:=(OW.of iV eZ).mono s8.ext.size;have hc9:Q1 [x,x1] RU (some ⟨b3,0,none⟩) (0+0) [I bar]:=U2 (QB (QB hc7 WT hn3) gH Qs) hn3 (k0:=0) rfl;refine⟨_,_,_,_,_,_,_,_,_,_,jR,Qf gH eZ,hc9,hc9,λRN eB=>⟨?_,λ_ hb=>Ir hb hb0,λ_=>(s9.step eB).ext⟩⟩;rw[zk4 hW hb0];exact⟨8,m3,rfl,(hO9.step eB).own,(s9.step eB).ext.of_nil⟩
 ·
  have Cu5:∀y∈ex++(b2::QU 8 m1),y∉[x,x1]:=λy hy hm=>by
   rcases Im.1 hy with h1 | h1
   ·have:=hex y h1;have:=s1.new y hm;omega
   ·rcases Ii.1 h1 with h1 | h1
    ·subst h1; exact hn2 hm
    ·exact hO5.nb y h1 hm
  refine⟨_,gP,H0 hD.ext SR Cu5,λRr Sm fQ=>?_⟩;refine I3 (z03 _ _) ?_;rintro e2 RF ⟨aR,SI⟩
  have CR5:∀y∈QU 8 m2,y∉[x,x1]:=λy hy hm=>by
   rcases hD.sub y hy with h1 | h1
   ·exact hO5.nb y h1 hm
   ·have:=SR y hm;omega
  have sP:=((hD.own.ext Sm CR5).Wt SI);have Cv2:=QB (QB hD.pt Sm hn2) SI Qs
  have hX2:Q0 ex w R8:=s5.ext.of_nil.fresh hD.ext λy hy=>by
   rcases Im.1 hy with h1 | h1
   ·exact .inr h1
   ·refine .inl ?_;rcases Ii.1 h1 with h1 | h1
    ·omega
    ·exact(hO5.own.lt y h1).1
  have hX3:Q0 ex w RF:=(hX2.fresh Sm λy hy=>.inl (s1.new y hy)).trans SI.of_nil;refine⟨false,aR,Qf SI fQ,λg=>(by cases g),λ_=>⟨_,_,_,_,_,_,_,_,_,_,VQ Cv2 hn2 (k0:=0) (n:=0) λj v hj=>by simpa[Qb] using hj,λSj WT=>⟨?_,λ_ _=>?_,λhn=>?_⟩⟩⟩
  ·rw[zpp hW hb0];exact⟨8,m2,rfl,sP.ext WT CR5,hX3.fresh WT λy hy=>.inl (s1.new y hy)⟩
  ·exact hP _ _ _ (hP _ _ _ (hP _ _ _ hPw Sm s1.new) SI Qs) WT s1.new
  ·rcases hn with h1 | h1
   ·rw[hW] at h1; cases h1
   ·exact Ir hb0 h1
theorem zuk{cf:Fn}{ca ck:Array Va}(h:XE [] w W m)(hl:Ua W)(hg:K7 w)(Rq:∀(w1:Wo) (pb:Nat) (m1:MW),QD W=true->Q0 [] w w1->w.heap.size<=pb->PW w.heap.size pb w1 W m1->
   Tb Tryz.prog (.func cf ca ck) [.pointer (pA pb)] w1 λe w2=>(bar≠0/\e=.returned (.iface Zp (.agg #[I bar]))/\Q0 [] w1 w2)\/(bar=0/\e=.returned .nilIface/\∃m2,E4 w.heap.size pb [] w1 m1 w2 W' m2)) :
  Cz VC #[.agg (Qb W m).toArray,.func cf ca ck] w λe w'=>∃v,e=.returned v/\QR (YY W bar W') w v w':=
 (zqj [] (λ_=>True) (λ_ _ _ _ _ _=>trivial) Qs Qs h Qs hl hg λw1 pb m1 a b c d=>(Rq w1 pb m1 a b c d).mono λe w2 hh=>by
  rcases hh with h1 | ⟨h1,h2,h3⟩
  ·exact .inl h1
  ·exact .inr ⟨h1,h2,trivial,h3⟩).mono λe w' ⟨v,he,hA,_⟩=>⟨v,he,hA⟩
end
end Go.Proofs.YtnclplgaicdapaaGreatDoor
