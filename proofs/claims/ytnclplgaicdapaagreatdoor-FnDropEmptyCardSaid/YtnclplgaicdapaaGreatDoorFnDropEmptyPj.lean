/- Part 10 of what the law FnDropEmpty needs. -/
import Derived.Test.YtnclplgaicdapaaGreatDoorFnDropEmptyPi
import Derived.LaidEql
import Derived.Stop.Asserts
import Derived.RowKitTokens
set_option linter.unusedVariables false
set_option linter.unusedSimpArgs false
set_option maxRecDepth 100000
set_option maxHeartbeats 8000000
namespace Go.Proofs.YtnclplgaicdapaaGreatDoor
open Go.RowKit
section
open Go.RowKit Go.Extern.Stop Go.Stop Go.Extern
theorem zun(t:Va)(w:Wo) :
  Cz 173 #[.nilIface,t] w fun e w'=>e=.returned (.bool false)/\w'=w:=by
 go_enter Tryz.func173,Tryz.ntmps173
 go_wp2
 go_ret
 exact⟨rfl,rfl⟩
theorem zfz(t:Addr)(w:Wo):(ReflectliteValue.unpack (.iface 130 (.pointer (some t)))).run Tryz.prog w
  = .ok (.agg #[.pointer (some ⟨1,130,none⟩),.pointer (some ⟨w.heap.size,0,none⟩),.int .u64 150]) (w.alloc (.cells #[.pointer (some t)] 130)):=Qk
theorem zom (a : Addr) (w : World) : (ReflectliteValue.methodAny (ReflectliteValue.valueError "reflectlite.Value.Type" 0) (fun t _ _ _ => ReflectliteType.toType t) #[.agg #[.pointer (some ⟨1, 130, none⟩), .pointer (some a), .int .u64 150]]).run Tryz.prog w
  = .ok (.iface 174 (.agg #[.pointer (some ⟨1,130,none⟩)])) w:=Qk
theorem zac (h : Value) (w : World) : (Go.method 343 174 (.agg #[h]) "Kind").run Tryz.prog w = .ok (296, h) w := by kernel_rfl
theorem zoj(w:Wo):((ReflectliteType.abiMethod fun t=>(fun a:Nat=>Value.int IntKind.u8 (a:Int)) <$> Rtype.kind t) #[.pointer (some ⟨1,130,none⟩)]).run Tryz.prog w=.ok (.int .u8 22) w:=Qk
theorem zoi(w:Wo):((ReflectliteType.abiMethod fun t=>(fun a:Nat=>Value.int IntKind.u8 (a:Int)) <$> Rtype.kind t) #[.pointer (some ⟨1,69,none⟩)]).run Tryz.prog w=.ok (.int .u8 25) w:=Qk
theorem zol(z:Sem Va)(f:TypeId->Addr->Nat->Nat->Sem Va)(v:Va) :
  ReflectliteValue.method z f #[v]=(do match <-ReflectliteValue.parts v with | none=>z | some (t,a,fl)=>f t a fl (fl % 32)):=rfl
theorem zbw(a:Addr)(w:Wo):(ReflectliteValue.parts (.agg #[.pointer (some ⟨1,130,none⟩),.pointer (some a),.int .u64 150])).run Tryz.prog w=.ok (some (130,a,150)) w:=Qk
theorem zbx:Tryz.prog.underlying 130=some (.pointer 69):=Qk
theorem zl9 (a p:Addr) (W:Wo) (ha:W.cell? a=some (.pointer (some p))) :
  (ReflectliteValue.method (ReflectliteValue.valueError "reflectlite.Value.IsNil" 0) ReflectliteValue.isNil #[.agg #[.pointer (some ⟨1, 130, none⟩), .pointer (some a), .int .u64 150]]).run Tryz.prog W = .ok (.bool false) W := by
 rw[zol]
 simp only[Sem.run_bind,zbw,Result.andThen]
 simp[ReflectliteValue.isNil,loadVar,isAgg,underlying,zbx,ha,Result.andThen]
theorem zab (h : Value) (w : World) : (Go.method 343 174 (.agg #[h]) "Elem").run Tryz.prog w = .ok (314, .agg #[h]) w := by kernel_rfl
theorem LE (h : Value) (w : World) : (Go.method 343 174 (.agg #[h]) "Implements").run Tryz.prog w = .ok (315, .agg #[h]) w := by kernel_rfl
theorem K5 (h : Value) (w : World) : (Go.method 343 174 (.agg #[h]) "AssignableTo").run Tryz.prog w = .ok (312, .agg #[h]) w := by kernel_rfl
theorem zog(w:Wo):(ReflectliteType.method ReflectliteType.elem #[.agg #[.pointer (some ⟨1,130,none⟩)]]).run Tryz.prog w=.ok (.iface 174 (.agg #[.pointer (some ⟨1,69,none⟩)])) w:=Qk
theorem zoh (w : World) : (ReflectliteType.relation "Implements" ReflectliteType.implements_ #[.agg #[.pointer (some ⟨1, 69, none⟩)], .iface 174 (.agg #[.pointer (some ⟨1, 67, none⟩)])]).run Tryz.prog w = .ok (.bool true) w := by kernel_rfl
theorem zig(v:Va)(w:Wo):(ReflectliteType.typeOf #[.iface 69 v]).run Tryz.prog w=.ok (.iface 174 (.agg #[.pointer (some ⟨1,69,none⟩)])) w:=Qk
theorem zic (w : World) : (ReflectliteType.relation "AssignableTo" ReflectliteType.assignableTo #[.agg #[.pointer (some ⟨1, 69, none⟩)], .iface 174 (.agg #[.pointer (some ⟨1, 69, none⟩)])]).run Tryz.prog w = .ok (.bool true) w := by kernel_rfl
theorem zfy(n:Int)(w:Wo):(ReflectliteValue.unpack (.iface 69 (.agg #[I n]))).run Tryz.prog w
  = .ok (.agg #[.pointer (some ⟨1,69,none⟩),.pointer (some ⟨w.heap.size,0,none⟩),.int .u64 153]) (w.alloc (.cells #[I n] 69)):=Qk
theorem zie(w:Wo):(Rtype.elem? 130).run Tryz.prog w=.ok (some 69) w:=Qk
theorem zum(p:Addr)(w:Wo):(ReflectliteValue.mk 69 p ReflectliteValue.flagAddr).run Tryz.prog w=.ok (.agg #[.pointer (some ⟨1,69,none⟩),.pointer (some p),.int .u64 409]) w:=Qk
theorem zl8 (a p:Addr) (W:Wo) (ha:W.cell? a=some (.pointer (some p))) :
  (ReflectliteValue.method (ReflectliteValue.valueError "reflectlite.Value.Elem" 0) ReflectliteValue.elem #[.agg #[.pointer (some ⟨1, 130, none⟩), .pointer (some a), .int .u64 150]]).run Tryz.prog W
   = .ok (.agg #[.pointer (some ⟨1,69,none⟩),.pointer (some p),.int .u64 409]) W:=by
 rw[zol]
 simp only[Sem.run_bind,zbw,Result.andThen]
 simp[ReflectliteValue.elem,loadVar,isAgg,underlying,zbx,ha,Result.andThen,zie,zum]
theorem zif(a:Addr)(w:Wo):(ReflectliteValue.parts (.agg #[.pointer (some ⟨1,69,none⟩),.pointer (some a),.int .u64 409])).run Tryz.prog w=.ok (some (69,a,409)) w:=Qk
theorem zma(a:Addr)(w:Wo):(ReflectliteValue.parts (.agg #[.pointer (some ⟨1,69,none⟩),.pointer (some a),.int .u64 153])).run Tryz.prog w=.ok (some (69,a,153)) w:=Qk
theorem zid(w:Wo):(Rtype.directlyAssignable 69 69).run Tryz.prog w=.ok true w:=Qk
theorem zuo (v x:Va):ReflectliteValue.set #[v,x]=(do
  let (some (dst,a,fl),some (src,b,_)):=(<-ReflectliteValue.parts v,<-ReflectliteValue.parts x)
   | unsupported (.noEntry "extern/(internal/reflectlite.Value).Set.zeroValue")
  if fl / ReflectliteValue.flagAddr % 2 == 0 then unsupported (.noEntry "extern/(internal/reflectlite.Value).Set.unaddressable")
  let val <-loadVar src b
  if <-Rtype.directlyAssignable dst src then storeVar dst a val
  else if <-Rtype.implements dst src then
   if (<-Rtype.kind src)==20 then
    match val with
    | .nilIface => unsupported (.noEntry "extern/reflectlite: a nil value of one interface type handed on as a value of another")
    | _=>storeVar dst a val
   else storeVar dst a (.iface src val)
  else panicString ("reflectlite.Set: value of type " ++ (← Rtype.spelt src) ++ " is not assignable to type " ++ (← Rtype.spelt dst))
  pure (.tuple #[])):=rfl
theorem zrq(w:Wo):(isAgg 69).run Tryz.prog w=.ok true w:=Qk
theorem zfx(w:Wo):(sizeOf 69).run Tryz.prog w=.ok 1 w:=Qk
theorem zok(b:Addr)(n:Int)(W:Wo)(hb:W.cell? b=some (I n)):(loadVar 69 b).run Tryz.prog W=.ok (.agg #[I n]) W:=by
 unfold loadVar;simp only[Sem.run_bind,zrq,Result.andThen,if_true];simp only[Sem.run_bind,zfx,Result.andThen];have e:b.add 0=b:=by cases b; rfl
 simp[loadCells,loadCellsFrom,e,hb,Result.andThen]
theorem zrr(ta b:Addr)(n:Int)(old:Va)(W:Wo)(hb:W.cell? b=some (I n))(ht:W.cell? ta=some old)(hf:W.frozen? ta=false) :
  (ReflectliteValue.set #[.agg #[.pointer (some ⟨1,69,none⟩),.pointer (some ta),.int .u64 409],.agg #[.pointer (some ⟨1,69,none⟩),.pointer (some b),.int .u64 153]]).run Tryz.prog W
   = .ok (.tuple #[]) (W.setCell ta (I n)):=by
 rw[zuo];simp only[Sem.run_bind,zif,zma,Result.andThen];have e:ta.add 0=ta:=by cases ta; rfl
 simp[ReflectliteValue.flagAddr,zok b n W hb,Result.andThen,zid,storeVar,zfx,Value.cells,storeCells,e];rw[run_store Tryz.prog W ta _ _ (by rfl)];simp[ht,hf]
set_option maxHeartbeats 4000000 in
theorem zul (n:Int) (t:Addr) (old:Va) (w:Wo) (hg:w.cell? ⟨0,0,none⟩=some (.iface 174 (.agg #[.pointer (some ⟨1,67,none⟩)]))) (ht0:w.cell? t=some old) (hf0:w.frozen? t=false) :
  Cz 173 #[.iface 69 (.agg #[.int .i64 n]),.iface 130 (.pointer (some t))] w fun ev w'=>ev=.returned (.bool true)/\w'=((((w.alloc (.cells #[.pointer (some t)] 130)).alloc (.cells #[.pointer (some ⟨1,130,none⟩),.pointer (some ⟨w.heap.size,0,none⟩),.int .u64 150] 157)).alloc (.cells #[.pointer (some ⟨1,130,none⟩),.pointer (some ⟨w.heap.size,0,none⟩),.int .u64 150] 157)).alloc (.cells #[.int .i64 n] 69)).setCell t (.int .i64 n):=by
 have h6:=@run_callFunc_extern Tryz.prog 243 _ (fun args=>ReflectliteValue.unpack (args.getD 0 (.tuple #[]))) Tryz.func243 Qk Qk Qk Qk
 have h7 := @run_callFunc_extern Tryz.prog 244 _ (ReflectliteValue.methodAny (ReflectliteValue.valueError "reflectlite.Value.Type" 0) (fun t _ _ _ => ReflectliteType.toType t)) Tryz.func244 (by kernel_rfl) (by kernel_rfl) (by kernel_rfl) (by kernel_rfl)
 have h8 := @run_callFunc_extern Tryz.prog 245 _ (ReflectliteValue.method (ReflectliteValue.valueError "reflectlite.Value.IsNil" 0) ReflectliteValue.isNil) Tryz.func245 (by kernel_rfl) (by kernel_rfl) (by kernel_rfl) (by kernel_rfl)
 have h27:=@run_callFunc_extern Tryz.prog 296 _ (ReflectliteType.abiMethod fun t=>do pure (.int .u8 (<-Rtype.kind t))) Tryz.func296 Qk Qk Qk Qk
 have h37:=@run_callFunc_extern Tryz.prog 314 _ (ReflectliteType.method ReflectliteType.elem) Tryz.func314 Qk Qk Qk Qk
 have h38 := @run_callFunc_extern Tryz.prog 315 _ (ReflectliteType.relation "Implements" ReflectliteType.implements_) Tryz.func315 (by kernel_rfl) (by kernel_rfl) (by kernel_rfl) (by kernel_rfl)
 have h10:=@run_callFunc_extern Tryz.prog 263 _ ReflectliteType.typeOf Tryz.func263 Qk Qk Qk Qk
 have h35 := @run_callFunc_extern Tryz.prog 312 _ (ReflectliteType.relation "AssignableTo" ReflectliteType.assignableTo) Tryz.func312 (by kernel_rfl) (by kernel_rfl) (by kernel_rfl) (by kernel_rfl)
 have h11 := @run_callFunc_extern Tryz.prog 264 _ (ReflectliteValue.method (ReflectliteValue.valueError "reflectlite.Value.Elem" 0) ReflectliteValue.elem) Tryz.func264 (by kernel_rfl) (by kernel_rfl) (by kernel_rfl) (by kernel_rfl)
 have h12:=@run_callFunc_extern Tryz.prog 265 _ ReflectliteValue.set Tryz.func265 Qk Qk Qk Qk
 have tO:=zig
 have mA:=K5
 have a25:=zic
 have v25:=zfy
 have f6:=zfz
 have f7:=zom
 have mK:=zac
 have mE:=zab
 have mI:=LE
 have k27:=zoj
 have k25:=zoi
 have e27:=zog
 have i25:=zoh
 have n8:=zl9 ⟨w.heap.size,0,none⟩ t ((w.alloc (.cells #[.pointer (some t)] 130)).alloc (.cells #[.pointer (some ⟨1,130,none⟩),.pointer (some ⟨w.heap.size,0,none⟩),.int .u64 150] 157)) Qs
 have IQ:0<w.heap.size:=by
  rcases Nat.eq_zero_or_pos w.heap.size with h0 | h
  ·simp[World.cell?,h0] at hg
  ·exact h
 have hg2:((w.alloc (.cells #[.pointer (some t)] 130)).alloc (.cells #[.pointer (some ⟨1,130,none⟩),.pointer (some ⟨w.heap.size,0,none⟩),.int .u64 150] 157)).cell? ⟨0,0,none⟩=some (.iface 174 (.agg #[.pointer (some ⟨1,67,none⟩)])):=by
  rw[World.cell?_alloc_lt _ _ ⟨0,0,none⟩ Qs,World.cell?_alloc_lt _ _ ⟨0,0,none⟩ IQ]; exact hg
 have jV:t.block<w.heap.size:=by
  rcases Nat.lt_or_ge t.block w.heap.size with h | h
  ·exact h
  ·simp[World.cell?,Array.getElem?_eq_none h] at ht0
 have el:=zl8 ⟨w.heap.size,0,none⟩ t (((w.alloc (.cells #[.pointer (some t)] 130)).alloc (.cells #[.pointer (some ⟨1,130,none⟩),.pointer (some ⟨w.heap.size,0,none⟩),.int .u64 150] 157)).alloc (.cells #[.pointer (some ⟨1,130,none⟩),.pointer (some ⟨w.heap.size,0,none⟩),.int .u64 150] 157)) (by rw[World.cell?_alloc_lt _ _ ⟨w.heap.size,0,none⟩ (by simp; omega)]; simp)
 have st:=zrr t ⟨w.heap.size+1+1+1,0,none⟩ n old ((((w.alloc (.cells #[.pointer (some t)] 130)).alloc (.cells #[.pointer (some ⟨1,130,none⟩),.pointer (some ⟨w.heap.size,0,none⟩),.int .u64 150] 157)).alloc (.cells #[.pointer (some ⟨1,130,none⟩),.pointer (some ⟨w.heap.size,0,none⟩),.int .u64 150] 157)).alloc (.cells #[.int .i64 n] 69))
  (by rw[World.cell?_alloc_at _ _ _ _ Qs]; rfl)
  (by rw[World.cell?_alloc_lt _ _ t (by simp; omega),World.cell?_alloc_lt _ _ t (by simp; omega),World.cell?_alloc_lt _ _ t (by simp; omega),World.cell?_alloc_lt _ _ t jV]; exact ht0)
  (by rw[World.frozen?_alloc_old _ _ t (by simp; omega),World.frozen?_alloc_old _ _ t (by simp; omega),World.frozen?_alloc_old _ _ t (by simp; omega),World.frozen?_alloc_old _ _ t (Nat.ne_of_lt jV)]; exact hf0)
 go_enter Tryz.func173,Tryz.ntmps173
 go_wp2
 refine wp_loop_rounds 1 ?_
 rw[rounds_succ]
 go_wp2
 go_ret
 exact⟨rfl,rfl⟩
end
def hB(v:Int):Bool:=decide (v<=Qj)
theorem zen{l:List Int}{o:OA}{c:Nat}{w:Wo}{bs:List Nat}(h:zka bs w o l)(hl:l.length<=maxLen):PX bs ZG #[.slice o l.length c] w (.bool (l.all hB)):=
 ze4 o l.length c fun wr hx=>by
  have h:=(h.ext hx).less (cs:=[]) Qs;refine Xg l.length 0 rfl (fun k=>k<=l.length/\∀j:Nat,j<k->hB (gi l (j:Int))=true) ⟨Ie _,fun j hj=>Is hj (Nat.not_lt_zero j)⟩ fun k ⟨hk,hI⟩=>⟨fun IQ=>?_,fun RH=>?_⟩
  ·have IQ:=Ot IQ;refine⟨h.ix Vg Qo IQ,_,h k Qo IQ,fun g=>?_,fun g=>⟨zem IQ hl,QA Qo ⟨Qo,fun j hj=>?_⟩⟩⟩
   ·have g:=Ot g
    have:l.all hB=false:=by
     cases hb:l.all hB with
     | false=>rfl
     | true=>
      have:=Ot (N8.1 hb k Qo);simp only[Qj] at this;omega
    rw[this]
   ·by_cases gG:j<k
    ·exact hI j gG
    ·have:j=k:=Qo;subst this;have g:=Ou g;exact Ii (by simp only[Qj]; omega)
  ·have RH:=Ou RH;have hk:k=l.length:=Qo;subst hk;rw[N8.2 hI]
theorem zxl{a:Int}{w:Wo}{b:Nat}{t:TypeId}{fz:Nat×Nat}(h:w.heap[b]? = some (.cells ([I a]:List Va).toArray t fz)):PX [] ZG #[.slice (some ⟨b,0,none⟩) 1 1] w (.bool (hB a)):=by
 have:=zen (l:=[a]) (c:=1) (bs:=[]) (Mc h Qs) (by simp[maxLen])
 simpa using this
theorem zxw{a b2:Int}{w:Wo}{b:Nat}{t:TypeId}{fz:Nat×Nat}(h:w.heap[b]? = some (.cells ([I a,I b2]:List Va).toArray t fz)):PX [] ZG #[.slice (some ⟨b,0,none⟩) 2 2] w (.bool (hB a&&hB b2)):=by
 have:=zen (l:=[a,b2]) (c:=2) (bs:=[]) (Mc h Qs) (by simp[maxLen])
 simpa using this
theorem zxm{a b2 b3:Int}{w:Wo}{b:Nat}{t:TypeId}{fz:Nat×Nat}(h:w.heap[b]? = some (.cells ([I a,I b2,I b3]:List Va).toArray t fz)):PX [] ZG #[.slice (some ⟨b,0,none⟩) 3 3] w (.bool (hB a&&(hB b2&&hB b3))):=by
 have:=zen (l:=[a,b2,b3]) (c:=3) (bs:=[]) (Mc h Qs) (by simp[maxLen])
 simpa using this
def zt6(W:Q7):Nat->Bool
 | 0=>hB W.now
 | k+1=>zt6 W k&&(hB (gi W.IE (k:Int)).busy&&hB (gi W.IE (k:Int)).idle)
def zua(W:Q7):Nat->Bool
 | 0=>zt6 W W.IE.length
 | k+1=>zua W k&&(hB (gi W.tasks (k:Int)).v&&(hB (gi W.tasks (k:Int)).sum&&hB (gi W.tasks (k:Int)).used))
def zvk(W:Q7)(g:Int)(b0:Bool):Nat->Bool
 | 0=>b0
 | q+1=>zvk W g b0 q&&(hB (Qc W g (q:Int)).floor&&(hB (Qc W g (q:Int)).v&&hB (Qc W g (q:Int)).sum))
def zqa(W:Q7):Nat->Bool
 | 0=>zua W W.tasks.length
 | k+1=>zvk W (k:Int) (zqa W k&&hB (gi W.ID (k:Int)).sum) (gi W.ID (k:Int)).IF.length
theorem zo9{v:Int}:hB v=true↔v<=Qj:=decide_eq_true_iff
theorem zt7{W:Q7}:∀k:Nat,zt6 W k=true↔W.now<=Qj/\∀j:Nat,j<k->(gi W.IE (j:Int)).busy<=Qj/\(gi W.IE (j:Int)).idle<=Qj
 | 0=>by simp only[zt6,zo9]; exact⟨fun h=>⟨h,fun j hj=>by omega⟩,fun h=>h.1⟩
 | k+1=>by
  simp only[zt6,A',zo9,zt7 k];constructor
  ·rintro⟨⟨h1,h2⟩,h3⟩;refine⟨h1,fun j hj=>?_⟩
   by_cases e:j=k
   ·subst e; exact h3
   ·exact h2 j Qo
  ·rintro⟨h1,h2⟩;exact⟨⟨h1,fun j hj=>h2 j Qo⟩,h2 k Qo⟩
theorem zub{W:Q7}:∀k:Nat,zua W k=true↔zt6 W W.IE.length=true/\∀j:Nat,j<k->(gi W.tasks (j:Int)).v<=Qj/\(gi W.tasks (j:Int)).sum<=Qj/\(gi W.tasks (j:Int)).used<=Qj
 | 0=>by simp only[zua]; exact⟨fun h=>⟨h,fun j hj=>by omega⟩,fun h=>h.1⟩
 | k+1=>by
  simp only[zua,A',zo9,zub k];constructor
  ·rintro⟨⟨h1,h2⟩,h3⟩;refine⟨h1,fun j hj=>?_⟩
   by_cases e:j=k
   ·subst e; exact h3
   ·exact h2 j Qo
  ·rintro⟨h1,h2⟩;exact⟨⟨h1,fun j hj=>h2 j Qo⟩,h2 k Qo⟩
theorem zt9{W:Q7}{g:Int}{b0:Bool}:∀k:Nat,zvk W g b0 k=true↔b0=true/\∀j:Nat,j<k->(Qc W g (j:Int)).floor<=Qj/\(Qc W g (j:Int)).v<=Qj/\(Qc W g (j:Int)).sum<=Qj
 | 0=>by simp only[zvk]; exact⟨fun h=>⟨h,fun j hj=>by omega⟩,fun h=>h.1⟩
 | k+1=>by
  simp only[zvk,A',zo9,zt9 k];constructor
  ·rintro⟨⟨h1,h2⟩,h3⟩;refine⟨h1,fun j hj=>?_⟩
   by_cases e:j=k
   ·subst e; exact h3
   ·exact h2 j Qo
  ·rintro⟨h1,h2⟩;exact⟨⟨h1,fun j hj=>h2 j Qo⟩,h2 k Qo⟩
theorem zt8{W:Q7}:∀k:Nat,zqa W k=true↔zua W W.tasks.length=true/\∀j:Nat,j<k->(gi W.ID (j:Int)).sum<=Qj/\∀q:Nat,q<(gi W.ID (j:Int)).IF.length->(Qc W (j:Int) (q:Int)).floor<=Qj/\(Qc W (j:Int) (q:Int)).v<=Qj/\(Qc W (j:Int) (q:Int)).sum<=Qj
 | 0=>by simp only[zqa]; exact⟨fun h=>⟨h,fun j hj=>by omega⟩,fun h=>h.1⟩
 | k+1=>by
  simp only[zqa,zt9,A',zo9,zt8 k];constructor
  ·rintro⟨⟨⟨h1,h2⟩,h3⟩,h4⟩;refine⟨h1,fun j hj=>?_⟩
   by_cases e:j=k
   ·subst e; exact⟨h3,h4⟩
   ·exact h2 j Qo
  ·rintro⟨h1,h2⟩;exact⟨⟨⟨h1,fun j hj=>h2 j Qo⟩,(h2 k Qo).1⟩,(h2 k Qo).2⟩
theorem ztj(W:Q7):zqa W W.ID.length=QH W:=by
 have key:zqa W W.ID.length=true↔PM W:=by
  rw[zt8,zub,zt7];constructor
  ·rintro⟨⟨⟨h1,h2⟩,h3⟩,h4⟩;have e:∀{i:Int},0<=i->((i.toNat:Nat):Int)=i:=fun h=>by omega
   refine⟨h1,fun c a b=>?_,fun c a b=>?_,fun c a b=>?_,fun k c a b c0 c1=>?_⟩
   ·have:=h2 c.toNat Qo; rwa[e a] at this
   ·have:=h3 c.toNat Qo; rwa[e a] at this
   ·have:=(h4 c.toNat Qo).1; rwa[e a] at this
   ·have:=(h4 k.toNat Qo).2 c.toNat (by rw[e a]; omega); rwa[e a,e c0] at this
  ·intro r;exact⟨⟨⟨r.n,fun j hj=>r.c (j:Int) Qo Qo⟩,fun j hj=>r.t (j:Int) Qo Qo⟩,fun j hj=>⟨r.g (j:Int) Qo Qo,fun q hq=>r.s (j:Int) (q:Int) Qo Qo Qo Qo⟩⟩
 unfold QH
 cases hb:XQ (PM W) with
 | true=>exact key.2 (Qi.1 hb)
 | false=>
  cases ho:zqa W W.ID.length with
  | false=>rfl
  | true=>exact Is (key.1 ho) (Ko.1 hb)
theorem zdn{a b:Bool}(h:a=true->False):(a&&b)=false:=by
 cases a with
 | false=>rfl
 | true=>exact(h rfl).elim
def zor(I:Bool->Nat->Prop)(vs:List Va):Prop:=∃(x:Bool) (k:Nat),I x k/\vs=[.bool x,.int .i64 (k:Int)]
theorem zk4{B:(List Va->Prop)->(List Va->Nat)->Bool->Int->Prop}(n:Nat){xi:Bool}{si:Int}(s:Nat)(hs:si=s)(I:Bool->Nat->Prop)(h0:I xi s)(hB:∀(x:Bool) (k:Nat),I x k->B (zor I) (Xl n 1) x (k:Int)) :
  ∃(IS:List Va->Prop) (mu:List Va->Nat),IS [.bool xi,.int .i64 si]/\∀(x:Bool) (i:Int),IS [.bool x,.int .i64 i]->B IS mu x i:=by
 refine⟨zor I,Xl n 1,⟨xi,s,h0,by rw[hs]⟩,?_⟩;rintro x i ⟨x',k,hI,he⟩;simp only[I5,I6,Value.bool.injEq,true_and,and_true] at he;obtain⟨rfl,rfl⟩:=he;exact hB x k hI
theorem JJ{n k:Nat}{I:Bool->Nat->Prop}{x x':Bool}(hk:k<n)(hI:I x' (k+1)):zor I [.bool x',.int .i64 ((k:Int)+1)]/\Xl n 1 [.bool x',.int .i64 ((k:Int)+1)]<Xl n 1 [.bool x,.int .i64 (k:Int)]:=by
 refine⟨⟨x',k+1,hI,Qs⟩,?_⟩;simp only[Xl,Y5,Ig,List.getElem?_cons_succ];omega
section
variable {W:Q7}{m:MW}{w:Wo}{bs:List Nat}{p:OA}
theorem zep(h:Mk bs w p W m)(ha:WA W):PX bs UG #[.pointer p] w (.bool (QH W)):=by
 rw[<-ztj];refine D5 p fun wr hx=>?_
 have h:=(h.ext hx).less (cs:=[]) Qs;have jV:=ha.t;have bW:=ha.gl;have qW:=ha.c2;refine⟨h.some,_,h.now,fun b hb=>⟨hB W.now,fun wx _ hc=>zxl hc,h.some,_,_,_,h.IE,?_⟩⟩;refine zk4 W.IE.length 0 rfl (fun x k=>k<=W.IE.length/\x=zt6 W k) ⟨Ie _,rfl⟩ fun x k ⟨hk,So⟩=>⟨fun IQ=>?_,fun RH=>?_⟩
 ·have IQ:=Ot IQ;refine⟨h.rd.c.ix Y0 Qo IQ,_,_,_,_,_,h.rd.c k Qo IQ,fun b1 eY=>⟨fun _ b2 cD=>⟨_,fun _ wx _ hc=>zxw hc,⟨Qo,Qo⟩,JJ Qo ⟨Qo,by rw[So]; rfl⟩⟩,fun hn=>⟨⟨Qo,Qo⟩,JJ Qo ⟨Qo,?_⟩⟩⟩⟩;simp only[zt6]; rw[<-So,zdn hn]
 have RH:=Ou RH;have hkk:k=W.IE.length:=Qo;subst hkk;refine⟨h.some,_,_,_,h.tasks,?_⟩;refine zk4 W.tasks.length 0 rfl (fun x k=>k<=W.tasks.length/\x=zua W k) ⟨Ie _,So⟩ fun x k ⟨hk,So⟩=>⟨fun IQ=>?_,fun RH=>?_⟩
 ·have IQ:=Ot IQ;refine⟨h.rd.t.ix QL Qo IQ,_,_,_,_,_,_,_,_,_,h.rd.t k Qo IQ,fun b1 eY=>⟨fun _ b2 cD=>⟨_,fun _ wx _ hc=>zxm hc,⟨Qo,Qo⟩,JJ Qo ⟨Qo,by rw[So]; rfl⟩⟩,fun hn=>⟨⟨Qo,Qo⟩,JJ Qo ⟨Qo,?_⟩⟩⟩⟩;simp only[zua]; rw[<-So,zdn hn]
 have RH:=Ou RH;have hkk:k=W.tasks.length:=Qo;subst hkk;refine⟨h.some,_,_,_,h.ID,?_⟩;refine zk4 W.ID.length 0 rfl (fun x k=>k<=W.ID.length/\x=zqa W k) ⟨Ie _,So⟩ fun x k ⟨hk,So⟩=>⟨fun IQ=>?_,fun RH=>?_⟩
 ·have IQ:=Ot IQ;have hsl:(gi W.ID (k:Int)).IF.length<=4:=(PP ha (k:=(k:Int)) Qo Qo).2.2;have vD:=h.rd.g.IF (k:Int) Qo IQ;rw[Ih] at vD
  have inner:∀{b0:Bool},b0=(zqa W k&&hB (gi W.ID (k:Int)).sum)->∃(IS:List Va->Prop) (mu:List Va->Nat),IS [.bool b0,I 0]/\∀(ok3:Bool) (cP:Int),IS [.bool ok3,I cP]->
    ((decide (cP<(((gi W.ID (k:Int)).IF.length:Nat):Int)))=true->
     Ix (m.ms k).sO (gi W.ID (k:Int)).IF.length cP/\
     (∃(x03:Int) (x15:Bool) (x23:Int) (x33:Int) (x43:Int),
     Q2 [] wr (m.ms k).sO (Int.toNat cP*5) [I x03,.bool x15,I x23,I x33,I x43]/\
     (∀b7,wr.heap.size<=b7->
     (ok3=true->(∀b8,wr.heap.size<=b8->
     (∃(uZ:Bool),
     (ok3=true->(∀wx4,Q0 [] wr wx4->wx4.heap[b8]? = some (Obj.cells ([I x03,I x23,I x43]:List Va).toArray Qb (0,0))->PX [] ZG #[.slice (some (Addr.mk b8 0 none)) 3 3] wx4 (.bool uZ)))/\
     Qq .i64 (cP+1)/\
     IS [.bool (ok3&&uZ),I (cP+1)]/\mu [.bool (ok3&&uZ),I (cP+1)]<mu [.bool ok3,I cP])))/\
     ((ok3=true->False)->
     Qq .i64 (cP+1)/\
     IS [.bool false,I (cP+1)]/\mu [.bool false,I (cP+1)]<mu [.bool ok3,I cP]))))/\
    ((decide (cP<(((gi W.ID (k:Int)).IF.length:Nat):Int)))=false->ok3=zqa W (k+1)):=fun {b0} hb0=>by
   refine zk4 (gi W.ID (k:Int)).IF.length 0 rfl (fun x q=>q<=(gi W.ID (k:Int)).IF.length/\x=zvk W (k:Int) (zqa W k&&hB (gi W.ID (k:Int)).sum) q) ⟨Ie _,hb0⟩ fun x q ⟨hq,R6⟩=>⟨fun RU=>?_,fun bU=>?_⟩
   ·have RU:=Ot RU;refine⟨vD.ix ZK Qo RU,_,_,_,_,_,vD q Qo RU,fun b7 hb7=>⟨fun _ b8 hb8=>⟨_,fun _ wx _ hc=>zxm hc,⟨Qo,Qo⟩,JJ Qo ⟨Qo,by rw[R6]; rfl⟩⟩,fun hn=>⟨⟨Qo,Qo⟩,JJ Qo ⟨Qo,?_⟩⟩⟩⟩;simp only[zvk]; rw[<-R6,zdn hn]
   ·have bU:=Ou bU;have:q=(gi W.ID (k:Int)).IF.length:=Qo;rw[R6,this]; rfl
  refine⟨h.rd.g.ix Qo IQ,_,_,_,_,_,_,_,_,_,_,_,_,_,_,_,_,_,_,_,_,h.rd.g.cells (k:Int) Qo IQ,fun b5 hb5=>⟨fun _ b6 hb6=>⟨hB (gi W.ID (k:Int)).sum,fun _ wx _ hc=>zxl hc,?_⟩,fun hn=>?_⟩⟩
  ·obtain⟨xI,mu,h0,hI⟩:=inner (b0:=x&&hB (gi W.ID (k:Int)).sum) (by rw[So]);refine⟨xI,mu,h0,fun ok3 cP hi=>⟨(hI ok3 cP hi).1,fun bU=>⟨⟨Qo,Qo⟩,?_⟩⟩⟩;have e:=(hI ok3 cP hi).2 bU;exact JJ Qo ⟨Qo,e⟩
  ·obtain⟨xI,mu,h0,hI⟩:=inner (b0:=false) (by rw[<-So,zdn hn]);refine⟨xI,mu,h0,fun ok3 cP hi=>⟨(hI ok3 cP hi).1,fun bU=>⟨⟨Qo,Qo⟩,?_⟩⟩⟩;have e:=(hI ok3 cP hi).2 bU;exact JJ Qo ⟨Qo,e⟩
 ·have RH:=Ou RH;have hkk:k=W.ID.length:=Qo;subst hkk;rw[So]
end
def PL(w:Wo):Prop:=w.cell? ⟨0,0,none⟩=some (.iface 174 (.agg #[.pointer (some ⟨1,67,none⟩)]))
theorem PL.ext{w w':Wo}(h:PL w)(hx:Q0 [] w w'):PL w':=by
 have IQ:0<w.heap.size:=by
  rcases Nat.eq_zero_or_pos w.heap.size with h0 | h1
  ·unfold PL at h; simp[World.cell?,h0] at h
  ·exact h1
 have hb:=hx.block 0 IQ Qs;unfold PL at h ⊢;unfold World.cell? at h ⊢
 dsimp only at h ⊢
 rw[hb];exact h
theorem zsp(t:Va)(w:Wo):Cz My #[.nilIface,t] w fun e w'=>e=.returned (.bool false)/\Q0 [] w w':=(zun t w).mono fun e w' ⟨he,hw⟩=>⟨he,by rw[hw]; exact Q0.refl _ _⟩
theorem zpk{n:Int}{t:Nat}{old:Int}{w:Wo}{ty:TypeId}(hg:PL w)(ht:w.heap[t]? = some (.cells ([I old]:List Va).toArray ty (0,0))) :
  Cz My #[.iface Z3 (.agg #[I n]),.iface Xv (.pointer (some ⟨t,0,none⟩))] w fun e w'=>e=.returned (.bool true)/\w'.heap[t]? = some (.cells ([I n]:List Va).toArray ty (0,0))/\Q0 [t] w w':=by
 refine(zul n ⟨t,0,none⟩ (I old) w hg (by rw[OD ht]; rfl) (by simp[World.frozen?,ht])).mono fun e w' ⟨he,hw⟩=>⟨he,?_⟩
 subst hw;have hx:=(((((Q0.refl [] w).alloc (.cells #[.pointer (some ⟨t,0,none⟩)] Xv)).alloc (.cells #[.pointer (some ⟨1,Xv,none⟩),.pointer (some ⟨w.heap.size,0,none⟩),.int .u64 150] XS)).alloc (.cells #[.pointer (some ⟨1,Xv,none⟩),.pointer (some ⟨w.heap.size,0,none⟩),.int .u64 150] XS)).alloc (.cells #[I n] Z3));have hb:=Zg ht hx Qs;refine⟨?_,?_⟩
 ·have:=Lq (k:=0) (n:=0) (vs:=[I n]) hb;exact this
 ·exact hx.of_nil.setCell (p:=⟨t,0,none⟩) (.inr Qs) _
structure DD (base pb:Nat) (ex:List Nat) (w:Wo) (m:MW) (w':Wo) (W':Q7) (m':MW):Prop where
 own:Y8 8 base w' W' m'
 pt:w'.heap[pb]? = some (.cells (Qa W' m').toArray Q3 (0,0))
 ext:Q0 (ex++(pb::QD 8 m)) w w'
 sub:∀x∈QD 8 m',x∈QD 8 m\/w.heap.size<=x
theorem Mp.done{base pb:Nat}{ex:List Nat}{w w':Wo}{W':Q7}{m m':MW}(h:Mp base pb [] w m w' W' m'):DD base pb ex w m w' W' m':=
 ⟨h.v.own,h.pt,h.v.ext.mono fun x hx=>Iy _ (I2 _ hx),h.v.sub⟩
def zv4(ex:List Nat)(r:Q7×Int)(w:Wo)(v:Va)(w':Wo):Prop:=∃n m',v=.tuple #[.agg (Qa r.1 m').toArray,I r.2]/\Y8 n w.heap.size w' r.1 m'/\Q0 ex w w'
section
variable {W W':Q7}{m:MW}{w:Wo}{bar:Int}
theorem zi0{cf:Fn}{ca ck:Array Va}(ex:List Nat)(P:Wo->Prop)(hP:∀(a b:Wo) (bs:List Nat),P a->Q0 bs a b->(∀x∈bs,w.heap.size<=x)->P b)(hex:∀x∈ex,x<w.heap.size)(hz:0∉ex)(h:Xb [] w W m)(hr:∀x∈ex,∀w1,Q0 ex w w1->Xb [] w1 W m)(hl:Xh W)(hg:PL w)(Rn:∀(w1:Wo) (pb:Nat) (m1:MW),Qx W=true->Q0 [] w w1->w.heap.size<=pb->PW w.heap.size pb w1 W m1->
   ML Tryz.prog (.func cf ca ck) [.pointer (pA pb)] w1 fun e w2=>(bar≠0/\e=.returned (.iface Z3 (.agg #[I bar]))/\Q0 [] w1 w2)\/(bar=0/\e=.returned .nilIface/\P w2/\∃m2,DD w.heap.size pb ex w1 m1 w2 W' m2)) :
  Cz Uq #[.agg (Qa W m).toArray,.func cf ca ck] w fun e w'=>∃v,e=.returned v/\zv4 ex (Yp W bar W') w v w'/\(Qx W=true->bar=0->P w')/\(Qx W=false\/bar≠0->Q0 [] w w'):=by
 refine A1 _ _ _ _ _ _ _ _ _ _ cf ca ck (R:=fun v w'=>zv4 ex (Yp W bar W') w v w'/\(Qx W=true->bar=0->P w')/\(Qx W=false\/bar≠0->Q0 [] w w')) ?_;intro x hx x1 So;refine⟨_,At h hl.c hl.g hl.f,fun g wr R6=>?_,fun g R2 R6 dX=>?_⟩
 ·have hW:Qx W=false:=by simpa using g
  refine⟨?_,fun hw=>(by rw[hW] at hw; cases hw),fun _=>R6⟩;rw[zkf hW];exact⟨0,zrj,rfl,Y8.zero _ _,R6.of_nil⟩
 have hW:Qx W=true:=by simpa using g
 have wp:=Qi.1 hW;have s1:Sc w [x,x1] R2:=(((Sc.start w).add hx).add So).R4 R6;refine I4 (Fh (h.ext R6) wp.a) ?_;rintro e wv ⟨m1,he,hM1,cY⟩;have s2:=s1.R4 cY;have uD:=(OW.of hM1 dX).mono R6.size;refine⟨_,_,_,_,_,_,_,_,_,_,he,Qe cY dX,fun b2 wb hxb cD hcb hn2=>?_⟩;have s3:=s2.step hxb;have hO3:=uD.step hxb;have Co0:w.heap.size<=b2:=IB s2.ext.size cD
 have mS:b2∉QD 8 m1:=fun hm=>by
  have:=(uD.own.lt b2 hm).2;omega
 refine⟨Np (k0:=0) hcb hn2 Qs,fun b3 wb1 CH8 hb3 Cp2 hn3=>?_⟩;have qB:=Lq (k:=0) (n:=0) (vs:=Qa W m1) hcb;have CH3:Q0 [b2] wb (RD wb (some ⟨b2,0,none⟩) 0 (Qa W m1)):=Pn fun a ha=>by cases ha; simp
 have hO4 := (hO3.call CH3 fun y hy hm => mS (by have:y=b2:=by simpa using hm
                                                 exact this▸hy)).step CH8
 have s4 := (s3.call CH3 fun y hy => by have:y=b2:=by simpa using hy
                                        omega).step CH8
 have Ct6:wb1.heap[b2]? = some (.cells (Qa W m1).toArray Q3 (0,0)):=Zg qB CH8 hn2
 have DI0:b2≠b3:=fun e=>by
  have:=VX qB;have Co1:(RD wb (some ⟨b2,0,none⟩) 0 (Qa W m1)).heap.size<=b3:=hb3;omega
 have DI1:w.heap.size<=b3:=by
  have h1:=CH3.size;have h2:=s3.ext.size;have Co1:(RD wb (some ⟨b2,0,none⟩) 0 (Qa W m1)).heap.size<=b3:=hb3;omega
 intro O' SZ SY;have hO5:=hO4.step SZ;have s5:=s4.step SZ;have Ct7:=Zg Ct6 SZ hn2;have hc5:=Zg Cp2 SZ hn3;refine ML.mono (Rn O' b2 m1 hW s5.ext Co0 ⟨hO5.own,Ct7,mS⟩) ?_;rintro e1 Rr (⟨hb0,kE,hy⟩ | ⟨hb0,kE,hPw,m2,hD⟩)
 ·
  refine⟨_,kE,Qe hy SY,fun Rt SK gZ=>?_⟩;have s6:=(s5.R4 hy).step SK;have hc6:=Zg (Zg hc5 hy Qs) SK hn3;refine I4 (zpk (hg.ext s6.ext) hc6) ?_;rintro e2 Rx ⟨aQ,hc7,SL⟩
  have s7 := s6.call SL fun y hy => by have:y=b3:=by simpa using hy
                                       omega
  have aO:∀{w9:Wo},Q0 [x,x1] Rx w9->Q2 [x,x1] w9 (some ⟨b3,0,none⟩) (0+0) [I bar]:=fun h9=>J9 (Zg hc7 h9 hn3) hn3 (k0:=0) rfl
  refine ⟨true, aQ, KH SL gZ (fun y hm fS => by have:y=b3:=by simpa using hm
                                                exact hn3 (this▸fS)),fun _=>⟨bar,aO (Q0.refl _ _),fun Ry cU fU=>?_⟩,fun g=>by cases g⟩
  have s8:=s7.step cU;refine I4 (Fh (h.ext s8.ext) wp.a) ?_;rintro e3 Sk ⟨m3,fH,vA,jW⟩;have s9:=s8.R4 jW;have hO9:=(OW.of vA fU).mono s8.ext.size;have hc9:Q2 [x,x1] Sk (some ⟨b3,0,none⟩) (0+0) [I bar]:=J9 (Zg (Zg hc7 cU hn3) jW Qs) hn3 (k0:=0) rfl;refine⟨_,_,_,_,_,_,_,_,_,_,fH,Qe jW fU,hc9,hc9,fun RR lY=>⟨?_,fun _ hb=>Is hb hb0,fun _=>(s9.step lY).ext⟩⟩;rw[zkg hW hb0];exact⟨8,m3,rfl,(hO9.step lY).own,(s9.step lY).ext.of_nil⟩
 ·
  have Ct1:∀y∈ex++(b2::QD 8 m1),y∉[x,x1]:=fun y hy hm=>by
   rcases Io.1 hy with h1 | h1
   ·have:=hex y h1;have:=s1.new y hm;omega
   ·rcases Ij.1 h1 with h1 | h1
    ·subst h1; exact hn2 hm
    ·exact hO5.nb y h1 hm
  refine⟨_,kE,KH hD.ext SY Ct1,fun Rt SK gZ=>?_⟩;refine I4 (zsp _ _) ?_;rintro e2 Rx ⟨aQ,SL⟩
  have Bd1:∀y∈QD 8 m2,y∉[x,x1]:=fun y hy hm=>by
   rcases hD.sub y hy with h1 | h1
   ·exact hO5.nb y h1 hm
   ·have:=SY y hm;omega
  have hM7:=((hD.own.ext SK Bd1).bG SL);have Ct8:=Zg (Zg hD.pt SK hn2) SL Qs
  have hX2:Q0 ex w Rr:=s5.ext.of_nil.fresh hD.ext fun y hy=>by
   rcases Io.1 hy with h1 | h1
   ·exact .inr h1
   ·refine .inl ?_;rcases Ij.1 h1 with h1 | h1
    ·omega
    ·exact(hO5.own.lt y h1).1
  have hX3:Q0 ex w Rx:=(hX2.fresh SK fun y hy=>.inl (s1.new y hy)).trans SL.of_nil;refine⟨false,aQ,Qe SL gZ,fun g=>(by cases g),fun _=>⟨_,_,_,_,_,_,_,_,_,_,OE Ct8 hn2 (k0:=0) (n:=0) fun j v hj=>by simpa[Qa] using hj,fun Sn cU=>⟨?_,fun _ _=>?_,fun hn=>?_⟩⟩⟩
  ·rw[zib hW hb0];exact⟨8,m2,rfl,hM7.ext cU Bd1,hX3.fresh cU fun y hy=>.inl (s1.new y hy)⟩
  ·exact hP _ _ _ (hP _ _ _ (hP _ _ _ hPw SK s1.new) SL Qs) cU s1.new
  ·rcases hn with h1 | h1
   ·rw[hW] at h1; cases h1
   ·exact Is hb0 h1
theorem zmz{cf:Fn}{ca ck:Array Va}(h:Xb [] w W m)(hl:Xh W)(hg:PL w)(Rn:∀(w1:Wo) (pb:Nat) (m1:MW),Qx W=true->Q0 [] w w1->w.heap.size<=pb->PW w.heap.size pb w1 W m1->
   ML Tryz.prog (.func cf ca ck) [.pointer (pA pb)] w1 fun e w2=>(bar≠0/\e=.returned (.iface Z3 (.agg #[I bar]))/\Q0 [] w1 w2)\/(bar=0/\e=.returned .nilIface/\∃m2,DD w.heap.size pb [] w1 m1 w2 W' m2)) :
  Cz Uq #[.agg (Qa W m).toArray,.func cf ca ck] w fun e w'=>∃v,e=.returned v/\QJ (Yp W bar W') w v w':=
 (zi0 [] (fun _=>True) (fun _ _ _ _ _ _=>trivial) Qs Qs h Qs hl hg fun w1 pb m1 a b c d=>(Rn w1 pb m1 a b c d).mono fun e w2 hh=>by
  rcases hh with h1 | ⟨h1,h2,h3⟩
  ·exact .inl h1
  ·exact .inr ⟨h1,h2,trivial,h3⟩).mono fun e w' ⟨v,he,hA,_⟩=>⟨v,he,hA⟩
end
end Go.Proofs.YtnclplgaicdapaaGreatDoor
