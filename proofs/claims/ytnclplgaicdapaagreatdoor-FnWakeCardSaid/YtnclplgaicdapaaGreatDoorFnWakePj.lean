/- Part 10 of what the law FnWake needs. -/
import Derived.Test.YtnclplgaicdapaaGreatDoorFnWakePi
import Derived.LaidEql
import Derived.Stop.Asserts
import Derived.RowKitTokens
set_option linter.unusedVariables false
set_option linter.unusedSimpArgs false
set_option maxRecDepth 100000
set_option maxHeartbeats 8000000
namespace Go.Proofs.YtnclplgaicdapaaGreatDoor
open Go.RowKit
section
open Go.RowKit Go.Extern.Stop Go.Stop Go.Extern
theorem z1k(t:Va)(w:Wo) :
  Cz 173 #[.nilIface,t] w λe w'=>e=.returned (.bool false)/\w'=w:=by
 go_enter Tryz.func173,Tryz.ntmps173
 go_wp2
 go_ret
 exact⟨rfl,rfl⟩
theorem zm6(t:Addr)(w:Wo):(ReflectliteValue.unpack (.iface 130 (.pointer (some t)))).run Tryz.prog w
  = .ok (.agg #[.pointer (some ⟨1,130,none⟩),.pointer (some ⟨w.heap.size,0,none⟩),.int .u64 150]) (w.alloc (.cells #[.pointer (some t)] 130)):=Qk
theorem zvu (a : Addr) (w : World) : (ReflectliteValue.methodAny (ReflectliteValue.valueError "reflectlite.Value.Type" 0) (λt _ _ _ => ReflectliteType.toType t) #[.agg #[.pointer (some ⟨1, 130, none⟩), .pointer (some a), .int .u64 150]]).run Tryz.prog w
  = .ok (.iface 174 (.agg #[.pointer (some ⟨1,130,none⟩)])) w:=Qk
theorem zhd (h : Value) (w : World) : (Go.method 343 174 (.agg #[h]) "Kind").run Tryz.prog w = .ok (296, h) w := by kernel_rfl
theorem zvr(w:Wo):((ReflectliteType.abiMethod λt=>(λa:Nat=>Value.int IntKind.u8 (a:Int)) <$> Rtype.kind t) #[.pointer (some ⟨1,130,none⟩)]).run Tryz.prog w=.ok (.int .u8 22) w:=Qk
theorem zvq(w:Wo):((ReflectliteType.abiMethod λt=>(λa:Nat=>Value.int IntKind.u8 (a:Int)) <$> Rtype.kind t) #[.pointer (some ⟨1,69,none⟩)]).run Tryz.prog w=.ok (.int .u8 25) w:=Qk
theorem zvt(z:Sem Va)(f:TypeId->Addr->Nat->Nat->Sem Va)(v:Va) :
  ReflectliteValue.method z f #[v]=(do match <-ReflectliteValue.parts v with | none=>z | some (t,a,fl)=>f t a fl (fl % 32)):=rfl
theorem ziz(a:Addr)(w:Wo):(ReflectliteValue.parts (.agg #[.pointer (some ⟨1,130,none⟩),.pointer (some a),.int .u64 150])).run Tryz.prog w=.ok (some (130,a,150)) w:=Qk
theorem zi0:Tryz.prog.underlying 130=some (.pointer 69):=Qk
theorem ztd (a p:Addr) (W:Wo) (ha:W.cell? a=some (.pointer (some p))) :
  (ReflectliteValue.method (ReflectliteValue.valueError "reflectlite.Value.IsNil" 0) ReflectliteValue.isNil #[.agg #[.pointer (some ⟨1, 130, none⟩), .pointer (some a), .int .u64 150]]).run Tryz.prog W = .ok (.bool false) W := by
 rw[zvt]
 simp only[Sem.run_bind,ziz,Result.andThen]
 simp[ReflectliteValue.isNil,loadVar,isAgg,underlying,zi0,ha,Result.andThen]
theorem zhc (h : Value) (w : World) : (Go.method 343 174 (.agg #[h]) "Elem").run Tryz.prog w = .ok (314, .agg #[h]) w := by kernel_rfl
theorem DD (h : Value) (w : World) : (Go.method 343 174 (.agg #[h]) "Implements").run Tryz.prog w = .ok (315, .agg #[h]) w := by kernel_rfl
theorem Gt (h : Value) (w : World) : (Go.method 343 174 (.agg #[h]) "AssignableTo").run Tryz.prog w = .ok (312, .agg #[h]) w := by kernel_rfl
theorem zvo(w:Wo):(ReflectliteType.method ReflectliteType.elem #[.agg #[.pointer (some ⟨1,130,none⟩)]]).run Tryz.prog w=.ok (.iface 174 (.agg #[.pointer (some ⟨1,69,none⟩)])) w:=Qk
theorem zvp (w : World) : (ReflectliteType.relation "Implements" ReflectliteType.implements_ #[.agg #[.pointer (some ⟨1, 69, none⟩)], .iface 174 (.agg #[.pointer (some ⟨1, 67, none⟩)])]).run Tryz.prog w = .ok (.bool true) w := by kernel_rfl
theorem zpq(v:Va)(w:Wo):(ReflectliteType.typeOf #[.iface 69 v]).run Tryz.prog w=.ok (.iface 174 (.agg #[.pointer (some ⟨1,69,none⟩)])) w:=Qk
theorem zpm (w : World) : (ReflectliteType.relation "AssignableTo" ReflectliteType.assignableTo #[.agg #[.pointer (some ⟨1, 69, none⟩)], .iface 174 (.agg #[.pointer (some ⟨1, 69, none⟩)])]).run Tryz.prog w = .ok (.bool true) w := by kernel_rfl
theorem zm5(n:Int)(w:Wo):(ReflectliteValue.unpack (.iface 69 (.agg #[I n]))).run Tryz.prog w
  = .ok (.agg #[.pointer (some ⟨1,69,none⟩),.pointer (some ⟨w.heap.size,0,none⟩),.int .u64 153]) (w.alloc (.cells #[I n] 69)):=Qk
theorem zpo(w:Wo):(Rtype.elem? 130).run Tryz.prog w=.ok (some 69) w:=Qk
theorem z1j(p:Addr)(w:Wo):(ReflectliteValue.mk 69 p ReflectliteValue.flagAddr).run Tryz.prog w=.ok (.agg #[.pointer (some ⟨1,69,none⟩),.pointer (some p),.int .u64 409]) w:=Qk
theorem ztc (a p:Addr) (W:Wo) (ha:W.cell? a=some (.pointer (some p))) :
  (ReflectliteValue.method (ReflectliteValue.valueError "reflectlite.Value.Elem" 0) ReflectliteValue.elem #[.agg #[.pointer (some ⟨1, 130, none⟩), .pointer (some a), .int .u64 150]]).run Tryz.prog W
   = .ok (.agg #[.pointer (some ⟨1,69,none⟩),.pointer (some p),.int .u64 409]) W:=by
 rw[zvt]
 simp only[Sem.run_bind,ziz,Result.andThen]
 simp[ReflectliteValue.elem,loadVar,isAgg,underlying,zi0,ha,Result.andThen,zpo,z1j]
theorem zpp(a:Addr)(w:Wo):(ReflectliteValue.parts (.agg #[.pointer (some ⟨1,69,none⟩),.pointer (some a),.int .u64 409])).run Tryz.prog w=.ok (some (69,a,409)) w:=Qk
theorem zte(a:Addr)(w:Wo):(ReflectliteValue.parts (.agg #[.pointer (some ⟨1,69,none⟩),.pointer (some a),.int .u64 153])).run Tryz.prog w=.ok (some (69,a,153)) w:=Qk
theorem zpn(w:Wo):(Rtype.directlyAssignable 69 69).run Tryz.prog w=.ok true w:=Qk
theorem z1l (v x:Va):ReflectliteValue.set #[v,x]=(do
  let (some (dst,a,fl),some (src,b,_)):=(<-ReflectliteValue.parts v,<-ReflectliteValue.parts x)
   | unsupported (.noEntry "extern/(internal/reflectlite.Value).Set.zeroValue")
  if fl / ReflectliteValue.flagAddr % 2 == 0 then unsupported (.noEntry "extern/(internal/reflectlite.Value).Set.unaddressable")
  let val <-loadVar src b
  if <-Rtype.directlyAssignable dst src then storeVar dst a val
  else if <-Rtype.implements dst src then
   if (<-Rtype.kind src)==20 then
    match val with
    | .nilIface => unsupported (.noEntry "extern/reflectlite: a nil value of one interface type handed on as a value of another")
    | _=>storeVar dst a val
   else storeVar dst a (.iface src val)
  else panicString ("reflectlite.Set: value of type " ++ (← Rtype.spelt src) ++ " is not assignable to type " ++ (← Rtype.spelt dst))
  pure (.tuple #[])):=rfl
theorem zyx(w:Wo):(isAgg 69).run Tryz.prog w=.ok true w:=Qk
theorem zm4(w:Wo):(sizeOf 69).run Tryz.prog w=.ok 1 w:=Qk
theorem zvs(b:Addr)(n:Int)(W:Wo)(hb:W.cell? b=some (I n)):(loadVar 69 b).run Tryz.prog W=.ok (.agg #[I n]) W:=by
 unfold loadVar;simp only[Sem.run_bind,zyx,Result.andThen,if_true];simp only[Sem.run_bind,zm4,Result.andThen];have e:b.add 0=b:=by cases b; rfl
 simp[loadCells,loadCellsFrom,e,hb,Result.andThen]
theorem zyy(ta b:Addr)(n:Int)(old:Va)(W:Wo)(hb:W.cell? b=some (I n))(ht:W.cell? ta=some old)(hf:W.frozen? ta=false) :
  (ReflectliteValue.set #[.agg #[.pointer (some ⟨1,69,none⟩),.pointer (some ta),.int .u64 409],.agg #[.pointer (some ⟨1,69,none⟩),.pointer (some b),.int .u64 153]]).run Tryz.prog W
   = .ok (.tuple #[]) (W.setCell ta (I n)):=by
 rw[z1l];simp only[Sem.run_bind,zpp,zte,Result.andThen];have e:ta.add 0=ta:=by cases ta; rfl
 simp[ReflectliteValue.flagAddr,zvs b n W hb,Result.andThen,zpn,storeVar,zm4,Value.cells,storeCells,e];rw[run_store Tryz.prog W ta _ _ (by rfl)];simp[ht,hf]
set_option maxHeartbeats 4000000 in
theorem z1i (n:Int) (t:Addr) (old:Va) (w:Wo) (hg:w.cell? ⟨0,0,none⟩=some (.iface 174 (.agg #[.pointer (some ⟨1,67,none⟩)]))) (ht0:w.cell? t=some old) (hf0:w.frozen? t=false) :
  Cz 173 #[.iface 69 (.agg #[.int .i64 n]),.iface 130 (.pointer (some t))] w λev w'=>ev=.returned (.bool true)/\w'=((((w.alloc (.cells #[.pointer (some t)] 130)).alloc (.cells #[.pointer (some ⟨1,130,none⟩),.pointer (some ⟨w.heap.size,0,none⟩),.int .u64 150] 157)).alloc (.cells #[.pointer (some ⟨1,130,none⟩),.pointer (some ⟨w.heap.size,0,none⟩),.int .u64 150] 157)).alloc (.cells #[.int .i64 n] 69)).setCell t (.int .i64 n):=by
 have h6:=@run_callFunc_extern Tryz.prog 243 _ (λargs=>ReflectliteValue.unpack (args.getD 0 (.tuple #[]))) Tryz.func243 Qk Qk Qk Qk
 have h7 := @run_callFunc_extern Tryz.prog 244 _ (ReflectliteValue.methodAny (ReflectliteValue.valueError "reflectlite.Value.Type" 0) (λt _ _ _ => ReflectliteType.toType t)) Tryz.func244 (by kernel_rfl) (by kernel_rfl) (by kernel_rfl) (by kernel_rfl)
 have h8 := @run_callFunc_extern Tryz.prog 245 _ (ReflectliteValue.method (ReflectliteValue.valueError "reflectlite.Value.IsNil" 0) ReflectliteValue.isNil) Tryz.func245 (by kernel_rfl) (by kernel_rfl) (by kernel_rfl) (by kernel_rfl)
 have h27:=@run_callFunc_extern Tryz.prog 296 _ (ReflectliteType.abiMethod λt=>do pure (.int .u8 (<-Rtype.kind t))) Tryz.func296 Qk Qk Qk Qk
 have h37:=@run_callFunc_extern Tryz.prog 314 _ (ReflectliteType.method ReflectliteType.elem) Tryz.func314 Qk Qk Qk Qk
 have h38 := @run_callFunc_extern Tryz.prog 315 _ (ReflectliteType.relation "Implements" ReflectliteType.implements_) Tryz.func315 (by kernel_rfl) (by kernel_rfl) (by kernel_rfl) (by kernel_rfl)
 have h10:=@run_callFunc_extern Tryz.prog 263 _ ReflectliteType.typeOf Tryz.func263 Qk Qk Qk Qk
 have h35 := @run_callFunc_extern Tryz.prog 312 _ (ReflectliteType.relation "AssignableTo" ReflectliteType.assignableTo) Tryz.func312 (by kernel_rfl) (by kernel_rfl) (by kernel_rfl) (by kernel_rfl)
 have h11 := @run_callFunc_extern Tryz.prog 264 _ (ReflectliteValue.method (ReflectliteValue.valueError "reflectlite.Value.Elem" 0) ReflectliteValue.elem) Tryz.func264 (by kernel_rfl) (by kernel_rfl) (by kernel_rfl) (by kernel_rfl)
 have h12:=@run_callFunc_extern Tryz.prog 265 _ ReflectliteValue.set Tryz.func265 Qk Qk Qk Qk
 have tO:=zpq
 have mA:=Gt
 have a25:=zpm
 have v25:=zm5
 have f6:=zm6
 have f7:=zvu
 have mK:=zhd
 have mE:=zhc
 have mI:=DD
 have k27:=zvr
 have k25:=zvq
 have e27:=zvo
 have i25:=zvp
 have n8:=ztd ⟨w.heap.size,0,none⟩ t ((w.alloc (.cells #[.pointer (some t)] 130)).alloc (.cells #[.pointer (some ⟨1,130,none⟩),.pointer (some ⟨w.heap.size,0,none⟩),.int .u64 150] 157)) Qs
 have IT:0<w.heap.size:=by
  rcases Nat.eq_zero_or_pos w.heap.size with h0 | h
  ·simp[World.cell?,h0] at hg
  ·exact h
 have hg2:((w.alloc (.cells #[.pointer (some t)] 130)).alloc (.cells #[.pointer (some ⟨1,130,none⟩),.pointer (some ⟨w.heap.size,0,none⟩),.int .u64 150] 157)).cell? ⟨0,0,none⟩=some (.iface 174 (.agg #[.pointer (some ⟨1,67,none⟩)])):=by
  rw[World.cell?_alloc_lt _ _ ⟨0,0,none⟩ Qs,World.cell?_alloc_lt _ _ ⟨0,0,none⟩ IT]; exact hg
 have fZ:t.block<w.heap.size:=by
  rcases Nat.lt_or_ge t.block w.heap.size with h | h
  ·exact h
  ·simp[World.cell?,Array.getElem?_eq_none h] at ht0
 have el:=ztc ⟨w.heap.size,0,none⟩ t (((w.alloc (.cells #[.pointer (some t)] 130)).alloc (.cells #[.pointer (some ⟨1,130,none⟩),.pointer (some ⟨w.heap.size,0,none⟩),.int .u64 150] 157)).alloc (.cells #[.pointer (some ⟨1,130,none⟩),.pointer (some ⟨w.heap.size,0,none⟩),.int .u64 150] 157)) (by rw[World.cell?_alloc_lt _ _ ⟨w.heap.size,0,none⟩ (by simp; omega)]; simp)
 have st:=zyy t ⟨w.heap.size+1+1+1,0,none⟩ n old ((((w.alloc (.cells #[.pointer (some t)] 130)).alloc (.cells #[.pointer (some ⟨1,130,none⟩),.pointer (some ⟨w.heap.size,0,none⟩),.int .u64 150] 157)).alloc (.cells #[.pointer (some ⟨1,130,none⟩),.pointer (some ⟨w.heap.size,0,none⟩),.int .u64 150] 157)).alloc (.cells #[.int .i64 n] 69))
  (by rw[World.cell?_alloc_at _ _ _ _ Qs]; rfl)
  (by rw[World.cell?_alloc_lt _ _ t (by simp; omega),World.cell?_alloc_lt _ _ t (by simp; omega),World.cell?_alloc_lt _ _ t (by simp; omega),World.cell?_alloc_lt _ _ t fZ]; exact ht0)
  (by rw[World.frozen?_alloc_old _ _ t (by simp; omega),World.frozen?_alloc_old _ _ t (by simp; omega),World.frozen?_alloc_old _ _ t (by simp; omega),World.frozen?_alloc_old _ _ t (Nat.ne_of_lt fZ)]; exact hf0)
 go_enter Tryz.func173,Tryz.ntmps173
 go_wp2
 refine wp_loop_rounds 1 ?_
 rw[rounds_succ]
 go_wp2
 go_ret
 exact⟨rfl,rfl⟩
end
def hB(v:Int):Bool:=decide (v<=Qq)
theorem zlx{l:List Int}{o:OA}{c:Nat}{w:Wo}{bs:List Nat}(h:zs8 bs w o l)(hl:l.length<=maxLen):PX bs ZT #[.slice o l.length c] w (.bool (l.all hB)):=
 zmc o l.length c λwr hx=>by
  have h:=(h.ext hx).less (cs:=[]) Qs;refine J1 l.length 0 rfl (λk=>k<=l.length/\∀j:Nat,j<k->hB (gi l (j:Int))=true) ⟨Ic _,λj hj=>Ir hj (Nat.not_lt_zero j)⟩ λk ⟨hk,hI⟩=>⟨λIT=>?_,λRC=>?_⟩
  ·have IT:=Ot IT;refine⟨h.ix JU Qo IT,_,h k Qo IT,λg=>?_,λg=>⟨zls IT hl,QH Qo ⟨Qo,λj hj=>?_⟩⟩⟩
   ·have g:=Ot g
    have:l.all hB=false:=by
     cases hb:l.all hB with
     | false=>rfl
     | true=>
      have:=Ot (zbk.1 hb k Qo);simp only[Qq] at this;omega
    rw[this]
   ·by_cases gZ:j<k
    ·exact hI j gZ
    ·have:j=k:=Qo;subst this;have g:=Ou g;exact Ih (by simp only[Qq]; omega)
  ·have RC:=Ou RC;have hk:k=l.length:=Qo;subst hk;rw[zbk.2 hI]
theorem z4l{a:Int}{w:Wo}{b:Nat}{t:TypeId}{fz:Nat×Nat}(h:w.heap[b]? = some (.cells ([I a]:List Va).toArray t fz)):PX [] ZT #[.slice (some ⟨b,0,none⟩) 1 1] w (.bool (hB a)):=by
 have:=zlx (l:=[a]) (c:=1) (bs:=[]) (Lp h Qs) (by simp[maxLen])
 simpa using this
theorem z4x{a b2:Int}{w:Wo}{b:Nat}{t:TypeId}{fz:Nat×Nat}(h:w.heap[b]? = some (.cells ([I a,I b2]:List Va).toArray t fz)):PX [] ZT #[.slice (some ⟨b,0,none⟩) 2 2] w (.bool (hB a&&hB b2)):=by
 have:=zlx (l:=[a,b2]) (c:=2) (bs:=[]) (Lp h Qs) (by simp[maxLen])
 simpa using this
theorem z4m{a b2 b3:Int}{w:Wo}{b:Nat}{t:TypeId}{fz:Nat×Nat}(h:w.heap[b]? = some (.cells ([I a,I b2,I b3]:List Va).toArray t fz)):PX [] ZT #[.slice (some ⟨b,0,none⟩) 3 3] w (.bool (hB a&&(hB b2&&hB b3))):=by
 have:=zlx (l:=[a,b2,b3]) (c:=3) (bs:=[]) (Lp h Qs) (by simp[maxLen])
 simpa using this
def z02(W:Q8):Nat->Bool
 | 0=>hB W.now
 | k+1=>z02 W k&&(hB (gi W.ID (k:Int)).busy&&hB (gi W.ID (k:Int)).idle)
def z06(W:Q8):Nat->Bool
 | 0=>z02 W W.ID.length
 | k+1=>z06 W k&&(hB (gi W.tasks (k:Int)).v&&(hB (gi W.tasks (k:Int)).sum&&hB (gi W.tasks (k:Int)).used))
def z2i(W:Q8)(g:Int)(b0:Bool):Nat->Bool
 | 0=>b0
 | q+1=>z2i W g b0 q&&(hB (Qc W g (q:Int)).floor&&(hB (Qc W g (q:Int)).v&&hB (Qc W g (q:Int)).sum))
def zxb(W:Q8):Nat->Bool
 | 0=>z06 W W.tasks.length
 | k+1=>z2i W (k:Int) (zxb W k&&hB (gi W.IC (k:Int)).sum) (gi W.IC (k:Int)).IE.length
theorem zwh{v:Int}:hB v=true↔v<=Qq:=decide_eq_true_iff
theorem z03{W:Q8}:∀k:Nat,z02 W k=true↔W.now<=Qq/\∀j:Nat,j<k->(gi W.ID (j:Int)).busy<=Qq/\(gi W.ID (j:Int)).idle<=Qq
 | 0=>by simp only[z02,zwh]; exact⟨λh=>⟨h,λj hj=>by omega⟩,λh=>h.1⟩
 | k+1=>by
  simp only[z02,A',zwh,z03 k];constructor
  ·rintro⟨⟨h1,h2⟩,h3⟩;refine⟨h1,λj hj=>?_⟩
   by_cases e:j=k
   ·subst e; exact h3
   ·exact h2 j Qo
  ·rintro⟨h1,h2⟩;exact⟨⟨h1,λj hj=>h2 j Qo⟩,h2 k Qo⟩
theorem z07{W:Q8}:∀k:Nat,z06 W k=true↔z02 W W.ID.length=true/\∀j:Nat,j<k->(gi W.tasks (j:Int)).v<=Qq/\(gi W.tasks (j:Int)).sum<=Qq/\(gi W.tasks (j:Int)).used<=Qq
 | 0=>by simp only[z06]; exact⟨λh=>⟨h,λj hj=>by omega⟩,λh=>h.1⟩
 | k+1=>by
  simp only[z06,A',zwh,z07 k];constructor
  ·rintro⟨⟨h1,h2⟩,h3⟩;refine⟨h1,λj hj=>?_⟩
   by_cases e:j=k
   ·subst e; exact h3
   ·exact h2 j Qo
  ·rintro⟨h1,h2⟩;exact⟨⟨h1,λj hj=>h2 j Qo⟩,h2 k Qo⟩
theorem z05{W:Q8}{g:Int}{b0:Bool}:∀k:Nat,z2i W g b0 k=true↔b0=true/\∀j:Nat,j<k->(Qc W g (j:Int)).floor<=Qq/\(Qc W g (j:Int)).v<=Qq/\(Qc W g (j:Int)).sum<=Qq
 | 0=>by simp only[z2i]; exact⟨λh=>⟨h,λj hj=>by omega⟩,λh=>h.1⟩
 | k+1=>by
  simp only[z2i,A',zwh,z05 k];constructor
  ·rintro⟨⟨h1,h2⟩,h3⟩;refine⟨h1,λj hj=>?_⟩
   by_cases e:j=k
   ·subst e; exact h3
   ·exact h2 j Qo
  ·rintro⟨h1,h2⟩;exact⟨⟨h1,λj hj=>h2 j Qo⟩,h2 k Qo⟩
theorem z04{W:Q8}:∀k:Nat,zxb W k=true↔z06 W W.tasks.length=true/\∀j:Nat,j<k->(gi W.IC (j:Int)).sum<=Qq/\∀q:Nat,q<(gi W.IC (j:Int)).IE.length->(Qc W (j:Int) (q:Int)).floor<=Qq/\(Qc W (j:Int) (q:Int)).v<=Qq/\(Qc W (j:Int) (q:Int)).sum<=Qq
 | 0=>by simp only[zxb]; exact⟨λh=>⟨h,λj hj=>by omega⟩,λh=>h.1⟩
 | k+1=>by
  simp only[zxb,z05,A',zwh,z04 k];constructor
  ·rintro⟨⟨⟨h1,h2⟩,h3⟩,h4⟩;refine⟨h1,λj hj=>?_⟩
   by_cases e:j=k
   ·subst e; exact⟨h3,h4⟩
   ·exact h2 j Qo
  ·rintro⟨h1,h2⟩;exact⟨⟨⟨h1,λj hj=>h2 j Qo⟩,(h2 k Qo).1⟩,(h2 k Qo).2⟩
theorem z0g(W:Q8):zxb W W.IC.length=QK W:=by
 have key:zxb W W.IC.length=true↔Ga W:=by
  rw[z04,z07,z03];constructor
  ·rintro⟨⟨⟨h1,h2⟩,h3⟩,h4⟩;have e:∀{i:Int},0<=i->((i.toNat:Nat):Int)=i:=λh=>by omega
   refine⟨h1,λc a b=>?_,λc a b=>?_,λc a b=>?_,λk c a b c0 c1=>?_⟩
   ·have:=h2 c.toNat Qo; rwa[e a] at this
   ·have:=h3 c.toNat Qo; rwa[e a] at this
   ·have:=(h4 c.toNat Qo).1; rwa[e a] at this
   ·have:=(h4 k.toNat Qo).2 c.toNat (by rw[e a]; omega); rwa[e a,e c0] at this
  ·intro r;exact⟨⟨⟨r.n,λj hj=>r.c (j:Int) Qo Qo⟩,λj hj=>r.t (j:Int) Qo Qo⟩,λj hj=>⟨r.g (j:Int) Qo Qo,λq hq=>r.s (j:Int) (q:Int) Qo Qo Qo Qo⟩⟩
 unfold QK
 cases hb:Ul (Ga W) with
 | true=>exact key.2 (Qm.1 hb)
 | false=>
  cases ho:zxb W W.IC.length with
  | false=>rfl
  | true=>exact Ir (key.1 ho) (H1.1 hb)
theorem zkt{a b:Bool}(h:a=true->False):(a&&b)=false:=by
 cases a with
 | false=>rfl
 | true=>exact(h rfl).elim
def zvx(I:Bool->Nat->Prop)(vs:List Va):Prop:=∃(x:Bool) (k:Nat),I x k/\vs=[.bool x,.int .i64 (k:Int)]
theorem zr9{B:(List Va->Prop)->(List Va->Nat)->Bool->Int->Prop}(n:Nat){xi:Bool}{si:Int}(s:Nat)(hs:si=s)(I:Bool->Nat->Prop)(h0:I xi s)(hB:∀(x:Bool) (k:Nat),I x k->B (zvx I) (Xm n 1) x (k:Int)) :
  ∃(IN:List Va->Prop) (mu:List Va->Nat),IN [.bool xi,.int .i64 si]/\∀(x:Bool) (i:Int),IN [.bool x,.int .i64 i]->B IN mu x i:=by
 refine⟨zvx I,Xm n 1,⟨xi,s,h0,by rw[hs]⟩,?_⟩;rintro x i ⟨x',k,hI,he⟩;simp only[I4,I5,Value.bool.injEq,true_and,and_true] at he;obtain⟨rfl,rfl⟩:=he;exact hB x k hI
theorem UU{n k:Nat}{I:Bool->Nat->Prop}{x x':Bool}(hk:k<n)(hI:I x' (k+1)):zvx I [.bool x',.int .i64 ((k:Int)+1)]/\Xm n 1 [.bool x',.int .i64 ((k:Int)+1)]<Xm n 1 [.bool x,.int .i64 (k:Int)]:=by
 refine⟨⟨x',k+1,hI,Qs⟩,?_⟩;simp only[Xm,ZP,Ie,List.getElem?_cons_succ];omega
section
variable {W:Q8}{m:MW}{w:Wo}{bs:List Nat}{p:OA}
theorem TX(h:Mk bs w p W m)(ha:WA W):PX bs Yj #[.pointer p] w (.bool (QK W)):=by
 rw[<-z0g];refine BJ p λwr hx=>?_
 have h:=(h.ext hx).less (cs:=[]) Qs;have fZ:=ha.t;have dD:=ha.gl;have tL:=ha.c2;refine⟨h.some,_,h.now,λb hb=>⟨hB W.now,λwx _ hc=>z4l hc,h.some,_,_,_,h.ID,?_⟩⟩;refine zr9 W.ID.length 0 rfl (λx k=>k<=W.ID.length/\x=z02 W k) ⟨Ic _,rfl⟩ λx k ⟨hk,RR⟩=>⟨λIT=>?_,λRC=>?_⟩
 ·have IT:=Ot IT;refine⟨h.rd.c.ix Yh Qo IT,_,_,_,_,_,h.rd.c k Qo IT,λb1 fQ=>⟨λ_ b2 bR=>⟨_,λ_ wx _ hc=>z4x hc,⟨Qo,Qo⟩,UU Qo ⟨Qo,by rw[RR]; rfl⟩⟩,λhn=>⟨⟨Qo,Qo⟩,UU Qo ⟨Qo,?_⟩⟩⟩⟩;simp only[z02]; rw[<-RR,zkt hn]
 have RC:=Ou RC;have hkk:k=W.ID.length:=Qo;subst hkk;refine⟨h.some,_,_,_,h.tasks,?_⟩;refine zr9 W.tasks.length 0 rfl (λx k=>k<=W.tasks.length/\x=z06 W k) ⟨Ic _,RR⟩ λx k ⟨hk,RR⟩=>⟨λIT=>?_,λRC=>?_⟩
 ·have IT:=Ot IT;refine⟨h.rd.t.ix QG Qo IT,_,_,_,_,_,_,_,_,_,h.rd.t k Qo IT,λb1 fQ=>⟨λ_ b2 bR=>⟨_,λ_ wx _ hc=>z4m hc,⟨Qo,Qo⟩,UU Qo ⟨Qo,by rw[RR]; rfl⟩⟩,λhn=>⟨⟨Qo,Qo⟩,UU Qo ⟨Qo,?_⟩⟩⟩⟩;simp only[z06]; rw[<-RR,zkt hn]
 have RC:=Ou RC;have hkk:k=W.tasks.length:=Qo;subst hkk;refine⟨h.some,_,_,_,h.IC,?_⟩;refine zr9 W.IC.length 0 rfl (λx k=>k<=W.IC.length/\x=zxb W k) ⟨Ic _,RR⟩ λx k ⟨hk,RR⟩=>⟨λIT=>?_,λRC=>?_⟩
 ·have IT:=Ot IT;have hsl:(gi W.IC (k:Int)).IE.length<=4:=(GW ha (k:=(k:Int)) Qo Qo).2.2;have hrs:=h.rd.g.IE (k:Int) Qo IT;rw[Ig] at hrs
  have inner:∀{b0:Bool},b0=(zxb W k&&hB (gi W.IC (k:Int)).sum)->∃(IN:List Va->Prop) (mu:List Va->Nat),IN [.bool b0,I 0]/\∀(ok3:Bool) (cU:Int),IN [.bool ok3,I cU]->
    ((decide (cU<(((gi W.IC (k:Int)).IE.length:Nat):Int)))=true->
     Ix (m.ms k).sO (gi W.IC (k:Int)).IE.length cU/\
     (∃(x03:Int) (x15:Bool) (x23:Int) (x33:Int) (x43:Int),
     Q1 [] wr (m.ms k).sO (Int.toNat cU*5) [I x03,.bool x15,I x23,I x33,I x43]/\
     (∀b7,wr.heap.size<=b7->
     (ok3=true->(∀b8,wr.heap.size<=b8->
     (∃(wM:Bool),
     (ok3=true->(∀wx4,Q0 [] wr wx4->wx4.heap[b8]? = some (Obj.cells ([I x03,I x23,I x43]:List Va).toArray Qa (0,0))->PX [] ZT #[.slice (some (Addr.mk b8 0 none)) 3 3] wx4 (.bool wM)))/\
     Qr .i64 (cU+1)/\
     IN [.bool (ok3&&wM),I (cU+1)]/\mu [.bool (ok3&&wM),I (cU+1)]<mu [.bool ok3,I cU])))/\
     ((ok3=true->False)->
     Qr .i64 (cU+1)/\
     IN [.bool false,I (cU+1)]/\mu [.bool false,I (cU+1)]<mu [.bool ok3,I cU]))))/\
    ((decide (cU<(((gi W.IC (k:Int)).IE.length:Nat):Int)))=false->ok3=zxb W (k+1)):=λ{b0} hb0=>by
   refine zr9 (gi W.IC (k:Int)).IE.length 0 rfl (λx q=>q<=(gi W.IC (k:Int)).IE.length/\x=z2i W (k:Int) (zxb W k&&hB (gi W.IC (k:Int)).sum) q) ⟨Ic _,hb0⟩ λx q ⟨hq,R0⟩=>⟨λRw=>?_,λbP=>?_⟩
   ·have Rw:=Ot Rw;refine⟨hrs.ix X7 Qo Rw,_,_,_,_,_,hrs q Qo Rw,λb7 hb7=>⟨λ_ b8 hb8=>⟨_,λ_ wx _ hc=>z4m hc,⟨Qo,Qo⟩,UU Qo ⟨Qo,by rw[R0]; rfl⟩⟩,λhn=>⟨⟨Qo,Qo⟩,UU Qo ⟨Qo,?_⟩⟩⟩⟩;simp only[z2i]; rw[<-R0,zkt hn]
   ·have bP:=Ou bP;have:q=(gi W.IC (k:Int)).IE.length:=Qo;rw[R0,this]; rfl
  refine⟨h.rd.g.ix Qo IT,_,_,_,_,_,_,_,_,_,_,_,_,_,_,_,_,_,_,_,_,h.rd.g.cells (k:Int) Qo IT,λb5 hb5=>⟨λ_ b6 hb6=>⟨hB (gi W.IC (k:Int)).sum,λ_ wx _ hc=>z4l hc,?_⟩,λhn=>?_⟩⟩
  ·obtain⟨xI,mu,h0,hI⟩:=inner (b0:=x&&hB (gi W.IC (k:Int)).sum) (by rw[RR]);refine⟨xI,mu,h0,λok3 cU hi=>⟨(hI ok3 cU hi).1,λbP=>⟨⟨Qo,Qo⟩,?_⟩⟩⟩;have e:=(hI ok3 cU hi).2 bP;exact UU Qo ⟨Qo,e⟩
  ·obtain⟨xI,mu,h0,hI⟩:=inner (b0:=false) (by rw[<-RR,zkt hn]);refine⟨xI,mu,h0,λok3 cU hi=>⟨(hI ok3 cU hi).1,λbP=>⟨⟨Qo,Qo⟩,?_⟩⟩⟩;have e:=(hI ok3 cU hi).2 bP;exact UU Qo ⟨Qo,e⟩
 ·have RC:=Ou RC;have hkk:k=W.IC.length:=Qo;subst hkk;rw[RR]
end
def Vw(w:Wo):Prop:=w.cell? ⟨0,0,none⟩=some (.iface 174 (.agg #[.pointer (some ⟨1,67,none⟩)]))
theorem Vw.ext{w w':Wo}(h:Vw w)(hx:Q0 [] w w'):Vw w':=by
 have IT:0<w.heap.size:=by
  rcases Nat.eq_zero_or_pos w.heap.size with h0 | h1
  ·unfold Vw at h; simp[World.cell?,h0] at h
  ·exact h1
 have hb:=hx.block 0 IT Qs;unfold Vw at h ⊢;unfold World.cell? at h ⊢
 dsimp only at h ⊢
 rw[hb];exact h
theorem Vw.lt{w:Wo}(h:Vw w):0<w.heap.size:=by
 rcases Nat.eq_zero_or_pos w.heap.size with h0 | h1
 ·unfold Vw at h; simp[World.cell?,h0] at h
 ·exact h1
theorem zzq(t:Va)(w:Wo):Cz LI #[.nilIface,t] w λe w'=>e=.returned (.bool false)/\Q0 [] w w':=(z1k t w).mono λe w' ⟨he,hw⟩=>⟨he,by rw[hw]; exact Q0.refl _ _⟩
theorem zwq{n:Int}{t:Nat}{old:Int}{w:Wo}{ty:TypeId}(hg:Vw w)(ht:w.heap[t]? = some (.cells ([I old]:List Va).toArray ty (0,0))) :
  Cz LI #[.iface Qi (.agg #[I n]),.iface Jn (.pointer (some ⟨t,0,none⟩))] w λe w'=>e=.returned (.bool true)/\w'.heap[t]? = some (.cells ([I n]:List Va).toArray ty (0,0))/\Q0 [t] w w':=by
 refine(z1i n ⟨t,0,none⟩ (I old) w hg (by rw[Vx ht]; rfl) (by simp[World.frozen?,ht])).mono λe w' ⟨he,hw⟩=>⟨he,?_⟩
 subst hw;have hx:=(((((Q0.refl [] w).alloc (.cells #[.pointer (some ⟨t,0,none⟩)] Jn)).alloc (.cells #[.pointer (some ⟨1,Jn,none⟩),.pointer (some ⟨w.heap.size,0,none⟩),.int .u64 150] JR)).alloc (.cells #[.pointer (some ⟨1,Jn,none⟩),.pointer (some ⟨w.heap.size,0,none⟩),.int .u64 150] JR)).alloc (.cells #[I n] Qi));have hb:=Qg ht hx Qs;refine⟨?_,?_⟩
 ·have:=U6 (k:=0) (n:=0) (vs:=[I n]) hb;exact this
 ·exact hx.of_nil.setCell (p:=⟨t,0,none⟩) (.inr Qs) _
structure Ki (base pb:Nat) (ex:List Nat) (w:Wo) (m:MW) (w':Wo) (W':Q8) (m':MW):Prop where
 own:Zj 8 base w' W' m'
 pt:w'.heap[pb]? = some (.cells (Qb W' m').toArray Q5 (0,0))
 ext:Q0 (ex++(pb::QR 8 m)) w w'
 sub:∀x∈QR 8 m',x∈QR 8 m\/w.heap.size<=x
theorem Mp.done{base pb:Nat}{ex:List Nat}{w w':Wo}{W':Q8}{m m':MW}(h:Mp base pb [] w m w' W' m'):Ki base pb ex w m w' W' m':=
 ⟨h.v.own,h.pt,h.v.ext.mono λx hx=>Iw _ (I1 _ hx),h.v.sub⟩
def z21(ex:List Nat)(r:Q8×Int)(w:Wo)(v:Va)(w':Wo):Prop:=∃n m',v=.tuple #[.agg (Qb r.1 m').toArray,I r.2]/\Zj n w.heap.size w' r.1 m'/\Q0 ex w w'
section
variable {W W':Q8}{m:MW}{w:Wo}{bar:Int}
theorem zd6{cf:Fn}{ca ck:Array Va}(ex:List Nat)(P:Wo->Prop)(hP:∀(a b:Wo) (bs:List Nat),P a->Q0 bs a b->(∀x∈bs,w.heap.size<=x)->P b)(hex:∀x∈ex,x<w.heap.size)(hz:0∉ex)(h:XF [] w W m)(hr:∀x∈ex,∀w1,Q0 ex w w1->XF [] w1 W m)(hl:UG W)(hg:Vw w)(Rt:∀(w1:Wo) (pb:Nat) (m1:MW),QB W=true->Q0 [] w w1->w.heap.size<=pb->PW w.heap.size pb w1 W m1->
   Km Tryz.prog (.func cf ca ck) [.pointer (pA pb)] w1 λe w2=>(bar≠0/\e=.returned (.iface Qi (.agg #[I bar]))/\Q0 [] w1 w2)\/(bar=0/\e=.returned .nilIface/\P w2/\∃m2,Ki w.heap.size pb ex w1 m1 w2 W' m2)) :
  Cz Yc #[.agg (Qb W m).toArray,.func cf ca ck] w λe w'=>∃v,e=.returned v/\z21 ex (Yv W bar W') w v w'/\(QB W=true->bar=0->P w')/\(QB W=false\/bar≠0->Q0 [] w w'):=by
 refine zdd _ _ _ _ _ _ _ _ _ _ cf ca ck (R:=λv w'=>z21 ex (Yv W bar W') w v w'/\(QB W=true->bar=0->P w')/\(QB W=false\/bar≠0->Q0 [] w w')) ?_;intro x hx x1 RR;refine⟨_,zd8 h hl.c hl.g hl.f,λg wr R0=>?_,λg I' R0 dZ=>?_⟩
 ·have hW:QB W=false:=by simpa using g
  refine⟨?_,λhw=>(by rw[hW] at hw; cases hw),λ_=>R0⟩;rw[zku hW];exact⟨0,zym,rfl,Zj.zero _ _,R0.of_nil⟩
 have hW:QB W=true:=by simpa using g
 have wp:=Qm.1 hW;have s1:Sc w [x,x1] I':=(((Sc.start w).add hx).add RR).M' R0;refine I3 (AQ (h.ext R0) wp.a) ?_;rintro e wv ⟨m1,he,hM1,aR⟩;have s2:=s1.M' aR;have nN:=(OW.of hM1 dZ).mono R0.size;refine⟨_,_,_,_,_,_,_,_,_,_,he,Qf aR dZ,λb2 wb hxb bR hcb hn2=>?_⟩;have s3:=s2.step hxb;have hO3:=nN.step hxb;have Ck9:w.heap.size<=b2:=IA s2.ext.size bR
 have gW:b2∉QR 8 m1:=λhm=>by
  have:=(nN.own.lt b2 hm).2;omega
 refine⟨U7 (k0:=0) hcb hn2 Qs,λb3 lY CB6 wC Cm4 hn3=>?_⟩;have gX:=U6 (k:=0) (n:=0) (vs:=Qb W m1) hcb;have CB2:Q0 [b2] wb (R5 wb (some ⟨b2,0,none⟩) 0 (Qb W m1)):=X3 λa ha=>by cases ha; simp
 have hO4 := (hO3.call CB2 fun y hy hm => gW (by have:y=b2:=by simpa using hm
                                                 exact this▸hy)).step CB6
 have s4 := (s3.call CB2 fun y hy => by have:y=b2:=by simpa using hy
                                        omega).step CB6
 have Cq5:lY.heap[b2]? = some (.cells (Qb W m1).toArray Q5 (0,0)):=Qg gX CB6 hn2
 have DE9:b2≠b3:=λe=>by
  have:=Yt gX;have Cl0:(R5 wb (some ⟨b2,0,none⟩) 0 (Qb W m1)).heap.size<=b3:=wC;omega
 have DF0:w.heap.size<=b3:=by
  have h1:=CB2.size;have h2:=s3.ext.size;have Cl0:(R5 wb (some ⟨b2,0,none⟩) 0 (Qb W m1)).heap.size<=b3:=wC;omega
 intro O' Si SR;have hO5:=hO4.step Si;have s5:=s4.step Si;have Cq6:=Qg Cq5 Si hn2;have hc5:=Qg Cm4 Si hn3;refine Km.mono (Rt O' b2 m1 hW s5.ext Ck9 ⟨hO5.own,Cq6,gW⟩) ?_;rintro e1 R1 (⟨hb0,eH,hy⟩ | ⟨hb0,eH,hPw,m2,hD⟩)
 ·
  refine⟨_,eH,Qf hy SR,λRj Sb gI=>?_⟩;have s6:=(s5.M' hy).step Sb;have hc6:=Qg (Qg hc5 hy Qs) Sb hn3;refine I3 (zwq (hg.ext s6.ext) hc6) ?_;rintro e2 Rr ⟨aM,hc7,Sm⟩
  have s7 := s6.call Sm fun y hy => by have:y=b3:=by simpa using hy
                                       omega
  have SO:∀{w9:Wo},Q0 [x,x1] Rr w9->Q1 [x,x1] w9 (some ⟨b3,0,none⟩) (0+0) [I bar]:=λh9=>Ym (Qg hc7 h9 hn3) hn3 (k0:=0) rfl
  refine ⟨true, aM, Hs Sm gI (fun y hm iP => by have:y=b3:=by simpa using hm
                                                exact hn3 (this▸iP)),λ_=>⟨bar,SO (Q0.refl _ _),λRn Wt fT=>?_⟩,λg=>by cases g⟩
  have s8:=s7.step Wt;refine I3 (AQ (h.ext s8.ext) wp.a) ?_;rintro e3 RO ⟨m3,fS,cJ,dG⟩;have s9:=s8.M' dG;have hO9:=(OW.of cJ fT).mono s8.ext.size;have hc9:Q1 [x,x1] RO (some ⟨b3,0,none⟩) (0+0) [I bar]:=Ym (Qg (Qg hc7 Wt hn3) dG Qs) hn3 (k0:=0) rfl;refine⟨_,_,_,_,_,_,_,_,_,_,fS,Qf dG fT,hc9,hc9,λRE dK=>⟨?_,λ_ hb=>Ir hb hb0,λ_=>(s9.step dK).ext⟩⟩;rw[zbl hW hb0];exact⟨8,m3,rfl,(hO9.step dK).own,(s9.step dK).ext.of_nil⟩
 ·
  have Cq0:∀y∈ex++(b2::QR 8 m1),y∉[x,x1]:=λy hy hm=>by
   rcases Im.1 hy with h1 | h1
   ·have:=hex y h1;have:=s1.new y hm;omega
   ·rcases Ii.1 h1 with h1 | h1
    ·subst h1; exact hn2 hm
    ·exact hO5.nb y h1 hm
  refine⟨_,eH,Hs hD.ext SR Cq0,λRj Sb gI=>?_⟩;refine I3 (zzq _ _) ?_;rintro e2 Rr ⟨aM,Sm⟩
  have CP6:∀y∈QR 8 m2,y∉[x,x1]:=λy hy hm=>by
   rcases hD.sub y hy with h1 | h1
   ·exact hO5.nb y h1 hm
   ·have:=SR y hm;omega
  have uD:=((hD.own.ext Sb CP6).Wu Sm);have Cq7:=Qg (Qg hD.pt Sb hn2) Sm Qs
  have tW:Q0 ex w R1:=s5.ext.of_nil.fresh hD.ext λy hy=>by
   rcases Im.1 hy with h1 | h1
   ·exact .inr h1
   ·refine .inl ?_;rcases Ii.1 h1 with h1 | h1
    ·omega
    ·exact(hO5.own.lt y h1).1
  have hX3:Q0 ex w Rr:=(tW.fresh Sb λy hy=>.inl (s1.new y hy)).trans Sm.of_nil;refine⟨false,aM,Qf Sm gI,λg=>(by cases g),λ_=>⟨_,_,_,_,_,_,_,_,_,_,MC Cq7 hn2 (k0:=0) (n:=0) λj v hj=>by simpa[Qb] using hj,λRP Wt=>⟨?_,λ_ _=>?_,λhn=>?_⟩⟩⟩
  ·rw[zkv hW hb0];exact⟨8,m2,rfl,uD.ext Wt CP6,hX3.fresh Wt λy hy=>.inl (s1.new y hy)⟩
  ·exact hP _ _ _ (hP _ _ _ (hP _ _ _ hPw Sb s1.new) Sm Qs) Wt s1.new
  ·rcases hn with h1 | h1
   ·rw[hW] at h1; cases h1
   ·exact Ir hb0 h1
theorem L7{cf:Fn}{ca ck:Array Va}(h:XF [] w W m)(hl:UG W)(hg:Vw w)(Rt:∀(w1:Wo) (pb:Nat) (m1:MW),QB W=true->Q0 [] w w1->w.heap.size<=pb->PW w.heap.size pb w1 W m1->
   Km Tryz.prog (.func cf ca ck) [.pointer (pA pb)] w1 λe w2=>(bar≠0/\e=.returned (.iface Qi (.agg #[I bar]))/\Q0 [] w1 w2)\/(bar=0/\e=.returned .nilIface/\∃m2,Ki w.heap.size pb [] w1 m1 w2 W' m2)) :
  Cz Yc #[.agg (Qb W m).toArray,.func cf ca ck] w λe w'=>∃v,e=.returned v/\QL (Yv W bar W') w v w':=
 (zd6 [] (λ_=>True) (λ_ _ _ _ _ _=>trivial) Qs Qs h Qs hl hg λw1 pb m1 a b c d=>(Rt w1 pb m1 a b c d).mono λe w2 hh=>by
  rcases hh with h1 | ⟨h1,h2,h3⟩
  ·exact .inl h1
  ·exact .inr ⟨h1,h2,trivial,h3⟩).mono λe w' ⟨v,he,hA,_⟩=>⟨v,he,hA⟩
end
end Go.Proofs.YtnclplgaicdapaaGreatDoor
