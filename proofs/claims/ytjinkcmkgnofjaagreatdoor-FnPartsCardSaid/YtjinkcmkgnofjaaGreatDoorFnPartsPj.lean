/- Part 10 of what the law FnParts needs. -/
import Derived.Test.YtjinkcmkgnofjaaGreatDoorFnPartsPi
import Derived.LaidEql
import Derived.Stop.Asserts
import Derived.RowKitTokens
set_option linter.all false
set_option maxRecDepth 100000
set_option maxHeartbeats 8000000
namespace Go.Proofs.YtjinkcmkgnofjaaGreatDoor
open Go.RowKit
section
open Go.RowKit Go.Extern.Stop Go.Stop Go.Extern
def z34(t:Va)(w:Wo) :
  Cz 84 #[.nilIface,t] w λe w'=>e=.returned (.bool false)/\w'=w:=by
 go_enter Tryz.func84,Tryz.ntmps84
 go_wp2
 go_ret
 exact⟨rfl,rfl⟩
def zm7(t:Addr)(w:Wo):(ReflectliteValue.unpack (.iface 112 (.pointer (some t)))).run Tryz.prog w
  = .ok (.agg #[.pointer (some ⟨1,112,none⟩),.pointer (some ⟨w.heap.size,0,none⟩),.int .u64 150]) (w.alloc (.cells #[.pointer (some t)] 112)):=Qk
def zwz (a : Addr) (w : World) : (ReflectliteValue.methodAny (ReflectliteValue.valueError "reflectlite.Value.Type" 0) (λt _ _ _ => ReflectliteType.toType t) #[.agg #[.pointer (some ⟨1, 112, none⟩), .pointer (some a), .int .u64 150]]).run Tryz.prog w
  = .ok (.iface 158 (.agg #[.pointer (some ⟨1,112,none⟩)])) w:=Qk
def zg0 (h : Value) (w : World) : (Go.method 318 158 (.agg #[h]) "Kind").run Tryz.prog w = .ok (215, h) w := by kernel_rfl
def zww(w:Wo):((ReflectliteType.abiMethod λt=>(λa:Nat=>Value.int IntKind.u8 (a:Int)) <$> Rtype.kind t) #[.pointer (some ⟨1,112,none⟩)]).run Tryz.prog w=.ok (.int .u8 22) w:=Qk
def zwv(w:Wo):((ReflectliteType.abiMethod λt=>(λa:Nat=>Value.int IntKind.u8 (a:Int)) <$> Rtype.kind t) #[.pointer (some ⟨1,86,none⟩)]).run Tryz.prog w=.ok (.int .u8 25) w:=Qk
def zwy(z:Sem Va)(f:TypeId->Addr->Nat->Nat->Sem Va)(v:Va) :
  ReflectliteValue.method z f #[v]=(do match <-ReflectliteValue.parts v with|none=>z|some (t,a,fl)=>f t a fl (fl % 32)):=rfl
def zin(a:Addr)(w:Wo):(ReflectliteValue.parts (.agg #[.pointer (some ⟨1,112,none⟩),.pointer (some a),.int .u64 150])).run Tryz.prog w=.ok (some (112,a,150)) w:=Qk
def zio:Tryz.prog.underlying 112=some (.pointer 86):=Qk
def zt0 (a p:Addr) (W:Wo) (ha:W.cell? a=some (.pointer (some p))) :
  (ReflectliteValue.method (ReflectliteValue.valueError "reflectlite.Value.IsNil" 0) ReflectliteValue.isNil #[.agg #[.pointer (some ⟨1, 112, none⟩), .pointer (some a), .int .u64 150]]).run Tryz.prog W = .ok (.bool false) W := by
 rw[zwy]
 simp only[Sem.run_bind,zin,Result.andThen]
 simp[ReflectliteValue.isNil,loadVar,isAgg,underlying,zio,ha,Result.andThen]
def zgz (h : Value) (w : World) : (Go.method 318 158 (.agg #[h]) "Elem").run Tryz.prog w = .ok (240, .agg #[h]) w := by kernel_rfl
def Di (h : Value) (w : World) : (Go.method 318 158 (.agg #[h]) "Implements").run Tryz.prog w = .ok (241, .agg #[h]) w := by kernel_rfl
def Gu (h : Value) (w : World) : (Go.method 318 158 (.agg #[h]) "AssignableTo").run Tryz.prog w = .ok (238, .agg #[h]) w := by kernel_rfl
def zwt(w:Wo):(ReflectliteType.method ReflectliteType.elem #[.agg #[.pointer (some ⟨1,112,none⟩)]]).run Tryz.prog w=.ok (.iface 158 (.agg #[.pointer (some ⟨1,86,none⟩)])) w:=Qk
def zwu (w : World) : (ReflectliteType.relation "Implements" ReflectliteType.implements_ #[.agg #[.pointer (some ⟨1, 86, none⟩)], .iface 158 (.agg #[.pointer (some ⟨1, 84, none⟩)])]).run Tryz.prog w = .ok (.bool true) w := by kernel_rfl
def zpw(v:Va)(w:Wo):(ReflectliteType.typeOf #[.iface 86 v]).run Tryz.prog w=.ok (.iface 158 (.agg #[.pointer (some ⟨1,86,none⟩)])) w:=Qk
def zps (w : World) : (ReflectliteType.relation "AssignableTo" ReflectliteType.assignableTo #[.agg #[.pointer (some ⟨1, 86, none⟩)], .iface 158 (.agg #[.pointer (some ⟨1, 86, none⟩)])]).run Tryz.prog w = .ok (.bool true) w := by kernel_rfl
def zm6(n:Int)(w:Wo):(ReflectliteValue.unpack (.iface 86 (.agg #[I n]))).run Tryz.prog w
  = .ok (.agg #[.pointer (some ⟨1,86,none⟩),.pointer (some ⟨w.heap.size,0,none⟩),.int .u64 153]) (w.alloc (.cells #[I n] 86)):=Qk
def zpu(w:Wo):(Rtype.elem? 112).run Tryz.prog w=.ok (some 86) w:=Qk
def z33(p:Addr)(w:Wo):(ReflectliteValue.mk 86 p ReflectliteValue.flagAddr).run Tryz.prog w=.ok (.agg #[.pointer (some ⟨1,86,none⟩),.pointer (some p),.int .u64 409]) w:=Qk
def ztz (a p:Addr) (W:Wo) (ha:W.cell? a=some (.pointer (some p))) :
  (ReflectliteValue.method (ReflectliteValue.valueError "reflectlite.Value.Elem" 0) ReflectliteValue.elem #[.agg #[.pointer (some ⟨1, 112, none⟩), .pointer (some a), .int .u64 150]]).run Tryz.prog W
   = .ok (.agg #[.pointer (some ⟨1,86,none⟩),.pointer (some p),.int .u64 409]) W:=by
 rw[zwy]
 simp only[Sem.run_bind,zin,Result.andThen]
 simp[ReflectliteValue.elem,loadVar,isAgg,underlying,zio,ha,Result.andThen,zpu,z33]
def zpv(a:Addr)(w:Wo):(ReflectliteValue.parts (.agg #[.pointer (some ⟨1,86,none⟩),.pointer (some a),.int .u64 409])).run Tryz.prog w=.ok (some (86,a,409)) w:=Qk
def zt1(a:Addr)(w:Wo):(ReflectliteValue.parts (.agg #[.pointer (some ⟨1,86,none⟩),.pointer (some a),.int .u64 153])).run Tryz.prog w=.ok (some (86,a,153)) w:=Qk
def zpt(w:Wo):(Rtype.directlyAssignable 86 86).run Tryz.prog w=.ok true w:=Qk
def z35 (v x:Va):ReflectliteValue.set #[v,x]=(do
  let (some (dst,a,fl),some (src,b,_)):=(<-ReflectliteValue.parts v,<-ReflectliteValue.parts x)
   |unsupported (.noEntry "extern/(internal/reflectlite.Value).Set.zeroValue")
  if fl / ReflectliteValue.flagAddr % 2 == 0 then unsupported (.noEntry "extern/(internal/reflectlite.Value).Set.unaddressable")
  let val <-loadVar src b
  if <-Rtype.directlyAssignable dst src then storeVar dst a val
  else if <-Rtype.implements dst src then
   if (<-Rtype.kind src)==20 then
    match val with
    |.nilIface => unsupported (.noEntry "extern/reflectlite: a nil value of one interface type handed on as a value of another")
    |_=>storeVar dst a val
   else storeVar dst a (.iface src val)
  else panicString ("reflectlite.Set: value of type " ++ (← Rtype.spelt src) ++ " is not assignable to type " ++ (← Rtype.spelt dst))
  pure (.tuple #[])):=rfl
def z0s(w:Wo):(isAgg 86).run Tryz.prog w=.ok true w:=Qk
def zm5(w:Wo):(sizeOf 86).run Tryz.prog w=.ok 1 w:=Qk
def zwx(b:Addr)(n:Int)(W:Wo)(hb:W.cell? b=some (I n)):(loadVar 86 b).run Tryz.prog W=.ok (.agg #[I n]) W:=by
 unfold loadVar;simp only[Sem.run_bind,z0s,Result.andThen,if_true];simp only[Sem.run_bind,zm5,Result.andThen];have e:b.add 0=b:=by cases b;rfl
 simp[loadCells,loadCellsFrom,e,hb,Result.andThen]
def z0t(ta b:Addr)(n:Int)(old:Va)(W:Wo)(hb:W.cell? b=some (I n))(ht:W.cell? ta=some old)(hf:W.frozen? ta=false) :
  (ReflectliteValue.set #[.agg #[.pointer (some ⟨1,86,none⟩),.pointer (some ta),.int .u64 409],.agg #[.pointer (some ⟨1,86,none⟩),.pointer (some b),.int .u64 153]]).run Tryz.prog W
   = .ok (.tuple #[]) (W.setCell ta (I n)):=by
 rw[z35];simp only[Sem.run_bind,zpv,zt1,Result.andThen];have e:ta.add 0=ta:=by cases ta;rfl
 simp[ReflectliteValue.flagAddr,zwx b n W hb,Result.andThen,zpt,storeVar,zm5,Value.cells,storeCells,e];rw[run_store Tryz.prog W ta _ _ (by rfl)];simp[ht,hf]
set_option maxHeartbeats 4000000 in
def z32 (n:Int) (t:Addr) (old:Va) (w:Wo) (hg:w.cell? ⟨0,0,none⟩=some (.iface 158 (.agg #[.pointer (some ⟨1,84,none⟩)]))) (ht0:w.cell? t=some old) (hf0:w.frozen? t=false) :
  Cz 84 #[.iface 86 (.agg #[.int .i64 n]),.iface 112 (.pointer (some t))] w λev w'=>ev=.returned (.bool true)/\w'=((((w.alloc (.cells #[.pointer (some t)] 112)).alloc (.cells #[.pointer (some ⟨1,112,none⟩),.pointer (some ⟨w.heap.size,0,none⟩),.int .u64 150] 127)).alloc (.cells #[.pointer (some ⟨1,112,none⟩),.pointer (some ⟨w.heap.size,0,none⟩),.int .u64 150] 127)).alloc (.cells #[.int .i64 n] 86)).setCell t (.int .i64 n):=by
 have h6:=@run_callFunc_extern Tryz.prog 125 _ (λargs=>ReflectliteValue.unpack (args.getD 0 (.tuple #[]))) Tryz.func125 Qk Qk Qk Qk
 have h7 := @run_callFunc_extern Tryz.prog 126 _ (ReflectliteValue.methodAny (ReflectliteValue.valueError "reflectlite.Value.Type" 0) (λt _ _ _ => ReflectliteType.toType t)) Tryz.func126 (by kernel_rfl) (by kernel_rfl) (by kernel_rfl) (by kernel_rfl)
 have h8 := @run_callFunc_extern Tryz.prog 127 _ (ReflectliteValue.method (ReflectliteValue.valueError "reflectlite.Value.IsNil" 0) ReflectliteValue.isNil) Tryz.func127 (by kernel_rfl) (by kernel_rfl) (by kernel_rfl) (by kernel_rfl)
 have h27:=@run_callFunc_extern Tryz.prog 215 _ (ReflectliteType.abiMethod λt=>do pure (.int .u8 (<-Rtype.kind t))) Tryz.func215 Qk Qk Qk Qk
 have h37:=@run_callFunc_extern Tryz.prog 240 _ (ReflectliteType.method ReflectliteType.elem) Tryz.func240 Qk Qk Qk Qk
 have h38 := @run_callFunc_extern Tryz.prog 241 _ (ReflectliteType.relation "Implements" ReflectliteType.implements_) Tryz.func241 (by kernel_rfl) (by kernel_rfl) (by kernel_rfl) (by kernel_rfl)
 have h10:=@run_callFunc_extern Tryz.prog 168 _ ReflectliteType.typeOf Tryz.func168 Qk Qk Qk Qk
 have h35 := @run_callFunc_extern Tryz.prog 238 _ (ReflectliteType.relation "AssignableTo" ReflectliteType.assignableTo) Tryz.func238 (by kernel_rfl) (by kernel_rfl) (by kernel_rfl) (by kernel_rfl)
 have h11 := @run_callFunc_extern Tryz.prog 169 _ (ReflectliteValue.method (ReflectliteValue.valueError "reflectlite.Value.Elem" 0) ReflectliteValue.elem) Tryz.func169 (by kernel_rfl) (by kernel_rfl) (by kernel_rfl) (by kernel_rfl)
 have h12:=@run_callFunc_extern Tryz.prog 170 _ ReflectliteValue.set Tryz.func170 Qk Qk Qk Qk
 have tO:=zpw
 have mA:=Gu
 have a25:=zps
 have v25:=zm6
 have f6:=zm7
 have f7:=zwz
 have mK:=zg0
 have mE:=zgz
 have mI:=Di
 have k27:=zww
 have k25:=zwv
 have e27:=zwt
 have i25:=zwu
 have n8:=zt0 ⟨w.heap.size,0,none⟩ t ((w.alloc (.cells #[.pointer (some t)] 112)).alloc (.cells #[.pointer (some ⟨1,112,none⟩),.pointer (some ⟨w.heap.size,0,none⟩),.int .u64 150] 127)) Qs
 have IW:0<w.heap.size:=by
  rcases Nat.eq_zero_or_pos w.heap.size with h0|h
  ·simp[World.cell?,h0] at hg
  ·exact h
 have hg2:((w.alloc (.cells #[.pointer (some t)] 112)).alloc (.cells #[.pointer (some ⟨1,112,none⟩),.pointer (some ⟨w.heap.size,0,none⟩),.int .u64 150] 127)).cell? ⟨0,0,none⟩=some (.iface 158 (.agg #[.pointer (some ⟨1,84,none⟩)])):=by
  rw[World.cell?_alloc_lt _ _ ⟨0,0,none⟩ Qs,World.cell?_alloc_lt _ _ ⟨0,0,none⟩ IW];exact hg
 have jF:t.block<w.heap.size:=by
  rcases Nat.lt_or_ge t.block w.heap.size with h|h
  ·exact h
  ·simp[World.cell?,Array.getElem?_eq_none h] at ht0
 have el:=ztz ⟨w.heap.size,0,none⟩ t (((w.alloc (.cells #[.pointer (some t)] 112)).alloc (.cells #[.pointer (some ⟨1,112,none⟩),.pointer (some ⟨w.heap.size,0,none⟩),.int .u64 150] 127)).alloc (.cells #[.pointer (some ⟨1,112,none⟩),.pointer (some ⟨w.heap.size,0,none⟩),.int .u64 150] 127)) (by rw[World.cell?_alloc_lt _ _ ⟨w.heap.size,0,none⟩ (by simp;omega)];simp)
 have st:=z0t t ⟨w.heap.size+1+1+1,0,none⟩ n old ((((w.alloc (.cells #[.pointer (some t)] 112)).alloc (.cells #[.pointer (some ⟨1,112,none⟩),.pointer (some ⟨w.heap.size,0,none⟩),.int .u64 150] 127)).alloc (.cells #[.pointer (some ⟨1,112,none⟩),.pointer (some ⟨w.heap.size,0,none⟩),.int .u64 150] 127)).alloc (.cells #[.int .i64 n] 86))
  (by rw[World.cell?_alloc_at _ _ _ _ Qs];rfl)
  (by rw[World.cell?_alloc_lt _ _ t (by simp;omega),World.cell?_alloc_lt _ _ t (by simp;omega),World.cell?_alloc_lt _ _ t (by simp;omega),World.cell?_alloc_lt _ _ t jF];exact ht0)
  (by rw[World.frozen?_alloc_old _ _ t (by simp;omega),World.frozen?_alloc_old _ _ t (by simp;omega),World.frozen?_alloc_old _ _ t (by simp;omega),World.frozen?_alloc_old _ _ t (Nat.ne_of_lt jF)];exact hf0)
 go_enter Tryz.func84,Tryz.ntmps84
 go_wp2
 refine wp_loop_rounds 1 ?_
 rw[rounds_succ]
 go_wp2
 go_ret
 exact⟨rfl,rfl⟩
end
def hB(v:Int):Bool:=decide (v<=Ql)
def zlm{l:List Int}{o:OA}{c:Nat}{w:Wo}{bs:List Nat}(h:zm3 bs w o l)(hl:l.length<=maxLen):PX bs Yb #[.slice o l.length c] w (.bool (l.all hB)):=
 zl6 o l.length c λwr hx=>by
  have h:=(h.ext hx).less (cs:=[]) Qs;refine X7 l.length 0 rfl (λk=>k<=l.length/\∀j:Nat,j<k->hB (gi l (j:Int))) ⟨Ic _,λj hj=>Ir hj (Nat.not_lt_zero j)⟩ λk ⟨hk,hI⟩=>⟨λIW=>?_,λRM=>?_⟩
  ·have IW:=Ot IW;refine⟨h.ix XU Qo IW,_,h k Qo IW,λg=>?_,λg=>⟨zlk IW hl,QB Qo ⟨Qo,λj hj=>?_⟩⟩⟩
   ·have g:=Ot g
    have:l.all hB=false:=by
     cases hb:l.all hB with
     |false=>rfl
     |true=>
      have:=Ot (zaz.1 hb k Qo);simp only[Ql] at this;omega
    rw[this]
   ·by_cases gG:j<k
    ·exact hI j gG
    ·have:j=k:=Qo;subst this;have g:=Ou g;exact Ih (by simp only[Ql];omega)
  ·have RM:=Ou RM;have hk:k=l.length:=Qo;subst hk;rw[zaz.2 hI]
def z7t{a:Int}{w:Wo}{b:Nat}{t:TypeId}{fz:Nat×Nat}(h:w.heap[b]? = some (.cells ([I a]:List Va).toArray t fz)):PX [] Yb #[.slice (some ⟨b,0,none⟩) 1 1] w (.bool (hB a)):=by
 have:=zlm (l:=[a]) (c:=1) (bs:=[]) (Ll h Qs) (by simp[maxLen])
 simpa using this
def z75{a b2:Int}{w:Wo}{b:Nat}{t:TypeId}{fz:Nat×Nat}(h:w.heap[b]? = some (.cells ([I a,I b2]:List Va).toArray t fz)):PX [] Yb #[.slice (some ⟨b,0,none⟩) 2 2] w (.bool (hB a&&hB b2)):=by
 have:=zlm (l:=[a,b2]) (c:=2) (bs:=[]) (Ll h Qs) (by simp[maxLen])
 simpa using this
def z7u{a b2 b3:Int}{w:Wo}{b:Nat}{t:TypeId}{fz:Nat×Nat}(h:w.heap[b]? = some (.cells ([I a,I b2,I b3]:List Va).toArray t fz)):PX [] Yb #[.slice (some ⟨b,0,none⟩) 3 3] w (.bool (hB a&&(hB b2&&hB b3))):=by
 have:=zlm (l:=[a,b2,b3]) (c:=3) (bs:=[]) (Ll h Qs) (by simp[maxLen])
 simpa using this
def z3m(W:Q7):Nat->Bool
 |0=>hB W.now
 |k+1=>z3m W k&&(hB (gi W.IF (k:Int)).busy&&hB (gi W.IF (k:Int)).idle)
def z3q(W:Q7):Nat->Bool
 |0=>z3m W W.IF.length
 |k+1=>z3q W k&&(hB (gi W.IJ (k:Int)).v&&(hB (gi W.IJ (k:Int)).sum&&hB (gi W.IJ (k:Int)).IV))
def z43(W:Q7)(g:Int)(b0:Bool):Nat->Bool
 |0=>b0
 |q+1=>z43 W g b0 q&&(hB (Qa W g (q:Int)).IM&&(hB (Qa W g (q:Int)).v&&hB (Qa W g (q:Int)).sum))
def zy3(W:Q7):Nat->Bool
 |0=>z3q W W.IJ.length
 |k+1=>z43 W (k:Int) (zy3 W k&&hB (gi W.IE (k:Int)).sum) (gi W.IE (k:Int)).IH.length
def zx3{v:Int}:hB v=true↔v<=Ql:=decide_eq_true_iff
def z3n{W:Q7}:∀k:Nat,z3m W k=true↔W.now<=Ql/\∀j:Nat,j<k->(gi W.IF (j:Int)).busy<=Ql/\(gi W.IF (j:Int)).idle<=Ql
 |0=>by simp only[z3m,zx3];exact⟨λh=>⟨h,λj hj=>by omega⟩,λh=>h.1⟩
 |k+1=>by
  simp only[z3m,A',zx3,z3n k];constructor
  ·rintro⟨⟨h1,h2⟩,h3⟩;refine⟨h1,λj hj=>?_⟩
   by_cases e:j=k
   ·subst e;exact h3
   ·exact h2 j Qo
  ·rintro⟨h1,h2⟩;exact⟨⟨h1,λj hj=>h2 j Qo⟩,h2 k Qo⟩
def z3r{W:Q7}:∀k:Nat,z3q W k=true↔z3m W W.IF.length/\∀j:Nat,j<k->(gi W.IJ (j:Int)).v<=Ql/\(gi W.IJ (j:Int)).sum<=Ql/\(gi W.IJ (j:Int)).IV<=Ql
 |0=>by simp only[z3q];exact⟨λh=>⟨h,λj hj=>by omega⟩,λh=>h.1⟩
 |k+1=>by
  simp only[z3q,A',zx3,z3r k];constructor
  ·rintro⟨⟨h1,h2⟩,h3⟩;refine⟨h1,λj hj=>?_⟩
   by_cases e:j=k
   ·subst e;exact h3
   ·exact h2 j Qo
  ·rintro⟨h1,h2⟩;exact⟨⟨h1,λj hj=>h2 j Qo⟩,h2 k Qo⟩
def z3p{W:Q7}{g:Int}{b0:Bool}:∀k:Nat,z43 W g b0 k=true↔b0/\∀j:Nat,j<k->(Qa W g (j:Int)).IM<=Ql/\(Qa W g (j:Int)).v<=Ql/\(Qa W g (j:Int)).sum<=Ql
 |0=>by simp only[z43];exact⟨λh=>⟨h,λj hj=>by omega⟩,λh=>h.1⟩
 |k+1=>by
  simp only[z43,A',zx3,z3p k];constructor
  ·rintro⟨⟨h1,h2⟩,h3⟩;refine⟨h1,λj hj=>?_⟩
   by_cases e:j=k
   ·subst e;exact h3
   ·exact h2 j Qo
  ·rintro⟨h1,h2⟩;exact⟨⟨h1,λj hj=>h2 j Qo⟩,h2 k Qo⟩
def z3o{W:Q7}:∀k:Nat,zy3 W k=true↔z3q W W.IJ.length/\∀j:Nat,j<k->(gi W.IE (j:Int)).sum<=Ql/\∀q:Nat,q<(gi W.IE (j:Int)).IH.length->(Qa W (j:Int) (q:Int)).IM<=Ql/\(Qa W (j:Int) (q:Int)).v<=Ql/\(Qa W (j:Int) (q:Int)).sum<=Ql
 |0=>by simp only[zy3];exact⟨λh=>⟨h,λj hj=>by omega⟩,λh=>h.1⟩
 |k+1=>by
  simp only[zy3,z3p,A',zx3,z3o k];constructor
  ·rintro⟨⟨⟨h1,h2⟩,h3⟩,h4⟩;refine⟨h1,λj hj=>?_⟩
   by_cases e:j=k
   ·subst e;exact⟨h3,h4⟩
   ·exact h2 j Qo
  ·rintro⟨h1,h2⟩;exact⟨⟨⟨h1,λj hj=>h2 j Qo⟩,(h2 k Qo).1⟩,(h2 k Qo).2⟩
def z2q(W:Q7):zy3 W W.IE.length=QO W:=by
 have key:zy3 W W.IE.length=true↔Ge W:=by
  rw[z3o,z3r,z3n];constructor
  ·rintro⟨⟨⟨h1,h2⟩,h3⟩,h4⟩;have e:∀{i:Int},0<=i->((i.toNat:Nat):Int)=i:=λh=>by omega
   refine⟨h1,λc a b=>?_,λc a b=>?_,λc a b=>?_,λk c a b c0 c1=>?_⟩
   ·have:=h2 c.toNat Qo;rwa[e a] at this
   ·have:=h3 c.toNat Qo;rwa[e a] at this
   ·have:=(h4 c.toNat Qo).1;rwa[e a] at this
   ·have:=(h4 k.toNat Qo).2 c.toNat (by rw[e a];omega);rwa[e a,e c0] at this
  ·intro r;exact⟨⟨⟨r.n,λj hj=>r.c (j:Int) Qo Qo⟩,λj hj=>r.t (j:Int) Qo Qo⟩,λj hj=>⟨r.g (j:Int) Qo Qo,λq hq=>r.s (j:Int) (q:Int) Qo Qo Qo Qo⟩⟩
 unfold QO
 cases hb:U0 (Ge W) with
 |true=>exact key.2 (Qm.1 hb)
 |false=>
  cases ho:zy3 W W.IE.length with
  |false=>rfl
  |true=>exact Ir (key.1 ho) (GZ.1 hb)
def zkm{a b:Bool}(h:a->False):(a&&b)=false:=by
 cases a with
 |false=>rfl
 |true=>exact(h rfl).elim
def zxd(I:Bool->Nat->Prop)(vs:List Va):Prop:=∃(x:Bool) (k:Nat),I x k/\vs=[.bool x,.int .i64 (k:Int)]
def zsr{B:(List Va->Prop)->(List Va->Nat)->Bool->Int->Prop}(n:Nat){xi:Bool}{si:Int}(s:Nat)(hs:si=s)(I:Bool->Nat->Prop)(h0:I xi s)(hB:∀(x:Bool) (k:Nat),I x k->B (zxd I) (Xt n 1) x (k:Int)) :
  ∃(IU:List Va->Prop) (mu:List Va->Nat),IU [.bool xi,.int .i64 si]/\∀(x:Bool) (i:Int),IU [.bool x,.int .i64 i]->B IU mu x i:=by
 refine⟨zxd I,Xt n 1,⟨xi,s,h0,by rw[hs]⟩,?_⟩;rintro x i ⟨x',k,hI,he⟩;simp only[I4,I5,Value.bool.injEq,true_and,and_true] at he;obtain⟨rfl,rfl⟩:=he;exact hB x k hI
def UA{n k:Nat}{I:Bool->Nat->Prop}{x x':Bool}(hk:k<n)(hI:I x' (k+1)):zxd I [.bool x',.int .i64 ((k:Int)+1)]/\Xt n 1 [.bool x',.int .i64 ((k:Int)+1)]<Xt n 1 [.bool x,.int .i64 (k:Int)]:=by
 refine⟨⟨x',k+1,hI,Qs⟩,?_⟩;simp only[Xt,Ye,Ie,List.getElem?_cons_succ];omega
section
variable {W:Q7}{m:MW}{w:Wo}{bs:List Nat}{p:OA}
def zln(h:Pn bs w p W m)(ha:WA W):PX bs VI #[.pointer p] w (.bool (QO W)):=by
 rw[<-z2q];refine Bc p λwr hx=>?_
 have h:=(h.ext hx).less (cs:=[]) Qs;have jF:=ha.t;have bU:=ha.gl;have qT:=ha.c2;refine⟨h.some,_,h.now,λb hb=>⟨hB W.now,λwx _ hc=>z7t hc,h.some,_,_,_,h.IF,?_⟩⟩;refine zsr W.IF.length 0 rfl (λx k=>k<=W.IF.length/\x=z3m W k) ⟨Ic _,rfl⟩ λx k ⟨hk,S9⟩=>⟨λIW=>?_,λRM=>?_⟩
 ·have IW:=Ot IW;refine⟨h.rd.c.ix Y1 Qo IW,_,_,_,_,_,h.rd.c k Qo IW,λb1 bY=>⟨λ_ b2 cD=>⟨_,λ_ wx _ hc=>z75 hc,⟨Qo,Qo⟩,UA Qo ⟨Qo,by rw[S9];rfl⟩⟩,λhn=>⟨⟨Qo,Qo⟩,UA Qo ⟨Qo,?_⟩⟩⟩⟩;simp only[z3m];rw[<-S9,zkm hn]
 have RM:=Ou RM;have hkk:k=W.IF.length:=Qo;subst hkk;refine⟨h.some,_,_,_,h.IJ,?_⟩;refine zsr W.IJ.length 0 rfl (λx k=>k<=W.IJ.length/\x=z3q W k) ⟨Ic _,S9⟩ λx k ⟨hk,S9⟩=>⟨λIW=>?_,λRM=>?_⟩
 ·have IW:=Ot IW;refine⟨h.rd.t.ix QT Qo IW,_,_,_,_,_,_,_,_,_,h.rd.t k Qo IW,λb1 bY=>⟨λ_ b2 cD=>⟨_,λ_ wx _ hc=>z7u hc,⟨Qo,Qo⟩,UA Qo ⟨Qo,by rw[S9];rfl⟩⟩,λhn=>⟨⟨Qo,Qo⟩,UA Qo ⟨Qo,?_⟩⟩⟩⟩;simp only[z3q];rw[<-S9,zkm hn]
 have RM:=Ou RM;have hkk:k=W.IJ.length:=Qo;subst hkk;refine⟨h.some,_,_,_,h.IE,?_⟩;refine zsr W.IE.length 0 rfl (λx k=>k<=W.IE.length/\x=zy3 W k) ⟨Ic _,S9⟩ λx k ⟨hk,S9⟩=>⟨λIW=>?_,λRM=>?_⟩
 ·have IW:=Ot IW;have hsl:(gi W.IE (k:Int)).IH.length<=4:=(KR ha (k:=(k:Int)) Qo Qo).2.2;have hrs:=h.rd.g.IH (k:Int) Qo IW;rw[Ig] at hrs
  have inner:∀{b0:Bool},b0=(zy3 W k&&hB (gi W.IE (k:Int)).sum)->∃(IU:List Va->Prop) (mu:List Va->Nat),IU [.bool b0,I 0]/\∀(ok3:Bool) (bZ:Int),IU [.bool ok3,I bZ]->
    ((decide (bZ<(((gi W.IE (k:Int)).IH.length:Nat):Int)))->
     Ix (m.ms k).sO (gi W.IE (k:Int)).IH.length bZ/\
     (∃(x03:Int) (x15:Bool) (x23:Int) (x33:Int) (x43:Int),
     Q1 [] wr (m.ms k).sO (Int.toNat bZ*5) [I x03,.bool x15,I x23,I x33,I x43]/\
     (∀b7,wr.heap.size<=b7->
     (ok3->(∀b8,wr.heap.size<=b8->
     (∃(vV:Bool),
     (ok3->(∀wx4,Q0 [] wr wx4->wx4.heap[b8]? = some (Obj.cells ([I x03,I x23,I x43]:List Va).toArray Qg (0,0))->PX [] Yb #[.slice (some (Addr.mk b8 0 none)) 3 3] wx4 (.bool vV)))/\
     Qp .i64 (bZ+1)/\
     IU [.bool (ok3&&vV),I (bZ+1)]/\mu [.bool (ok3&&vV),I (bZ+1)]<mu [.bool ok3,I bZ])))/\
     ((ok3->False)->
     Qp .i64 (bZ+1)/\
     IU [.bool false,I (bZ+1)]/\mu [.bool false,I (bZ+1)]<mu [.bool ok3,I bZ]))))/\
    ((decide (bZ<(((gi W.IE (k:Int)).IH.length:Nat):Int)))=false->ok3=zy3 W (k+1)):=λ{b0} hb0=>by
   refine zsr (gi W.IE (k:Int)).IH.length 0 rfl (λx q=>q<=(gi W.IE (k:Int)).IH.length/\x=z43 W (k:Int) (zy3 W k&&hB (gi W.IE (k:Int)).sum) q) ⟨Ic _,hb0⟩ λx q ⟨hq,Rk⟩=>⟨λRh=>?_,λaX=>?_⟩
   ·have Rh:=Ot Rh;refine⟨hrs.ix YT Qo Rh,_,_,_,_,_,hrs q Qo Rh,λb7 hb7=>⟨λ_ b8 hb8=>⟨_,λ_ wx _ hc=>z7u hc,⟨Qo,Qo⟩,UA Qo ⟨Qo,by rw[Rk];rfl⟩⟩,λhn=>⟨⟨Qo,Qo⟩,UA Qo ⟨Qo,?_⟩⟩⟩⟩;simp only[z43];rw[<-Rk,zkm hn]
   ·have aX:=Ou aX;have:q=(gi W.IE (k:Int)).IH.length:=Qo;rw[Rk,this];rfl
  refine⟨h.rd.g.ix Qo IW,_,_,_,_,_,_,_,_,_,_,_,_,_,_,_,_,_,_,_,_,h.rd.g.cells (k:Int) Qo IW,λb5 hb5=>⟨λ_ b6 hb6=>⟨hB (gi W.IE (k:Int)).sum,λ_ wx _ hc=>z7t hc,?_⟩,λhn=>?_⟩⟩
  ·obtain⟨xI,mu,h0,hI⟩:=inner (b0:=x&&hB (gi W.IE (k:Int)).sum) (by rw[S9]);refine⟨xI,mu,h0,λok3 bZ hi=>⟨(hI ok3 bZ hi).1,λaX=>⟨⟨Qo,Qo⟩,?_⟩⟩⟩;have e:=(hI ok3 bZ hi).2 aX;exact UA Qo ⟨Qo,e⟩
  ·obtain⟨xI,mu,h0,hI⟩:=inner (b0:=false) (by rw[<-S9,zkm hn]);refine⟨xI,mu,h0,λok3 bZ hi=>⟨(hI ok3 bZ hi).1,λaX=>⟨⟨Qo,Qo⟩,?_⟩⟩⟩;have e:=(hI ok3 bZ hi).2 aX;exact UA Qo ⟨Qo,e⟩
 ·have RM:=Ou RM;have hkk:k=W.IE.length:=Qo;subst hkk;rw[S9]
end
def K6(w:Wo):Prop:=w.cell? ⟨0,0,none⟩=some (.iface 158 (.agg #[.pointer (some ⟨1,84,none⟩)]))
def K6.ext{w w':Wo}(h:K6 w)(hx:Q0 [] w w'):K6 w':=by
 have IW:0<w.heap.size:=by
  rcases Nat.eq_zero_or_pos w.heap.size with h0|h1
  ·unfold K6 at h;simp[World.cell?,h0] at h
  ·exact h1
 have hb:=hx.block 0 IW Qs;unfold K6 at h ⊢;unfold World.cell? at h ⊢
 dsimp only at h ⊢
 rw[hb];exact h
def z1x(t:Va)(w:Wo):Cz LG #[.nilIface,t] w λe w'=>e=.returned (.bool false)/\Q0 [] w w':=(z34 t w).mono λe w' ⟨he,hw⟩=>⟨he,by rw[hw];exact Q0.refl _ _⟩
def zyf{n:Int}{t:Nat}{old:Int}{w:Wo}{ty:TypeId}(hg:K6 w)(ht:w.heap[t]? = some (.cells ([I old]:List Va).toArray ty (0,0))) :
  Cz LG #[.iface Yd (.agg #[I n]),.iface J6 (.pointer (some ⟨t,0,none⟩))] w λe w'=>e=.returned (.bool true)/\w'.heap[t]? = some (.cells ([I n]:List Va).toArray ty (0,0))/\Q0 [t] w w':=by
 refine(z32 n ⟨t,0,none⟩ (I old) w hg (by rw[Ti ht];rfl) (by simp[World.frozen?,ht])).mono λe w' ⟨he,hw⟩=>⟨he,?_⟩
 subst hw;have hx:=(((((Q0.refl [] w).alloc (.cells #[.pointer (some ⟨t,0,none⟩)] J6)).alloc (.cells #[.pointer (some ⟨1,J6,none⟩),.pointer (some ⟨w.heap.size,0,none⟩),.int .u64 150] Jw)).alloc (.cells #[.pointer (some ⟨1,J6,none⟩),.pointer (some ⟨w.heap.size,0,none⟩),.int .u64 150] Jw)).alloc (.cells #[I n] Yd));have hb:=QP ht hx Qs;refine⟨?_,?_⟩
 ·have:=Kg (k:=0) (n:=0) (vs:=[I n]) hb;exact this
 ·exact hx.of_nil.setCell (p:=⟨t,0,none⟩) (.inr Qs) _
structure zbk (base pb:Nat) (ex:List Nat) (w:Wo) (m:MW) (w':Wo) (W':Q7) (m':MW):Prop where
 own:Zp 8 base w' W' m'
 pt:w'.heap[pb]? = some (.cells (Qc W' m').toArray Q5 (0,0))
 ext:Q0 (ex++(pb::QM 8 m)) w w'
 sub:∀x∈QM 8 m',x∈QM 8 m\/w.heap.size<=x
def Mp.done{base pb:Nat}{ex:List Nat}{w w':Wo}{W':Q7}{m m':MW}(h:Mp base pb [] w m w' W' m'):zbk base pb ex w m w' W' m':=
 ⟨h.v.own,h.pt,h.v.ext.mono λx hx=>Iy _ (I1 _ hx),h.v.sub⟩
def z5y(ex:List Nat)(r:Q7×Int)(w:Wo)(v:Va)(w':Wo):Prop:=∃n m',v=.tuple #[.agg (Qc r.1 m').toArray,I r.2]/\Zp n w.heap.size w' r.1 m'/\Q0 ex w w'
section
variable {W W':Q7}{m:MW}{w:Wo}{bar:Int}
theorem zqh{cf:Fn}{ca ck:Array Va}(ex:List Nat)(P:Wo->Prop)(hP:∀(a b:Wo) (bs:List Nat),P a->Q0 bs a b->(∀x∈bs,w.heap.size<=x)->P b)(hex:∀x∈ex,x<w.heap.size)(hz:0∉ex)(h:XV [] w W m)(hr:∀x∈ex,∀w1,Q0 ex w w1->XV [] w1 W m)(hl:VB W)(hg:K6 w)(RA:∀(w1:Wo) (pb:Nat) (m1:MW),Qr W=true->Q0 [] w w1->w.heap.size<=pb->PW w.heap.size pb w1 W m1->
   O7 Tryz.prog (.func cf ca ck) [.pointer (pA pb)] w1 λe w2=>(bar≠0/\e=.returned (.iface Yd (.agg #[I bar]))/\Q0 [] w1 w2)\/(bar=0/\e=.returned .nilIface/\P w2/\∃m2,zbk w.heap.size pb ex w1 m1 w2 W' m2)) :
  Cz Vo #[.agg (Qc W m).toArray,.func cf ca ck] w λe w'=>∃v,e=.returned v/\z5y ex (Yz W bar W') w v w'/\(Qr W->bar=0->P w')/\(Qr W=false\/bar≠0->Q0 [] w w'):=by
 refine zc1 _ _ _ _ _ _ _ _ _ _ cf ca ck (R:=λv w'=>z5y ex (Yz W bar W') w v w'/\(Qr W->bar=0->P w')/\(Qr W=false\/bar≠0->Q0 [] w w')) ?_;intro x hx x1 S9;refine⟨_,zdq h hl.c hl.g hl.f,λg wr Rk=>?_,λg R5 Rk dE=>?_⟩
 ·have hW:Qr W=false:=by simpa using g
  refine⟨?_,λhw=>(by rw[hW] at hw;cases hw),λ_=>Rk⟩;rw[zr6 hW];exact⟨0,z0h,rfl,Zp.zero _ _,Rk.of_nil⟩
 have hW:Qr W:=by simpa using g
 have wp:=Qm.1 hW;have s1:Sc w [x,x1] R5:=(((Sc.start w).add hx).add S9).R7 Rk;refine I3 (Aw (h.ext Rk) wp.a) ?_;rintro e wv ⟨m1,he,hM1,cW⟩;have s2:=s1.R7 cW;have nG:=(OW.of hM1 dE).mono Rk.size;refine⟨_,_,_,_,_,_,_,_,_,_,he,Qi cW dE,λb2 wb hxb cD hcb hn2=>?_⟩;have s3:=s2.step hxb;have hO3:=nG.step hxb;have Cv1:w.heap.size<=b2:=IB s2.ext.size cD
 have dD:b2∉QM 8 m1:=λhm=>by
  have:=(nG.own.lt b2 hm).2;omega
 refine⟨BD (k0:=0) hcb hn2 Qs,λb3 wb1 CJ8 qS Cw1 hn3=>?_⟩;have kE:=Kg (k:=0) (n:=0) (vs:=Qc W m1) hcb;have CJ3:Q0 [b2] wb (Rw wb (some ⟨b2,0,none⟩) 0 (Qc W m1)):=TR λa ha=>by cases ha;simp
 have hO4 := (hO3.call CJ3 fun y hy hm => dD (by have:y=b2:=by simpa using hm
                                                 exact this▸hy)).step CJ8
 have s4 := (s3.call CJ3 fun y hy => by have:y=b2:=by simpa using hy
                                        omega).step CJ8
 have C09:wb1.heap[b2]? = some (.cells (Qc W m1).toArray Q5 (0,0)):=QP kE CJ8 hn2
 have DS3:b2≠b3:=λe=>by
  have:=V3 kE;have Cv2:(Rw wb (some ⟨b2,0,none⟩) 0 (Qc W m1)).heap.size<=b3:=qS;omega
 have DS4:w.heap.size<=b3:=by
  have h1:=CJ3.size;have h2:=s3.ext.size;have Cv2:(Rw wb (some ⟨b2,0,none⟩) 0 (Qc W m1)).heap.size<=b3:=qS;omega
 intro R6 T' V';have hO5:=hO4.step T';have s5:=s4.step T';have C10:=QP C09 T' hn2;have hc5:=QP Cw1 T' hn3;refine O7.mono (RA R6 b2 m1 hW s5.ext Cv1 ⟨hO5.own,C10,dD⟩) ?_;rintro e1 Rb (⟨hb0,kB,hy⟩|⟨hb0,kB,hPw,m2,hD⟩)
 ·
  refine⟨_,kB,Qi hy V',λRD Su fY=>?_⟩;have s6:=(s5.R7 hy).step Su;have hc6:=QP (QP hc5 hy Qs) Su hn3;refine I3 (zyf (hg.ext s6.ext) hc6) ?_;rintro e2 RI ⟨bH,hc7,SQ⟩
  have s7 := s6.call SQ fun y hy => by have:y=b3:=by simpa using hy
                                       omega
  have WO:∀{w9:Wo},Q0 [x,x1] RI w9->Q1 [x,x1] w9 (some ⟨b3,0,none⟩) (0+0) [I bar]:=λh9=>T1 (QP hc7 h9 hn3) hn3 (k0:=0) rfl
  refine ⟨true, bH, Ld SQ fY (fun y hm gZ => by have:y=b3:=by simpa using hm
                                                exact hn3 (this▸gZ)),λ_=>⟨bar,WO (Q0.refl _ _),λRE bE dT=>?_⟩,λg=>by cases g⟩
  have s8:=s7.step bE;refine I3 (Aw (h.ext s8.ext) wp.a) ?_;rintro e3 S3 ⟨m3,gD,fX,eD⟩;have s9:=s8.R7 eD;have hO9:=(OW.of fX dT).mono s8.ext.size;have hc9:Q1 [x,x1] S3 (some ⟨b3,0,none⟩) (0+0) [I bar]:=T1 (QP (QP hc7 bE hn3) eD Qs) hn3 (k0:=0) rfl;refine⟨_,_,_,_,_,_,_,_,_,_,gD,Qi eD dT,hc9,hc9,λRQ eQ=>⟨?_,λ_ hb=>Ir hb hb0,λ_=>(s9.step eQ).ext⟩⟩;rw[za0 hW hb0];exact⟨8,m3,rfl,(hO9.step eQ).own,(s9.step eQ).ext.of_nil⟩
 ·
  have C05:∀y∈ex++(b2::QM 8 m1),y∉[x,x1]:=λy hy hm=>by
   rcases Im.1 hy with h1|h1
   ·have:=hex y h1;have:=s1.new y hm;omega
   ·rcases Ii.1 h1 with h1|h1
    ·subst h1;exact hn2 hm
    ·exact hO5.nb y h1 hm
  refine⟨_,kB,Ld hD.ext V' C05,λRD Su fY=>?_⟩;refine I3 (z1x _ _) ?_;rintro e2 RI ⟨bH,SQ⟩
  have CY5:∀y∈QM 8 m2,y∉[x,x1]:=λy hy hm=>by
   rcases hD.sub y hy with h1|h1
   ·exact hO5.nb y h1 hm
   ·have:=V' y hm;omega
  have lR:=((hD.own.ext Su CY5).WH SQ);have C11:=QP (QP hD.pt Su hn2) SQ Qs
  have hX2:Q0 ex w Rb:=s5.ext.of_nil.fresh hD.ext λy hy=>by
   rcases Im.1 hy with h1|h1
   ·exact .inr h1
   ·refine .inl ?_;rcases Ii.1 h1 with h1|h1
    ·omega
    ·exact(hO5.own.lt y h1).1
  have hX3:Q0 ex w RI:=(hX2.fresh Su λy hy=>.inl (s1.new y hy)).trans SQ.of_nil;refine⟨false,bH,Qi SQ fY,λg=>(by cases g),λ_=>⟨_,_,_,_,_,_,_,_,_,_,VE C11 hn2 (k0:=0) (n:=0) λj v hj=>by simpa[Qc] using hj,λSj bE=>⟨?_,λ_ _=>?_,λhn=>?_⟩⟩⟩
  ·rw[zkn hW hb0];exact⟨8,m2,rfl,lR.ext bE CY5,hX3.fresh bE λy hy=>.inl (s1.new y hy)⟩
  ·exact hP _ _ _ (hP _ _ _ (hP _ _ _ hPw Su s1.new) SQ Qs) bE s1.new
  ·rcases hn with h1|h1
   ·rw[hW] at h1;cases h1
   ·exact Ir hb0 h1
theorem zuw{cf:Fn}{ca ck:Array Va}(h:XV [] w W m)(hl:VB W)(hg:K6 w)(RA:∀(w1:Wo) (pb:Nat) (m1:MW),Qr W=true->Q0 [] w w1->w.heap.size<=pb->PW w.heap.size pb w1 W m1->
   O7 Tryz.prog (.func cf ca ck) [.pointer (pA pb)] w1 λe w2=>(bar≠0/\e=.returned (.iface Yd (.agg #[I bar]))/\Q0 [] w1 w2)\/(bar=0/\e=.returned .nilIface/\∃m2,zbk w.heap.size pb [] w1 m1 w2 W' m2)) :
  Cz Vo #[.agg (Qc W m).toArray,.func cf ca ck] w λe w'=>∃v,e=.returned v/\QX (Yz W bar W') w v w':=
 (zqh [] (λ_=>True) (λ_ _ _ _ _ _=>trivial) Qs Qs h Qs hl hg λw1 pb m1 a b c d=>(RA w1 pb m1 a b c d).mono λe w2 hh=>by
  rcases hh with h1|⟨h1,h2,h3⟩
  ·exact .inl h1
  ·exact .inr ⟨h1,h2,trivial,h3⟩).mono λe w' ⟨v,he,hA,_⟩=>⟨v,he,hA⟩
end
end Go.Proofs.YtjinkcmkgnofjaaGreatDoor
