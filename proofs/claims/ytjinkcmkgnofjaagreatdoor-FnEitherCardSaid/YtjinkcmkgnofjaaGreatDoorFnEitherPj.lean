/- Part 10 of what the law FnEither needs. -/
import Derived.Test.YtjinkcmkgnofjaaGreatDoorFnEitherPi
import Derived.LaidEql
import Derived.Stop.Asserts
import Derived.RowKitTokens
set_option linter.all false
set_option maxRecDepth 100000
set_option maxHeartbeats 8000000
namespace Go.Proofs.YtjinkcmkgnofjaaGreatDoor
open Go.RowKit
section
open Go.RowKit Go.Extern.Stop Go.Stop Go.Extern
def z3k(t:Va)(w:Wo) :
  Cz 84 #[.nilIface,t] w λe w'=>e=.returned (.bool false)/\w'=w:=by
 go_enter Tryz.func84,Tryz.ntmps84
 go_wp2
 go_ret
 exact⟨rfl,rfl⟩
def zm7(t:Addr)(w:Wo):(ReflectliteValue.unpack (.iface 112 (.pointer (some t)))).run Tryz.prog w
  = .ok (.agg #[.pointer (some ⟨1,112,none⟩),.pointer (some ⟨w.heap.size,0,none⟩),.int .u64 150]) (w.alloc (.cells #[.pointer (some t)] 112)):=Qk
def zws (a : Addr) (w : World) : (ReflectliteValue.methodAny (ReflectliteValue.valueError "reflectlite.Value.Type" 0) (λt _ _ _ => ReflectliteType.toType t) #[.agg #[.pointer (some ⟨1, 112, none⟩), .pointer (some a), .int .u64 150]]).run Tryz.prog w
  = .ok (.iface 158 (.agg #[.pointer (some ⟨1,112,none⟩)])) w:=Qk
def zgx (h : Value) (w : World) : (Go.method 318 158 (.agg #[h]) "Kind").run Tryz.prog w = .ok (215, h) w := by kernel_rfl
def zwp(w:Wo):((ReflectliteType.abiMethod λt=>(λa:Nat=>Value.int IntKind.u8 (a:Int)) <$> Rtype.kind t) #[.pointer (some ⟨1,112,none⟩)]).run Tryz.prog w=.ok (.int .u8 22) w:=Qk
def zwo(w:Wo):((ReflectliteType.abiMethod λt=>(λa:Nat=>Value.int IntKind.u8 (a:Int)) <$> Rtype.kind t) #[.pointer (some ⟨1,86,none⟩)]).run Tryz.prog w=.ok (.int .u8 25) w:=Qk
def zwr(z:Sem Va)(f:TypeId->Addr->Nat->Nat->Sem Va)(v:Va) :
  ReflectliteValue.method z f #[v]=(do match <-ReflectliteValue.parts v with|none=>z|some (t,a,fl)=>f t a fl (fl % 32)):=rfl
def zim(a:Addr)(w:Wo):(ReflectliteValue.parts (.agg #[.pointer (some ⟨1,112,none⟩),.pointer (some a),.int .u64 150])).run Tryz.prog w=.ok (some (112,a,150)) w:=Qk
def zin:Tryz.prog.underlying 112=some (.pointer 86):=Qk
def ztz (a p:Addr) (W:Wo) (ha:W.cell? a=some (.pointer (some p))) :
  (ReflectliteValue.method (ReflectliteValue.valueError "reflectlite.Value.IsNil" 0) ReflectliteValue.isNil #[.agg #[.pointer (some ⟨1, 112, none⟩), .pointer (some a), .int .u64 150]]).run Tryz.prog W = .ok (.bool false) W := by
 rw[zwr]
 simp only[Sem.run_bind,zim,Result.andThen]
 simp[ReflectliteValue.isNil,loadVar,isAgg,underlying,zin,ha,Result.andThen]
def zgw (h : Value) (w : World) : (Go.method 318 158 (.agg #[h]) "Elem").run Tryz.prog w = .ok (240, .agg #[h]) w := by kernel_rfl
def De (h : Value) (w : World) : (Go.method 318 158 (.agg #[h]) "Implements").run Tryz.prog w = .ok (241, .agg #[h]) w := by kernel_rfl
def Gk (h : Value) (w : World) : (Go.method 318 158 (.agg #[h]) "AssignableTo").run Tryz.prog w = .ok (238, .agg #[h]) w := by kernel_rfl
def zwm(w:Wo):(ReflectliteType.method ReflectliteType.elem #[.agg #[.pointer (some ⟨1,112,none⟩)]]).run Tryz.prog w=.ok (.iface 158 (.agg #[.pointer (some ⟨1,86,none⟩)])) w:=Qk
def zwn (w : World) : (ReflectliteType.relation "Implements" ReflectliteType.implements_ #[.agg #[.pointer (some ⟨1, 86, none⟩)], .iface 158 (.agg #[.pointer (some ⟨1, 84, none⟩)])]).run Tryz.prog w = .ok (.bool true) w := by kernel_rfl
def zpr(v:Va)(w:Wo):(ReflectliteType.typeOf #[.iface 86 v]).run Tryz.prog w=.ok (.iface 158 (.agg #[.pointer (some ⟨1,86,none⟩)])) w:=Qk
def zpn (w : World) : (ReflectliteType.relation "AssignableTo" ReflectliteType.assignableTo #[.agg #[.pointer (some ⟨1, 86, none⟩)], .iface 158 (.agg #[.pointer (some ⟨1, 86, none⟩)])]).run Tryz.prog w = .ok (.bool true) w := by kernel_rfl
def zm6(n:Int)(w:Wo):(ReflectliteValue.unpack (.iface 86 (.agg #[I n]))).run Tryz.prog w
  = .ok (.agg #[.pointer (some ⟨1,86,none⟩),.pointer (some ⟨w.heap.size,0,none⟩),.int .u64 153]) (w.alloc (.cells #[I n] 86)):=Qk
def zpp(w:Wo):(Rtype.elem? 112).run Tryz.prog w=.ok (some 86) w:=Qk
def z3j(p:Addr)(w:Wo):(ReflectliteValue.mk 86 p ReflectliteValue.flagAddr).run Tryz.prog w=.ok (.agg #[.pointer (some ⟨1,86,none⟩),.pointer (some p),.int .u64 409]) w:=Qk
def zty (a p:Addr) (W:Wo) (ha:W.cell? a=some (.pointer (some p))) :
  (ReflectliteValue.method (ReflectliteValue.valueError "reflectlite.Value.Elem" 0) ReflectliteValue.elem #[.agg #[.pointer (some ⟨1, 112, none⟩), .pointer (some a), .int .u64 150]]).run Tryz.prog W
   = .ok (.agg #[.pointer (some ⟨1,86,none⟩),.pointer (some p),.int .u64 409]) W:=by
 rw[zwr]
 simp only[Sem.run_bind,zim,Result.andThen]
 simp[ReflectliteValue.elem,loadVar,isAgg,underlying,zin,ha,Result.andThen,zpp,z3j]
def zpq(a:Addr)(w:Wo):(ReflectliteValue.parts (.agg #[.pointer (some ⟨1,86,none⟩),.pointer (some a),.int .u64 409])).run Tryz.prog w=.ok (some (86,a,409)) w:=Qk
def zt0(a:Addr)(w:Wo):(ReflectliteValue.parts (.agg #[.pointer (some ⟨1,86,none⟩),.pointer (some a),.int .u64 153])).run Tryz.prog w=.ok (some (86,a,153)) w:=Qk
def zpo(w:Wo):(Rtype.directlyAssignable 86 86).run Tryz.prog w=.ok true w:=Qk
def z3l (v x:Va):ReflectliteValue.set #[v,x]=(do
  let (some (dst,a,fl),some (src,b,_)):=(<-ReflectliteValue.parts v,<-ReflectliteValue.parts x)
   |unsupported (.noEntry "extern/(internal/reflectlite.Value).Set.zeroValue")
  if fl / ReflectliteValue.flagAddr % 2 == 0 then unsupported (.noEntry "extern/(internal/reflectlite.Value).Set.unaddressable")
  let val <-loadVar src b
  if <-Rtype.directlyAssignable dst src then storeVar dst a val
  else if <-Rtype.implements dst src then
   if (<-Rtype.kind src)==20 then
    match val with
    |.nilIface => unsupported (.noEntry "extern/reflectlite: a nil value of one interface type handed on as a value of another")
    |_=>storeVar dst a val
   else storeVar dst a (.iface src val)
  else panicString ("reflectlite.Set: value of type " ++ (← Rtype.spelt src) ++ " is not assignable to type " ++ (← Rtype.spelt dst))
  pure (.tuple #[])):=rfl
def z0o(w:Wo):(isAgg 86).run Tryz.prog w=.ok true w:=Qk
def zm5(w:Wo):(sizeOf 86).run Tryz.prog w=.ok 1 w:=Qk
def zwq(b:Addr)(n:Int)(W:Wo)(hb:W.cell? b=some (I n)):(loadVar 86 b).run Tryz.prog W=.ok (.agg #[I n]) W:=by
 unfold loadVar;simp only[Sem.run_bind,z0o,Result.andThen,if_true];simp only[Sem.run_bind,zm5,Result.andThen];have e:b.add 0=b:=by cases b;rfl
 simp[loadCells,loadCellsFrom,e,hb,Result.andThen]
def z0p(ta b:Addr)(n:Int)(old:Va)(W:Wo)(hb:W.cell? b=some (I n))(ht:W.cell? ta=some old)(hf:W.frozen? ta=false) :
  (ReflectliteValue.set #[.agg #[.pointer (some ⟨1,86,none⟩),.pointer (some ta),.int .u64 409],.agg #[.pointer (some ⟨1,86,none⟩),.pointer (some b),.int .u64 153]]).run Tryz.prog W
   = .ok (.tuple #[]) (W.setCell ta (I n)):=by
 rw[z3l];simp only[Sem.run_bind,zpq,zt0,Result.andThen];have e:ta.add 0=ta:=by cases ta;rfl
 simp[ReflectliteValue.flagAddr,zwq b n W hb,Result.andThen,zpo,storeVar,zm5,Value.cells,storeCells,e];rw[run_store Tryz.prog W ta _ _ (by rfl)];simp[ht,hf]
set_option maxHeartbeats 4000000 in
def z3i (n:Int) (t:Addr) (old:Va) (w:Wo) (hg:w.cell? ⟨0,0,none⟩=some (.iface 158 (.agg #[.pointer (some ⟨1,84,none⟩)]))) (ht0:w.cell? t=some old) (hf0:w.frozen? t=false) :
  Cz 84 #[.iface 86 (.agg #[.int .i64 n]),.iface 112 (.pointer (some t))] w λev w'=>ev=.returned (.bool true)/\w'=((((w.alloc (.cells #[.pointer (some t)] 112)).alloc (.cells #[.pointer (some ⟨1,112,none⟩),.pointer (some ⟨w.heap.size,0,none⟩),.int .u64 150] 127)).alloc (.cells #[.pointer (some ⟨1,112,none⟩),.pointer (some ⟨w.heap.size,0,none⟩),.int .u64 150] 127)).alloc (.cells #[.int .i64 n] 86)).setCell t (.int .i64 n):=by
 have h6:=@run_callFunc_extern Tryz.prog 125 _ (λargs=>ReflectliteValue.unpack (args.getD 0 (.tuple #[]))) Tryz.func125 Qk Qk Qk Qk
 have h7 := @run_callFunc_extern Tryz.prog 126 _ (ReflectliteValue.methodAny (ReflectliteValue.valueError "reflectlite.Value.Type" 0) (λt _ _ _ => ReflectliteType.toType t)) Tryz.func126 (by kernel_rfl) (by kernel_rfl) (by kernel_rfl) (by kernel_rfl)
 have h8 := @run_callFunc_extern Tryz.prog 127 _ (ReflectliteValue.method (ReflectliteValue.valueError "reflectlite.Value.IsNil" 0) ReflectliteValue.isNil) Tryz.func127 (by kernel_rfl) (by kernel_rfl) (by kernel_rfl) (by kernel_rfl)
 have h27:=@run_callFunc_extern Tryz.prog 215 _ (ReflectliteType.abiMethod λt=>do pure (.int .u8 (<-Rtype.kind t))) Tryz.func215 Qk Qk Qk Qk
 have h37:=@run_callFunc_extern Tryz.prog 240 _ (ReflectliteType.method ReflectliteType.elem) Tryz.func240 Qk Qk Qk Qk
 have h38 := @run_callFunc_extern Tryz.prog 241 _ (ReflectliteType.relation "Implements" ReflectliteType.implements_) Tryz.func241 (by kernel_rfl) (by kernel_rfl) (by kernel_rfl) (by kernel_rfl)
 have h10:=@run_callFunc_extern Tryz.prog 168 _ ReflectliteType.typeOf Tryz.func168 Qk Qk Qk Qk
 have h35 := @run_callFunc_extern Tryz.prog 238 _ (ReflectliteType.relation "AssignableTo" ReflectliteType.assignableTo) Tryz.func238 (by kernel_rfl) (by kernel_rfl) (by kernel_rfl) (by kernel_rfl)
 have h11 := @run_callFunc_extern Tryz.prog 169 _ (ReflectliteValue.method (ReflectliteValue.valueError "reflectlite.Value.Elem" 0) ReflectliteValue.elem) Tryz.func169 (by kernel_rfl) (by kernel_rfl) (by kernel_rfl) (by kernel_rfl)
 have h12:=@run_callFunc_extern Tryz.prog 170 _ ReflectliteValue.set Tryz.func170 Qk Qk Qk Qk
 have tO:=zpr
 have mA:=Gk
 have a25:=zpn
 have v25:=zm6
 have f6:=zm7
 have f7:=zws
 have mK:=zgx
 have mE:=zgw
 have mI:=De
 have k27:=zwp
 have k25:=zwo
 have e27:=zwm
 have i25:=zwn
 have n8:=ztz ⟨w.heap.size,0,none⟩ t ((w.alloc (.cells #[.pointer (some t)] 112)).alloc (.cells #[.pointer (some ⟨1,112,none⟩),.pointer (some ⟨w.heap.size,0,none⟩),.int .u64 150] 127)) Qs
 have IV:0<w.heap.size:=by
  rcases Nat.eq_zero_or_pos w.heap.size with h0|h
  ·simp[World.cell?,h0] at hg
  ·exact h
 have hg2:((w.alloc (.cells #[.pointer (some t)] 112)).alloc (.cells #[.pointer (some ⟨1,112,none⟩),.pointer (some ⟨w.heap.size,0,none⟩),.int .u64 150] 127)).cell? ⟨0,0,none⟩=some (.iface 158 (.agg #[.pointer (some ⟨1,84,none⟩)])):=by
  rw[World.cell?_alloc_lt _ _ ⟨0,0,none⟩ Qs,World.cell?_alloc_lt _ _ ⟨0,0,none⟩ IV];exact hg
 have qT:t.block<w.heap.size:=by
  rcases Nat.lt_or_ge t.block w.heap.size with h|h
  ·exact h
  ·simp[World.cell?,Array.getElem?_eq_none h] at ht0
 have el:=zty ⟨w.heap.size,0,none⟩ t (((w.alloc (.cells #[.pointer (some t)] 112)).alloc (.cells #[.pointer (some ⟨1,112,none⟩),.pointer (some ⟨w.heap.size,0,none⟩),.int .u64 150] 127)).alloc (.cells #[.pointer (some ⟨1,112,none⟩),.pointer (some ⟨w.heap.size,0,none⟩),.int .u64 150] 127)) (by rw[World.cell?_alloc_lt _ _ ⟨w.heap.size,0,none⟩ (by simp;omega)];simp)
 have st:=z0p t ⟨w.heap.size+1+1+1,0,none⟩ n old ((((w.alloc (.cells #[.pointer (some t)] 112)).alloc (.cells #[.pointer (some ⟨1,112,none⟩),.pointer (some ⟨w.heap.size,0,none⟩),.int .u64 150] 127)).alloc (.cells #[.pointer (some ⟨1,112,none⟩),.pointer (some ⟨w.heap.size,0,none⟩),.int .u64 150] 127)).alloc (.cells #[.int .i64 n] 86))
  (by rw[World.cell?_alloc_at _ _ _ _ Qs];rfl)
  (by rw[World.cell?_alloc_lt _ _ t (by simp;omega),World.cell?_alloc_lt _ _ t (by simp;omega),World.cell?_alloc_lt _ _ t (by simp;omega),World.cell?_alloc_lt _ _ t qT];exact ht0)
  (by rw[World.frozen?_alloc_old _ _ t (by simp;omega),World.frozen?_alloc_old _ _ t (by simp;omega),World.frozen?_alloc_old _ _ t (by simp;omega),World.frozen?_alloc_old _ _ t (Nat.ne_of_lt qT)];exact hf0)
 go_enter Tryz.func84,Tryz.ntmps84
 go_wp2
 refine wp_loop_rounds 1 ?_
 rw[rounds_succ]
 go_wp2
 go_ret
 exact⟨rfl,rfl⟩
end
def hB(v:Int):Bool:=decide (v<=Qn)
def zlk{l:List Int}{o:OA}{c:Nat}{w:Wo}{bs:List Nat}(h:zm2 bs w o l)(hl:l.length<=maxLen):PX bs Y0 #[.slice o l.length c] w (.bool (l.all hB)):=
 zl4 o l.length c λwr hx=>by
  have h:=(h.ext hx).less (cs:=[]) Qs;refine YU l.length 0 rfl (λk=>k<=l.length/\∀j:Nat,j<k->hB (gi l (j:Int))) ⟨Ic _,λj hj=>Ir hj (Nat.not_lt_zero j)⟩ λk ⟨hk,hI⟩=>⟨λIV=>?_,λRW=>?_⟩
  ·have IV:=Ot IV;refine⟨h.ix XP Qo IV,_,h k Qo IV,λg=>?_,λg=>⟨zlh IV hl,Qy Qo ⟨Qo,λj hj=>?_⟩⟩⟩
   ·have g:=Ot g
    have:l.all hB=false:=by
     cases hb:l.all hB with
     |false=>rfl
     |true=>
      have:=Ot (zau.1 hb k Qo);simp only[Qn] at this;omega
    rw[this]
   ·by_cases jD:j<k
    ·exact hI j jD
    ·have:j=k:=Qo;subst this;have g:=Ou g;exact Ih (by simp only[Qn];omega)
  ·have RW:=Ou RW;have hk:k=l.length:=Qo;subst hk;rw[zau.2 hI]
def z65{a:Int}{w:Wo}{b:Nat}{t:TypeId}{fz:Nat×Nat}(h:w.heap[b]? = some (.cells ([I a]:List Va).toArray t fz)):PX [] Y0 #[.slice (some ⟨b,0,none⟩) 1 1] w (.bool (hB a)):=by
 have:=zlk (l:=[a]) (c:=1) (bs:=[]) (L8 h Qs) (by simp[maxLen])
 simpa using this
def z7j{a b2:Int}{w:Wo}{b:Nat}{t:TypeId}{fz:Nat×Nat}(h:w.heap[b]? = some (.cells ([I a,I b2]:List Va).toArray t fz)):PX [] Y0 #[.slice (some ⟨b,0,none⟩) 2 2] w (.bool (hB a&&hB b2)):=by
 have:=zlk (l:=[a,b2]) (c:=2) (bs:=[]) (L8 h Qs) (by simp[maxLen])
 simpa using this
def z66{a b2 b3:Int}{w:Wo}{b:Nat}{t:TypeId}{fz:Nat×Nat}(h:w.heap[b]? = some (.cells ([I a,I b2,I b3]:List Va).toArray t fz)):PX [] Y0 #[.slice (some ⟨b,0,none⟩) 3 3] w (.bool (hB a&&(hB b2&&hB b3))):=by
 have:=zlk (l:=[a,b2,b3]) (c:=3) (bs:=[]) (L8 h Qs) (by simp[maxLen])
 simpa using this
def z24(W:Q7):Nat->Bool
 |0=>hB W.now
 |k+1=>z24 W k&&(hB (gi W.IF (k:Int)).busy&&hB (gi W.IF (k:Int)).idle)
def z28(W:Q7):Nat->Bool
 |0=>z24 W W.IF.length
 |k+1=>z28 W k&&(hB (gi W.IJ (k:Int)).v&&(hB (gi W.IJ (k:Int)).sum&&hB (gi W.IJ (k:Int)).IW))
def z4m(W:Q7)(g:Int)(b0:Bool):Nat->Bool
 |0=>b0
 |q+1=>z4m W g b0 q&&(hB (Qb W g (q:Int)).IL&&(hB (Qb W g (q:Int)).v&&hB (Qb W g (q:Int)).sum))
def zyw(W:Q7):Nat->Bool
 |0=>z28 W W.IJ.length
 |k+1=>z4m W (k:Int) (zyw W k&&hB (gi W.IE (k:Int)).sum) (gi W.IE (k:Int)).IH.length
def zxu{v:Int}:hB v=true↔v<=Qn:=decide_eq_true_iff
def z25{W:Q7}:∀k:Nat,z24 W k=true↔W.now<=Qn/\∀j:Nat,j<k->(gi W.IF (j:Int)).busy<=Qn/\(gi W.IF (j:Int)).idle<=Qn
 |0=>by simp only[z24,zxu];exact⟨λh=>⟨h,λj hj=>by omega⟩,λh=>h.1⟩
 |k+1=>by
  simp only[z24,A',zxu,z25 k];constructor
  ·rintro⟨⟨h1,h2⟩,h3⟩;refine⟨h1,λj hj=>?_⟩
   by_cases e:j=k
   ·subst e;exact h3
   ·exact h2 j Qo
  ·rintro⟨h1,h2⟩;exact⟨⟨h1,λj hj=>h2 j Qo⟩,h2 k Qo⟩
def z29{W:Q7}:∀k:Nat,z28 W k=true↔z24 W W.IF.length/\∀j:Nat,j<k->(gi W.IJ (j:Int)).v<=Qn/\(gi W.IJ (j:Int)).sum<=Qn/\(gi W.IJ (j:Int)).IW<=Qn
 |0=>by simp only[z28];exact⟨λh=>⟨h,λj hj=>by omega⟩,λh=>h.1⟩
 |k+1=>by
  simp only[z28,A',zxu,z29 k];constructor
  ·rintro⟨⟨h1,h2⟩,h3⟩;refine⟨h1,λj hj=>?_⟩
   by_cases e:j=k
   ·subst e;exact h3
   ·exact h2 j Qo
  ·rintro⟨h1,h2⟩;exact⟨⟨h1,λj hj=>h2 j Qo⟩,h2 k Qo⟩
def z27{W:Q7}{g:Int}{b0:Bool}:∀k:Nat,z4m W g b0 k=true↔b0/\∀j:Nat,j<k->(Qb W g (j:Int)).IL<=Qn/\(Qb W g (j:Int)).v<=Qn/\(Qb W g (j:Int)).sum<=Qn
 |0=>by simp only[z4m];exact⟨λh=>⟨h,λj hj=>by omega⟩,λh=>h.1⟩
 |k+1=>by
  simp only[z4m,A',zxu,z27 k];constructor
  ·rintro⟨⟨h1,h2⟩,h3⟩;refine⟨h1,λj hj=>?_⟩
   by_cases e:j=k
   ·subst e;exact h3
   ·exact h2 j Qo
  ·rintro⟨h1,h2⟩;exact⟨⟨h1,λj hj=>h2 j Qo⟩,h2 k Qo⟩
def z26{W:Q7}:∀k:Nat,zyw W k=true↔z28 W W.IJ.length/\∀j:Nat,j<k->(gi W.IE (j:Int)).sum<=Qn/\∀q:Nat,q<(gi W.IE (j:Int)).IH.length->(Qb W (j:Int) (q:Int)).IL<=Qn/\(Qb W (j:Int) (q:Int)).v<=Qn/\(Qb W (j:Int) (q:Int)).sum<=Qn
 |0=>by simp only[zyw];exact⟨λh=>⟨h,λj hj=>by omega⟩,λh=>h.1⟩
 |k+1=>by
  simp only[zyw,z27,A',zxu,z26 k];constructor
  ·rintro⟨⟨⟨h1,h2⟩,h3⟩,h4⟩;refine⟨h1,λj hj=>?_⟩
   by_cases e:j=k
   ·subst e;exact⟨h3,h4⟩
   ·exact h2 j Qo
  ·rintro⟨h1,h2⟩;exact⟨⟨⟨h1,λj hj=>h2 j Qo⟩,(h2 k Qo).1⟩,(h2 k Qo).2⟩
def z2b(W:Q7):zyw W W.IE.length=QO W:=by
 have key:zyw W W.IE.length=true↔G7 W:=by
  rw[z26,z29,z25];constructor
  ·rintro⟨⟨⟨h1,h2⟩,h3⟩,h4⟩;have e:∀{i:Int},0<=i->((i.toNat:Nat):Int)=i:=λh=>by omega
   refine⟨h1,λc a b=>?_,λc a b=>?_,λc a b=>?_,λk c a b c0 c1=>?_⟩
   ·have:=h2 c.toNat Qo;rwa[e a] at this
   ·have:=h3 c.toNat Qo;rwa[e a] at this
   ·have:=(h4 c.toNat Qo).1;rwa[e a] at this
   ·have:=(h4 k.toNat Qo).2 c.toNat (by rw[e a];omega);rwa[e a,e c0] at this
  ·intro r;exact⟨⟨⟨r.n,λj hj=>r.c (j:Int) Qo Qo⟩,λj hj=>r.t (j:Int) Qo Qo⟩,λj hj=>⟨r.g (j:Int) Qo Qo,λq hq=>r.s (j:Int) (q:Int) Qo Qo Qo Qo⟩⟩
 unfold QO
 cases hb:Ju (G7 W) with
 |true=>exact key.2 (Qm.1 hb)
 |false=>
  cases ho:zyw W W.IE.length with
  |false=>rfl
  |true=>exact Ir (key.1 ho) (Lu.1 hb)
def zki{a b:Bool}(h:a->False):(a&&b)=false:=by
 cases a with
 |false=>rfl
 |true=>exact(h rfl).elim
def zw5(I:Bool->Nat->Prop)(vs:List Va):Prop:=∃(x:Bool) (k:Nat),I x k/\vs=[.bool x,.int .i64 (k:Int)]
def zsq{B:(List Va->Prop)->(List Va->Nat)->Bool->Int->Prop}(n:Nat){xi:Bool}{si:Int}(s:Nat)(hs:si=s)(I:Bool->Nat->Prop)(h0:I xi s)(hB:∀(x:Bool) (k:Nat),I x k->B (zw5 I) (Xp n 1) x (k:Int)) :
  ∃(IU:List Va->Prop) (mu:List Va->Nat),IU [.bool xi,.int .i64 si]/\∀(x:Bool) (i:Int),IU [.bool x,.int .i64 i]->B IU mu x i:=by
 refine⟨zw5 I,Xp n 1,⟨xi,s,h0,by rw[hs]⟩,?_⟩;rintro x i ⟨x',k,hI,he⟩;simp only[I4,I5,Value.bool.injEq,true_and,and_true] at he;obtain⟨rfl,rfl⟩:=he;exact hB x k hI
def Uu{n k:Nat}{I:Bool->Nat->Prop}{x x':Bool}(hk:k<n)(hI:I x' (k+1)):zw5 I [.bool x',.int .i64 ((k:Int)+1)]/\Xp n 1 [.bool x',.int .i64 ((k:Int)+1)]<Xp n 1 [.bool x,.int .i64 (k:Int)]:=by
 refine⟨⟨x',k+1,hI,Qs⟩,?_⟩;simp only[Xp,Y4,Ie,List.getElem?_cons_succ];omega
section
variable {W:Q7}{m:MW}{w:Wo}{bs:List Nat}{p:OA}
def zll(h:Ph bs w p W m)(ha:WA W):PX bs VG #[.pointer p] w (.bool (QO W)):=by
 rw[<-z2b];refine FZ p λwr hx=>?_
 have h:=(h.ext hx).less (cs:=[]) Qs;have qT:=ha.t;have cZ:=ha.gl;have hcl:=ha.c2;refine⟨h.some,_,h.now,λb hb=>⟨hB W.now,λwx _ hc=>z65 hc,h.some,_,_,_,h.IF,?_⟩⟩;refine zsq W.IF.length 0 rfl (λx k=>k<=W.IF.length/\x=z24 W k) ⟨Ic _,rfl⟩ λx k ⟨hk,Sn⟩=>⟨λIV=>?_,λRW=>?_⟩
 ·have IV:=Ot IV;refine⟨h.rd.c.ix Y9 Qo IV,_,_,_,_,_,h.rd.c k Qo IV,λb1 dG=>⟨λ_ b2 cH=>⟨_,λ_ wx _ hc=>z7j hc,⟨Qo,Qo⟩,Uu Qo ⟨Qo,by rw[Sn];rfl⟩⟩,λhn=>⟨⟨Qo,Qo⟩,Uu Qo ⟨Qo,?_⟩⟩⟩⟩;simp only[z24];rw[<-Sn,zki hn]
 have RW:=Ou RW;have hkk:k=W.IF.length:=Qo;subst hkk;refine⟨h.some,_,_,_,h.IJ,?_⟩;refine zsq W.IJ.length 0 rfl (λx k=>k<=W.IJ.length/\x=z28 W k) ⟨Ic _,Sn⟩ λx k ⟨hk,Sn⟩=>⟨λIV=>?_,λRW=>?_⟩
 ·have IV:=Ot IV;refine⟨h.rd.t.ix QT Qo IV,_,_,_,_,_,_,_,_,_,h.rd.t k Qo IV,λb1 dG=>⟨λ_ b2 cH=>⟨_,λ_ wx _ hc=>z66 hc,⟨Qo,Qo⟩,Uu Qo ⟨Qo,by rw[Sn];rfl⟩⟩,λhn=>⟨⟨Qo,Qo⟩,Uu Qo ⟨Qo,?_⟩⟩⟩⟩;simp only[z28];rw[<-Sn,zki hn]
 have RW:=Ou RW;have hkk:k=W.IJ.length:=Qo;subst hkk;refine⟨h.some,_,_,_,h.IE,?_⟩;refine zsq W.IE.length 0 rfl (λx k=>k<=W.IE.length/\x=zyw W k) ⟨Ic _,Sn⟩ λx k ⟨hk,Sn⟩=>⟨λIV=>?_,λRW=>?_⟩
 ·have IV:=Ot IV;have hsl:(gi W.IE (k:Int)).IH.length<=4:=(KH ha (k:=(k:Int)) Qo Qo).2.2;have hrs:=h.rd.g.IH (k:Int) Qo IV;rw[Ig] at hrs
  have inner:∀{b0:Bool},b0=(zyw W k&&hB (gi W.IE (k:Int)).sum)->∃(IU:List Va->Prop) (mu:List Va->Nat),IU [.bool b0,I 0]/\∀(ok3:Bool) (dD:Int),IU [.bool ok3,I dD]->
    ((decide (dD<(((gi W.IE (k:Int)).IH.length:Nat):Int)))->
     Ix (m.ms k).sO (gi W.IE (k:Int)).IH.length dD/\
     (∃(x03:Int) (x15:Bool) (x23:Int) (x33:Int) (x43:Int),
     Q1 [] wr (m.ms k).sO (Int.toNat dD*5) [I x03,.bool x15,I x23,I x33,I x43]/\
     (∀b7,wr.heap.size<=b7->
     (ok3->(∀b8,wr.heap.size<=b8->
     (∃(AJ6:Bool),
     (ok3->(∀wx4,Q0 [] wr wx4->wx4.heap[b8]? = some (Obj.cells ([I x03,I x23,I x43]:List Va).toArray Qc (0,0))->PX [] Y0 #[.slice (some (Addr.mk b8 0 none)) 3 3] wx4 (.bool AJ6)))/\
     Qq .i64 (dD+1)/\
     IU [.bool (ok3&&AJ6),I (dD+1)]/\mu [.bool (ok3&&AJ6),I (dD+1)]<mu [.bool ok3,I dD])))/\
     ((ok3->False)->
     Qq .i64 (dD+1)/\
     IU [.bool false,I (dD+1)]/\mu [.bool false,I (dD+1)]<mu [.bool ok3,I dD]))))/\
    ((decide (dD<(((gi W.IE (k:Int)).IH.length:Nat):Int)))=false->ok3=zyw W (k+1)):=λ{b0} hb0=>by
   refine zsq (gi W.IE (k:Int)).IH.length 0 rfl (λx q=>q<=(gi W.IE (k:Int)).IH.length/\x=z4m W (k:Int) (zyw W k&&hB (gi W.IE (k:Int)).sum) q) ⟨Ic _,hb0⟩ λx q ⟨hq,Rg⟩=>⟨λRe=>?_,λbK=>?_⟩
   ·have Re:=Ot Re;refine⟨hrs.ix YM Qo Re,_,_,_,_,_,hrs q Qo Re,λb7 hb7=>⟨λ_ b8 hb8=>⟨_,λ_ wx _ hc=>z66 hc,⟨Qo,Qo⟩,Uu Qo ⟨Qo,by rw[Rg];rfl⟩⟩,λhn=>⟨⟨Qo,Qo⟩,Uu Qo ⟨Qo,?_⟩⟩⟩⟩;simp only[z4m];rw[<-Rg,zki hn]
   ·have bK:=Ou bK;have:q=(gi W.IE (k:Int)).IH.length:=Qo;rw[Rg,this];rfl
  refine⟨h.rd.g.ix Qo IV,_,_,_,_,_,_,_,_,_,_,_,_,_,_,_,_,_,_,_,_,h.rd.g.cells (k:Int) Qo IV,λb5 hb5=>⟨λ_ b6 hb6=>⟨hB (gi W.IE (k:Int)).sum,λ_ wx _ hc=>z65 hc,?_⟩,λhn=>?_⟩⟩
  ·obtain⟨xI,mu,h0,hI⟩:=inner (b0:=x&&hB (gi W.IE (k:Int)).sum) (by rw[Sn]);refine⟨xI,mu,h0,λok3 dD hi=>⟨(hI ok3 dD hi).1,λbK=>⟨⟨Qo,Qo⟩,?_⟩⟩⟩;have e:=(hI ok3 dD hi).2 bK;exact Uu Qo ⟨Qo,e⟩
  ·obtain⟨xI,mu,h0,hI⟩:=inner (b0:=false) (by rw[<-Sn,zki hn]);refine⟨xI,mu,h0,λok3 dD hi=>⟨(hI ok3 dD hi).1,λbK=>⟨⟨Qo,Qo⟩,?_⟩⟩⟩;have e:=(hI ok3 dD hi).2 bK;exact Uu Qo ⟨Qo,e⟩
 ·have RW:=Ou RW;have hkk:k=W.IE.length:=Qo;subst hkk;rw[Sn]
end
def MX(w:Wo):Prop:=w.cell? ⟨0,0,none⟩=some (.iface 158 (.agg #[.pointer (some ⟨1,84,none⟩)]))
def MX.ext{w w':Wo}(h:MX w)(hx:Q0 [] w w'):MX w':=by
 have IV:0<w.heap.size:=by
  rcases Nat.eq_zero_or_pos w.heap.size with h0|h1
  ·unfold MX at h;simp[World.cell?,h0] at h
  ·exact h1
 have hb:=hx.block 0 IV Qs;unfold MX at h ⊢;unfold World.cell? at h ⊢
 dsimp only at h ⊢
 rw[hb];exact h
def z1k(t:Va)(w:Wo):Cz Lx #[.nilIface,t] w λe w'=>e=.returned (.bool false)/\Q0 [] w w':=(z3k t w).mono λe w' ⟨he,hw⟩=>⟨he,by rw[hw];exact Q0.refl _ _⟩
def zx6{n:Int}{t:Nat}{old:Int}{w:Wo}{ty:TypeId}(hg:MX w)(ht:w.heap[t]? = some (.cells ([I old]:List Va).toArray ty (0,0))) :
  Cz Lx #[.iface Y2 (.agg #[I n]),.iface J2 (.pointer (some ⟨t,0,none⟩))] w λe w'=>e=.returned (.bool true)/\w'.heap[t]? = some (.cells ([I n]:List Va).toArray ty (0,0))/\Q0 [t] w w':=by
 refine(z3i n ⟨t,0,none⟩ (I old) w hg (by rw[Tb ht];rfl) (by simp[World.frozen?,ht])).mono λe w' ⟨he,hw⟩=>⟨he,?_⟩
 subst hw;have hx:=(((((Q0.refl [] w).alloc (.cells #[.pointer (some ⟨t,0,none⟩)] J2)).alloc (.cells #[.pointer (some ⟨1,J2,none⟩),.pointer (some ⟨w.heap.size,0,none⟩),.int .u64 150] Js)).alloc (.cells #[.pointer (some ⟨1,J2,none⟩),.pointer (some ⟨w.heap.size,0,none⟩),.int .u64 150] Js)).alloc (.cells #[I n] Y2));have hb:=QR ht hx Qs;refine⟨?_,?_⟩
 ·have:=Ka (k:=0) (n:=0) (vs:=[I n]) hb;exact this
 ·exact hx.of_nil.setCell (p:=⟨t,0,none⟩) (.inr Qs) _
structure zbh (base pb:Nat) (ex:List Nat) (w:Wo) (m:MW) (w':Wo) (W':Q7) (m':MW):Prop where
 own:Zj 8 base w' W' m'
 pt:w'.heap[pb]? = some (.cells (Qa W' m').toArray Q2 (0,0))
 ext:Q0 (ex++(pb::QN 8 m)) w w'
 sub:∀x∈QN 8 m',x∈QN 8 m\/w.heap.size<=x
def Mp.done{base pb:Nat}{ex:List Nat}{w w':Wo}{W':Q7}{m m':MW}(h:Mp base pb [] w m w' W' m'):zbh base pb ex w m w' W' m':=
 ⟨h.v.own,h.pt,h.v.ext.mono λx hx=>Iy _ (I1 _ hx),h.v.sub⟩
def z5g(ex:List Nat)(r:Q7×Int)(w:Wo)(v:Va)(w':Wo):Prop:=∃n m',v=.tuple #[.agg (Qa r.1 m').toArray,I r.2]/\Zj n w.heap.size w' r.1 m'/\Q0 ex w w'
section
variable {W W':Q7}{m:MW}{w:Wo}{bar:Int}
theorem zqg{cf:Fn}{ca ck:Array Va}(ex:List Nat)(P:Wo->Prop)(hP:∀(a b:Wo) (bs:List Nat),P a->Q0 bs a b->(∀x∈bs,w.heap.size<=x)->P b)(hex:∀x∈ex,x<w.heap.size)(hz:0∉ex)(h:J6 [] w W m)(hr:∀x∈ex,∀w1,Q0 ex w w1->J6 [] w1 W m)(hl:UV W)(hg:MX w)(RI:∀(w1:Wo) (pb:Nat) (m1:MW),Qp W=true->Q0 [] w w1->w.heap.size<=pb->PW w.heap.size pb w1 W m1->
   O1 Tryz.prog (.func cf ca ck) [.pointer (pA pb)] w1 λe w2=>(bar≠0/\e=.returned (.iface Y2 (.agg #[I bar]))/\Q0 [] w1 w2)\/(bar=0/\e=.returned .nilIface/\P w2/\∃m2,zbh w.heap.size pb ex w1 m1 w2 W' m2)) :
  Cz Vl #[.agg (Qa W m).toArray,.func cf ca ck] w λe w'=>∃v,e=.returned v/\z5g ex (Y7 W bar W') w v w'/\(Qp W->bar=0->P w')/\(Qp W=false\/bar≠0->Q0 [] w w'):=by
 refine zcs _ _ _ _ _ _ _ _ _ _ cf ca ck (R:=λv w'=>z5g ex (Y7 W bar W') w v w'/\(Qp W->bar=0->P w')/\(Qp W=false\/bar≠0->Q0 [] w w')) ?_;intro x hx x1 Sn;refine⟨_,zdj h hl.c hl.g hl.f,λg wr Rg=>?_,λg R6 Rg eR=>?_⟩
 ·have hW:Qp W=false:=by simpa using g
  refine⟨?_,λhw=>(by rw[hW] at hw;cases hw),λ_=>Rg⟩;rw[zr3 hW];exact⟨0,z0d,rfl,Zj.zero _ _,Rg.of_nil⟩
 have hW:Qp W:=by simpa using g
 have wp:=Qm.1 hW;have s1:Sc w [x,x1] R6:=(((Sc.start w).add hx).add Sn).R5 Rg;refine I3 (Am (h.ext Rg) wp.a) ?_;rintro e wv ⟨m1,he,hM1,dY⟩;have s2:=s1.R5 dY;have vB:=(OW.of hM1 eR).mono Rg.size;refine⟨_,_,_,_,_,_,_,_,_,_,he,Qg dY eR,λb2 wb hxb cH hcb hn2=>?_⟩;have s3:=s2.step hxb;have hO3:=vB.step hxb;have C52:w.heap.size<=b2:=IB s2.ext.size cH
 have eQ:b2∉QN 8 m1:=λhm=>by
  have:=(vB.own.lt b2 hm).2;omega
 refine⟨Bn (k0:=0) hcb hn2 Qs,λb3 wb1 CS6 wM C61 hn3=>?_⟩;have vM:=Ka (k:=0) (n:=0) (vs:=Qa W m1) hcb;have CS2:Q0 [b2] wb (Rx wb (some ⟨b2,0,none⟩) 0 (Qa W m1)):=TK λa ha=>by cases ha;simp
 have hO4 := (hO3.call CS2 fun y hy hm => eQ (by have:y=b2:=by simpa using hm
                                                 exact this▸hy)).step CS6
 have s4 := (s3.call CS2 fun y hy => by have:y=b2:=by simpa using hy
                                        omega).step CS6
 have DB0:wb1.heap[b2]? = some (.cells (Qa W m1).toArray Q2 (0,0)):=QR vM CS6 hn2
 have De2:b2≠b3:=λe=>by
  have:=UX vM;have C53:(Rx wb (some ⟨b2,0,none⟩) 0 (Qa W m1)).heap.size<=b3:=wM;omega
 have De3:w.heap.size<=b3:=by
  have h1:=CS2.size;have h2:=s3.ext.size;have C53:(Rx wb (some ⟨b2,0,none⟩) 0 (Qa W m1)).heap.size<=b3:=wM;omega
 intro R7 W8 We;have hO5:=hO4.step W8;have s5:=s4.step W8;have DB1:=QR DB0 W8 hn2;have hc5:=QR C61 W8 hn3;refine O1.mono (RI R7 b2 m1 hW s5.ext C52 ⟨hO5.own,DB1,eQ⟩) ?_;rintro e1 Rc (⟨hb0,qC,hy⟩|⟨hb0,qC,hPw,m2,hD⟩)
 ·
  refine⟨_,qC,Qg hy We,λRD Sx jS=>?_⟩;have s6:=(s5.R5 hy).step Sx;have hc6:=QR (QR hc5 hy Qs) Sx hn3;refine I3 (zx6 (hg.ext s6.ext) hc6) ?_;rintro e2 RO ⟨bS,hc7,SX⟩
  have s7 := s6.call SX fun y hy => by have:y=b3:=by simpa using hy
                                       omega
  have WY:∀{w9:Wo},Q0 [x,x1] RO w9->Q1 [x,x1] w9 (some ⟨b3,0,none⟩) (0+0) [I bar]:=λh9=>VX (QR hc7 h9 hn3) hn3 (k0:=0) rfl
  refine ⟨true, bS, KW SX jS (fun y hm jW => by have:y=b3:=by simpa using hm
                                                exact hn3 (this▸jW)),λ_=>⟨bar,WY (Q0.refl _ _),λRN bM dX=>?_⟩,λg=>by cases g⟩
  have s8:=s7.step bM;refine I3 (Am (h.ext s8.ext) wp.a) ?_;rintro e3 Si ⟨m3,gZ,jC,fU⟩;have s9:=s8.R5 fU;have hO9:=(OW.of jC dX).mono s8.ext.size;have hc9:Q1 [x,x1] Si (some ⟨b3,0,none⟩) (0+0) [I bar]:=VX (QR (QR hc7 bM hn3) fU Qs) hn3 (k0:=0) rfl;refine⟨_,_,_,_,_,_,_,_,_,_,gZ,Qg fU dX,hc9,hc9,λS5 gL=>⟨?_,λ_ hb=>Ir hb hb0,λ_=>(s9.step gL).ext⟩⟩;rw[zav hW hb0];exact⟨8,m3,rfl,(hO9.step gL).own,(s9.step gL).ext.of_nil⟩
 ·
  have DA6:∀y∈ex++(b2::QN 8 m1),y∉[x,x1]:=λy hy hm=>by
   rcases Im.1 hy with h1|h1
   ·have:=hex y h1;have:=s1.new y hm;omega
   ·rcases Ii.1 h1 with h1|h1
    ·subst h1;exact hn2 hm
    ·exact hO5.nb y h1 hm
  refine⟨_,qC,KW hD.ext We DA6,λRD Sx jS=>?_⟩;refine I3 (z1k _ _) ?_;rintro e2 RO ⟨bS,SX⟩
  have Ci7:∀y∈QN 8 m2,y∉[x,x1]:=λy hy hm=>by
   rcases hD.sub y hy with h1|h1
   ·exact hO5.nb y h1 hm
   ·have:=We y hm;omega
  have rU:=((hD.own.ext Sx Ci7).WR SX);have DB2:=QR (QR hD.pt Sx hn2) SX Qs
  have hX2:Q0 ex w Rc:=s5.ext.of_nil.fresh hD.ext λy hy=>by
   rcases Im.1 hy with h1|h1
   ·exact .inr h1
   ·refine .inl ?_;rcases Ii.1 h1 with h1|h1
    ·omega
    ·exact(hO5.own.lt y h1).1
  have hX3:Q0 ex w RO:=(hX2.fresh Sx λy hy=>.inl (s1.new y hy)).trans SX.of_nil;refine⟨false,bS,Qg SX jS,λg=>(by cases g),λ_=>⟨_,_,_,_,_,_,_,_,_,_,VC DB2 hn2 (k0:=0) (n:=0) λj v hj=>by simpa[Qa] using hj,λSu bM=>⟨?_,λ_ _=>?_,λhn=>?_⟩⟩⟩
  ·rw[zkj hW hb0];exact⟨8,m2,rfl,rU.ext bM Ci7,hX3.fresh bM λy hy=>.inl (s1.new y hy)⟩
  ·exact hP _ _ _ (hP _ _ _ (hP _ _ _ hPw Sx s1.new) SX Qs) bM s1.new
  ·rcases hn with h1|h1
   ·rw[hW] at h1;cases h1
   ·exact Ir hb0 h1
theorem zut{cf:Fn}{ca ck:Array Va}(h:J6 [] w W m)(hl:UV W)(hg:MX w)(RI:∀(w1:Wo) (pb:Nat) (m1:MW),Qp W=true->Q0 [] w w1->w.heap.size<=pb->PW w.heap.size pb w1 W m1->
   O1 Tryz.prog (.func cf ca ck) [.pointer (pA pb)] w1 λe w2=>(bar≠0/\e=.returned (.iface Y2 (.agg #[I bar]))/\Q0 [] w1 w2)\/(bar=0/\e=.returned .nilIface/\∃m2,zbh w.heap.size pb [] w1 m1 w2 W' m2)) :
  Cz Vl #[.agg (Qa W m).toArray,.func cf ca ck] w λe w'=>∃v,e=.returned v/\QV (Y7 W bar W') w v w':=
 (zqg [] (λ_=>True) (λ_ _ _ _ _ _=>trivial) Qs Qs h Qs hl hg λw1 pb m1 a b c d=>(RI w1 pb m1 a b c d).mono λe w2 hh=>by
  rcases hh with h1|⟨h1,h2,h3⟩
  ·exact .inl h1
  ·exact .inr ⟨h1,h2,trivial,h3⟩).mono λe w' ⟨v,he,hA,_⟩=>⟨v,he,hA⟩
end
end Go.Proofs.YtjinkcmkgnofjaaGreatDoor
