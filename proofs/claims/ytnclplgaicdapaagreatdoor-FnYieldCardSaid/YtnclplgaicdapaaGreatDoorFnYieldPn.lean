/- Part 14 of what the law FnYield needs: the engine, the functions' propositions, the contracts. -/
import Derived.Test.YtnclplgaicdapaaGreatDoorFnYieldPm
import Derived.LaidEql
import Derived.Stop.Asserts
import Derived.RowKitTokens
namespace Go.Proofs.YtnclplgaicdapaaGreatDoor
open Go.RowKit Go.Extern.Stop Go.Stop Go.Extern
set_option linter.unusedVariables false
set_option linter.unusedSimpArgs false
set_option maxRecDepth 100000
set_option maxHeartbeats 8000000
theorem ztj(t:Va)(w:Wo) :
  Cz 173 #[.nilIface,t] w fun e w'=>e=.returned (.bool false)/\w'=w:=by
 go_enter Tryz.func173,Tryz.ntmps173
 go_wp2
 go_ret
 exact⟨rfl,rfl⟩
theorem zfe(t:Addr)(w:Wo):(ReflectliteValue.unpack (.iface 130 (.pointer (some t)))).run Tryz.prog w
  = .ok (.agg #[.pointer (some ⟨1,130,none⟩),.pointer (some ⟨w.heap.size,0,none⟩),.int .u64 150]) (w.alloc (.cells #[.pointer (some t)] 130)):=by kernel_rfl
theorem znx (a : Addr) (w : World) : (ReflectliteValue.methodAny (ReflectliteValue.valueError "reflectlite.Value.Type" 0) (fun t _ _ _ => ReflectliteType.toType t) #[.agg #[.pointer (some ⟨1, 130, none⟩), .pointer (some a), .int .u64 150]]).run Tryz.prog w
  = .ok (.iface 174 (.agg #[.pointer (some ⟨1,130,none⟩)])) w:=by kernel_rfl
theorem CU (h : Value) (w : World) : (Go.method 343 174 (.agg #[h]) "Kind").run Tryz.prog w = .ok (296, h) w := by kernel_rfl
theorem znu(w:Wo):((ReflectliteType.abiMethod fun t=>(fun a:Nat=>Value.int IntKind.u8 (a:Int)) <$> Rtype.kind t) #[.pointer (some ⟨1,130,none⟩)]).run Tryz.prog w=.ok (.int .u8 22) w:=by kernel_rfl
theorem znt(w:Wo):((ReflectliteType.abiMethod fun t=>(fun a:Nat=>Value.int IntKind.u8 (a:Int)) <$> Rtype.kind t) #[.pointer (some ⟨1,69,none⟩)]).run Tryz.prog w=.ok (.int .u8 25) w:=by kernel_rfl
theorem znw(z:Sem Va)(f:TypeId->Addr->Nat->Nat->Sem Va)(v:Va) :
  ReflectliteValue.method z f #[v]=(do match <-ReflectliteValue.parts v with | none=>z | some (t,a,fl)=>f t a fl (fl % 32)):=rfl
theorem zbe(a:Addr)(w:Wo):(ReflectliteValue.parts (.agg #[.pointer (some ⟨1,130,none⟩),.pointer (some a),.int .u64 150])).run Tryz.prog w=.ok (some (130,a,150)) w:=by kernel_rfl
theorem zbf:Tryz.prog.underlying 130=some (.pointer 69):=by kernel_rfl
theorem zlm (a p:Addr) (W:Wo) (ha:W.cell? a=some (.pointer (some p))) :
  (ReflectliteValue.method (ReflectliteValue.valueError "reflectlite.Value.IsNil" 0) ReflectliteValue.isNil #[.agg #[.pointer (some ⟨1, 130, none⟩), .pointer (some a), .int .u64 150]]).run Tryz.prog W = .ok (.bool false) W := by
 rw[znw]
 simp only[Sem.run_bind,zbe,Result.andThen]
 simp[ReflectliteValue.isNil,loadVar,isAgg,underlying,zbf,ha,Result.andThen]
theorem CT (h : Value) (w : World) : (Go.method 343 174 (.agg #[h]) "Elem").run Tryz.prog w = .ok (314, .agg #[h]) w := by kernel_rfl
theorem Lk (h : Value) (w : World) : (Go.method 343 174 (.agg #[h]) "Implements").run Tryz.prog w = .ok (315, .agg #[h]) w := by kernel_rfl
theorem MQ (h : Value) (w : World) : (Go.method 343 174 (.agg #[h]) "AssignableTo").run Tryz.prog w = .ok (312, .agg #[h]) w := by kernel_rfl
theorem znr(w:Wo):(ReflectliteType.method ReflectliteType.elem #[.agg #[.pointer (some ⟨1,130,none⟩)]]).run Tryz.prog w=.ok (.iface 174 (.agg #[.pointer (some ⟨1,69,none⟩)])) w:=by kernel_rfl
theorem zns (w : World) : (ReflectliteType.relation "Implements" ReflectliteType.implements_ #[.agg #[.pointer (some ⟨1, 69, none⟩)], .iface 174 (.agg #[.pointer (some ⟨1, 67, none⟩)])]).run Tryz.prog w = .ok (.bool true) w := by kernel_rfl
theorem zhu(v:Va)(w:Wo):(ReflectliteType.typeOf #[.iface 69 v]).run Tryz.prog w=.ok (.iface 174 (.agg #[.pointer (some ⟨1,69,none⟩)])) w:=by kernel_rfl
theorem zhq (w : World) : (ReflectliteType.relation "AssignableTo" ReflectliteType.assignableTo #[.agg #[.pointer (some ⟨1, 69, none⟩)], .iface 174 (.agg #[.pointer (some ⟨1, 69, none⟩)])]).run Tryz.prog w = .ok (.bool true) w := by kernel_rfl
theorem zfd(n:Int)(w:Wo):(ReflectliteValue.unpack (.iface 69 (.agg #[.int .i64 n]))).run Tryz.prog w
  = .ok (.agg #[.pointer (some ⟨1,69,none⟩),.pointer (some ⟨w.heap.size,0,none⟩),.int .u64 153]) (w.alloc (.cells #[.int .i64 n] 69)):=by kernel_rfl
theorem zhs(w:Wo):(Rtype.elem? 130).run Tryz.prog w=.ok (some 69) w:=by kernel_rfl
theorem zti(p:Addr)(w:Wo):(ReflectliteValue.mk 69 p ReflectliteValue.flagAddr).run Tryz.prog w=.ok (.agg #[.pointer (some ⟨1,69,none⟩),.pointer (some p),.int .u64 409]) w:=by kernel_rfl
theorem zll (a p:Addr) (W:Wo) (ha:W.cell? a=some (.pointer (some p))) :
  (ReflectliteValue.method (ReflectliteValue.valueError "reflectlite.Value.Elem" 0) ReflectliteValue.elem #[.agg #[.pointer (some ⟨1, 130, none⟩), .pointer (some a), .int .u64 150]]).run Tryz.prog W
   = .ok (.agg #[.pointer (some ⟨1,69,none⟩),.pointer (some p),.int .u64 409]) W:=by
 rw[znw]
 simp only[Sem.run_bind,zbe,Result.andThen]
 simp[ReflectliteValue.elem,loadVar,isAgg,underlying,zbf,ha,Result.andThen,zhs,zti]
theorem zht(a:Addr)(w:Wo):(ReflectliteValue.parts (.agg #[.pointer (some ⟨1,69,none⟩),.pointer (some a),.int .u64 409])).run Tryz.prog w=.ok (some (69,a,409)) w:=by kernel_rfl
theorem zln(a:Addr)(w:Wo):(ReflectliteValue.parts (.agg #[.pointer (some ⟨1,69,none⟩),.pointer (some a),.int .u64 153])).run Tryz.prog w=.ok (some (69,a,153)) w:=by kernel_rfl
theorem zhr(w:Wo):(Rtype.directlyAssignable 69 69).run Tryz.prog w=.ok true w:=by kernel_rfl
theorem ztk (v x:Va):ReflectliteValue.set #[v,x]=(do
  let (some (dst,a,fl),some (src,b,_)):=(<-ReflectliteValue.parts v,<-ReflectliteValue.parts x)
   | unsupported (.noEntry "extern/(internal/reflectlite.Value).Set.zeroValue")
  if fl / ReflectliteValue.flagAddr % 2 == 0 then unsupported (.noEntry "extern/(internal/reflectlite.Value).Set.unaddressable")
  let val <-loadVar src b
  if <-Rtype.directlyAssignable dst src then storeVar dst a val
  else if <-Rtype.implements dst src then
   if (<-Rtype.kind src)==20 then
    match val with
    | .nilIface => unsupported (.noEntry "extern/reflectlite: a nil value of one interface type handed on as a value of another")
    | _=>storeVar dst a val
   else storeVar dst a (.iface src val)
  else panicString ("reflectlite.Set: value of type " ++ (← Rtype.spelt src) ++ " is not assignable to type " ++ (← Rtype.spelt dst))
  pure (.tuple #[])):=rfl
theorem zqx(w:Wo):(isAgg 69).run Tryz.prog w=.ok true w:=by kernel_rfl
theorem zfc(w:Wo):(sizeOf 69).run Tryz.prog w=.ok 1 w:=by kernel_rfl
theorem znv(b:Addr)(n:Int)(W:Wo)(hb:W.cell? b=some (.int .i64 n)):(loadVar 69 b).run Tryz.prog W=.ok (.agg #[.int .i64 n]) W:=by
 unfold loadVar;simp only[Sem.run_bind,zqx,Result.andThen,if_true];simp only[Sem.run_bind,zfc,Result.andThen];have e:b.add 0=b:=by cases b; rfl
 simp[loadCells,loadCellsFrom,e,hb,Result.andThen]
theorem zqy(ta b:Addr)(n:Int)(old:Va)(W:Wo)(hb:W.cell? b=some (.int .i64 n))(ht:W.cell? ta=some old)(hf:W.frozen? ta=false) :
  (ReflectliteValue.set #[.agg #[.pointer (some ⟨1,69,none⟩),.pointer (some ta),.int .u64 409],.agg #[.pointer (some ⟨1,69,none⟩),.pointer (some b),.int .u64 153]]).run Tryz.prog W
   = .ok (.tuple #[]) (W.setCell ta (.int .i64 n)):=by
 rw[ztk];simp only[Sem.run_bind,zht,zln,Result.andThen];have e:ta.add 0=ta:=by cases ta; rfl
 simp[ReflectliteValue.flagAddr,znv b n W hb,Result.andThen,zhr,storeVar,zfc,Value.cells,storeCells,e];rw[run_store Tryz.prog W ta _ _ (by rfl)];simp[ht,hf]
set_option maxHeartbeats 4000000 in
theorem zth (n:Int) (t:Addr) (old:Va) (w:Wo) (hg:w.cell? ⟨0,0,none⟩=some (.iface 174 (.agg #[.pointer (some ⟨1,67,none⟩)]))) (ht0:w.cell? t=some old) (hf0:w.frozen? t=false) :
  Cz 173 #[.iface 69 (.agg #[.int .i64 n]),.iface 130 (.pointer (some t))] w fun ev w'=>ev=.returned (.bool true)/\w'=((((w.alloc (.cells #[.pointer (some t)] 130)).alloc (.cells #[.pointer (some ⟨1,130,none⟩),.pointer (some ⟨w.heap.size,0,none⟩),.int .u64 150] 157)).alloc (.cells #[.pointer (some ⟨1,130,none⟩),.pointer (some ⟨w.heap.size,0,none⟩),.int .u64 150] 157)).alloc (.cells #[.int .i64 n] 69)).setCell t (.int .i64 n):=by
 have h6:=@run_callFunc_extern Tryz.prog 243 _ (fun args=>ReflectliteValue.unpack (args.getD 0 (.tuple #[]))) Tryz.func243 (by kernel_rfl) (by kernel_rfl) (by kernel_rfl) (by kernel_rfl)
 have h7 := @run_callFunc_extern Tryz.prog 244 _ (ReflectliteValue.methodAny (ReflectliteValue.valueError "reflectlite.Value.Type" 0) (fun t _ _ _ => ReflectliteType.toType t)) Tryz.func244 (by kernel_rfl) (by kernel_rfl) (by kernel_rfl) (by kernel_rfl)
 have h8 := @run_callFunc_extern Tryz.prog 245 _ (ReflectliteValue.method (ReflectliteValue.valueError "reflectlite.Value.IsNil" 0) ReflectliteValue.isNil) Tryz.func245 (by kernel_rfl) (by kernel_rfl) (by kernel_rfl) (by kernel_rfl)
 have h27:=@run_callFunc_extern Tryz.prog 296 _ (ReflectliteType.abiMethod fun t=>do pure (.int .u8 (<-Rtype.kind t))) Tryz.func296 (by kernel_rfl) (by kernel_rfl) (by kernel_rfl) (by kernel_rfl)
 have h37:=@run_callFunc_extern Tryz.prog 314 _ (ReflectliteType.method ReflectliteType.elem) Tryz.func314 (by kernel_rfl) (by kernel_rfl) (by kernel_rfl) (by kernel_rfl)
 have h38 := @run_callFunc_extern Tryz.prog 315 _ (ReflectliteType.relation "Implements" ReflectliteType.implements_) Tryz.func315 (by kernel_rfl) (by kernel_rfl) (by kernel_rfl) (by kernel_rfl)
 have h10:=@run_callFunc_extern Tryz.prog 263 _ ReflectliteType.typeOf Tryz.func263 (by kernel_rfl) (by kernel_rfl) (by kernel_rfl) (by kernel_rfl)
 have h35 := @run_callFunc_extern Tryz.prog 312 _ (ReflectliteType.relation "AssignableTo" ReflectliteType.assignableTo) Tryz.func312 (by kernel_rfl) (by kernel_rfl) (by kernel_rfl) (by kernel_rfl)
 have h11 := @run_callFunc_extern Tryz.prog 264 _ (ReflectliteValue.method (ReflectliteValue.valueError "reflectlite.Value.Elem" 0) ReflectliteValue.elem) Tryz.func264 (by kernel_rfl) (by kernel_rfl) (by kernel_rfl) (by kernel_rfl)
 have h12:=@run_callFunc_extern Tryz.prog 265 _ ReflectliteValue.set Tryz.func265 (by kernel_rfl) (by kernel_rfl) (by kernel_rfl) (by kernel_rfl)
 have tO:=zhu
 have mA:=MQ
 have a25:=zhq
 have v25:=zfd
 have f6:=zfe
 have f7:=znx
 have mK:=CU
 have mE:=CT
 have mI:=Lk
 have k27:=znu
 have k25:=znt
 have e27:=znr
 have i25:=zns
 have n8:=zlm ⟨w.heap.size,0,none⟩ t ((w.alloc (.cells #[.pointer (some t)] 130)).alloc (.cells #[.pointer (some ⟨1,130,none⟩),.pointer (some ⟨w.heap.size,0,none⟩),.int .u64 150] 157)) (by simp)
 have hlt:0<w.heap.size:=by
  rcases Nat.eq_zero_or_pos w.heap.size with h0 | h
  ·simp[World.cell?,h0] at hg
  ·exact h
 have hg2:((w.alloc (.cells #[.pointer (some t)] 130)).alloc (.cells #[.pointer (some ⟨1,130,none⟩),.pointer (some ⟨w.heap.size,0,none⟩),.int .u64 150] 157)).cell? ⟨0,0,none⟩=some (.iface 174 (.agg #[.pointer (some ⟨1,67,none⟩)])):=by
  rw[World.cell?_alloc_lt _ _ ⟨0,0,none⟩ (by simp),World.cell?_alloc_lt _ _ ⟨0,0,none⟩ hlt]; exact hg
 have htl:t.block<w.heap.size:=by
  rcases Nat.lt_or_ge t.block w.heap.size with h | h
  ·exact h
  ·simp[World.cell?,Array.getElem?_eq_none h] at ht0
 have el:=zll ⟨w.heap.size,0,none⟩ t (((w.alloc (.cells #[.pointer (some t)] 130)).alloc (.cells #[.pointer (some ⟨1,130,none⟩),.pointer (some ⟨w.heap.size,0,none⟩),.int .u64 150] 157)).alloc (.cells #[.pointer (some ⟨1,130,none⟩),.pointer (some ⟨w.heap.size,0,none⟩),.int .u64 150] 157)) (by rw[World.cell?_alloc_lt _ _ ⟨w.heap.size,0,none⟩ (by simp; omega)]; simp)
 have st:=zqy t ⟨w.heap.size+1+1+1,0,none⟩ n old ((((w.alloc (.cells #[.pointer (some t)] 130)).alloc (.cells #[.pointer (some ⟨1,130,none⟩),.pointer (some ⟨w.heap.size,0,none⟩),.int .u64 150] 157)).alloc (.cells #[.pointer (some ⟨1,130,none⟩),.pointer (some ⟨w.heap.size,0,none⟩),.int .u64 150] 157)).alloc (.cells #[.int .i64 n] 69))
  (by rw[World.cell?_alloc_at _ _ _ _ (by simp)]; rfl)
  (by rw[World.cell?_alloc_lt _ _ t (by simp; omega),World.cell?_alloc_lt _ _ t (by simp; omega),World.cell?_alloc_lt _ _ t (by simp; omega),World.cell?_alloc_lt _ _ t htl]; exact ht0)
  (by rw[World.frozen?_alloc_old _ _ t (by simp; omega),World.frozen?_alloc_old _ _ t (by simp; omega),World.frozen?_alloc_old _ _ t (by simp; omega),World.frozen?_alloc_old _ _ t (Nat.ne_of_lt htl)]; exact hf0)
 go_enter Tryz.func173,Tryz.ntmps173
 go_wp2
 refine wp_loop_rounds 1 ?_
 rw[rounds_succ]
 go_wp2
 go_ret
 exact⟨rfl,rfl⟩
end Go.Proofs.YtnclplgaicdapaaGreatDoor
namespace Go.Proofs.YtnclplgaicdapaaGreatDoor
open Go.RowKit
set_option linter.unusedVariables false
set_option linter.unusedSimpArgs false
set_option maxRecDepth 10000
set_option maxHeartbeats 8000000
def hB(v:Int):Bool:=decide (v<=Qp)
section
variable {W:Q7}{m:MW}{w:Wo}{bs:List Nat}{p:OA}
end
def PC(w:Wo):Prop:=w.cell? ⟨0,0,none⟩=some (.iface 174 (.agg #[.pointer (some ⟨1,67,none⟩)]))
theorem PC.ext{w w':Wo}(h:PC w)(hx:Q0 [] w w'):PC w':=by
 have hlt:0<w.heap.size:=by
  rcases Nat.eq_zero_or_pos w.heap.size with h0 | h1
  ·unfold PC at h; simp[World.cell?,h0] at h
  ·exact h1
 have hb:=hx.block 0 hlt (by simp);unfold PC at h ⊢;unfold World.cell? at h ⊢
 dsimp only at h ⊢
 rw[hb];exact h
theorem zru(t:Va)(w:Wo):Cz Mg #[.nilIface,t] w fun e w'=>e=.returned (.bool false)/\Q0 [] w w':=(ztj t w).mono fun e w' ⟨he,hw⟩=>⟨he,by rw[hw]; exact Q0.refl _ _⟩
theorem zov{n:Int}{t:Nat}{old:Int}{w:Wo}{ty:TypeId}(hg:PC w)(ht:w.heap[t]? = some (.cells ([.int .i64 old]:List Va).toArray ty (0,0))) :
  Cz Mg #[.iface ZS (.agg #[.int .i64 n]),.iface Xn (.pointer (some ⟨t,0,none⟩))] w fun e w'=>e=.returned (.bool true)/\w'.heap[t]? = some (.cells ([.int .i64 n]:List Va).toArray ty (0,0))/\Q0 [t] w w':=by
 refine(zth n ⟨t,0,none⟩ (.int .i64 old) w hg (by rw[Oh ht]; rfl) (by simp[World.frozen?,ht])).mono fun e w' ⟨he,hw⟩=>⟨he,?_⟩
 subst hw;have hx:=(((((Q0.refl [] w).alloc (.cells #[.pointer (some ⟨t,0,none⟩)] Xn)).alloc (.cells #[.pointer (some ⟨1,Xn,none⟩),.pointer (some ⟨w.heap.size,0,none⟩),.int .u64 150] XI)).alloc (.cells #[.pointer (some ⟨1,Xn,none⟩),.pointer (some ⟨w.heap.size,0,none⟩),.int .u64 150] XI)).alloc (.cells #[.int .i64 n] ZS));have hb:=ZP ht hx (by simp);refine⟨?_,?_⟩
 ·have:=L7 (k:=0) (n:=0) (vs:=[.int .i64 n]) hb;exact this
 ·exact hx.of_nil.setCell (p:=⟨t,0,none⟩) (.inr (by simp)) _
structure BX (base pb:Nat) (ex:List Nat) (w:Wo) (m:MW) (w':Wo) (W':Q7) (m':MW):Prop where
 own:Y1 8 base w' W' m'
 pt:w'.heap[pb]? = some (.cells (Qa W' m').toArray Q3 (0,0))
 ext:Q0 (ex++(pb::QB 8 m)) w w'
 sub:∀x∈QB 8 m',x∈QB 8 m\/w.heap.size<=x
theorem Mp.done{base pb:Nat}{ex:List Nat}{w w':Wo}{W':Q7}{m m':MW}(h:Mp base pb [] w m w' W' m'):BX base pb ex w m w' W' m':=
 ⟨h.v.own,h.pt,h.v.ext.mono fun x hx=>List.mem_append_right _ (List.mem_cons_of_mem _ hx),h.v.sub⟩
def zu1(ex:List Nat)(r:Q7×Int)(w:Wo)(v:Va)(w':Wo):Prop:=∃n m',v=.tuple #[.agg (Qa r.1 m').toArray,.int .i64 r.2]/\Y1 n w.heap.size w' r.1 m'/\Q0 ex w w'
section
variable {W W':Q7}{m:MW}{w:Wo}{bar:Int}
theorem zie{cf:Fn}{ca ck:Array Va}(ex:List Nat)(P:Wo->Prop)(hP:∀(a b:Wo) (bs:List Nat),P a->Q0 bs a b->(∀x∈bs,w.heap.size<=x)->P b)(hex:∀x∈ex,x<w.heap.size)(hz:0∉ex)(h:YZ [] w W m)(hr:∀x∈ex,∀w1,Q0 ex w w1->YZ [] w1 W m)(hl:Xc W)(hg:PC w)(hcall:∀(w1:Wo) (pb:Nat) (m1:MW),Qv W=true->Q0 [] w w1->w.heap.size<=pb->PW w.heap.size pb w1 W m1->
   GM Tryz.prog (.func cf ca ck) [.pointer (pA pb)] w1 fun e w2=>(bar≠0/\e=.returned (.iface ZS (.agg #[.int .i64 bar]))/\Q0 [] w1 w2)\/(bar=0/\e=.returned .nilIface/\P w2/\∃m2,BX w.heap.size pb ex w1 m1 w2 W' m2)) :
  Cz Ue #[.agg (Qa W m).toArray,.func cf ca ck] w fun e w'=>∃v,e=.returned v/\zu1 ex (YG W bar W') w v w'/\(Qv W=true->bar=0->P w')/\(Qv W=false\/bar≠0->Q0 [] w w'):=by
 refine ND W.now m.cO W.cpus.length m.cC m.tO W.tasks.length m.tC m.gO W.groups.length m.gC cf ca ck (R:=fun v w'=>zu1 ex (YG W bar W') w v w'/\(Qv W=true->bar=0->P w')/\(Qv W=false\/bar≠0->Q0 [] w w')) ?_;intro x hx x1 hx1;refine⟨_,Kj h hl.c hl.g hl.f,fun g wr hx2=>?_,fun g wr1 hx2 hs1=>?_⟩
 ·have hW:Qv W=false:=by simpa using g
  refine⟨?_,fun hw=>(by rw[hW] at hw; cases hw),fun _=>hx2⟩;rw[zc3 hW];exact⟨0,zqq,rfl,Y1.zero _ _,hx2.of_nil⟩
 have hW:Qv W=true:=by simpa using g
 have wp:=Qh.1 hW;have s1:Sc w [x,x1] wr1:=(((Sc.start w).add hx).add hx1).call0 hx2;refine Calls.mono (EU (h.ext hx2) wp.a) ?_;rintro e wv ⟨m1,he,hM1,hy1⟩;have s2:=s1.call0 hy1;have hO2:=(OW.of hM1 hs1).mono hx2.size;refine⟨_,_,_,_,_,_,_,_,_,_,he,Qd hy1 hs1,fun b2 wb hxb hb2 hcb hn2=>?_⟩;have s3:=s2.step hxb;have hO3:=hO2.step hxb;have hb2w:w.heap.size<=b2:=Nat.le_trans s2.ext.size hb2
 have hp2:b2∉QB 8 m1:=fun hm=>by
  have:=(hO2.own.lt b2 hm).2;omega
 refine⟨BW (k0:=0) hcb hn2 (by simp),fun b3 wb1 hxb1 hb3 hcb1 hn3=>?_⟩;have hst:=L7 (k:=0) (n:=0) (vs:=Qa W m1) hcb;have hstx:Q0 [b2] wb (sto wb (some ⟨b2,0,none⟩) 0 (Qa W m1)):=Pc fun a ha=>by cases ha; simp
 have hO4 := (hO3.call hstx fun y hy hm => hp2 (by have:y=b2:=by simpa using hm
                                                   exact this▸hy)).step hxb1
 have s4 := (s3.call hstx fun y hy => by have:y=b2:=by simpa using hy
                                         omega).step hxb1
 have hpt4:wb1.heap[b2]? = some (.cells (Qa W m1).toArray Q3 (0,0)):=ZP hst hxb1 hn2
 have hb23:b2≠b3:=fun e=>by
  have:=VM hst;have hb3':(sto wb (some ⟨b2,0,none⟩) 0 (Qa W m1)).heap.size<=b3:=hb3;omega
 have hb3w:w.heap.size<=b3:=by
  have h1:=hstx.size;have h2:=s3.ext.size;have hb3':(sto wb (some ⟨b2,0,none⟩) 0 (Qa W m1)).heap.size<=b3:=hb3;omega
 intro wr2 hx4 hs2;have hO5:=hO4.step hx4;have s5:=s4.step hx4;have hpt5:=ZP hpt4 hx4 hn2;have hc5:=ZP hcb1 hx4 hn3;refine GM.mono (hcall wr2 b2 m1 hW s5.ext hb2w ⟨hO5.own,hpt5,hp2⟩) ?_;rintro e1 wv1 (⟨hb0,he1,hy⟩ | ⟨hb0,he1,hPw,m2,hD⟩)
 ·
  refine⟨_,he1,Qd hy hs2,fun wr3 hx5 hs3=>?_⟩;have s6:=(s5.call0 hy).step hx5;have hc6:=ZP (ZP hc5 hy (by simp)) hx5 hn3;refine Calls.mono (zov (hg.ext s6.ext) hc6) ?_;rintro e2 wv2 ⟨he2,hc7,hy2⟩
  have s7 := s6.call hy2 fun y hy => by have:y=b3:=by simpa using hy
                                        omega
  have hcell:∀{w9:Wo},Q0 [x,x1] wv2 w9->Q2 [x,x1] w9 (some ⟨b3,0,none⟩) (0+0) [.int .i64 bar]:=fun h9=>UO (ZP hc7 h9 hn3) hn3 (k0:=0) rfl
  refine ⟨true, he2, Kq hy2 hs3 (fun y hm hm' => by have:y=b3:=by simpa using hm
                                                    exact hn3 (this▸hm')),fun _=>⟨bar,hcell (Q0.refl _ _),fun wr4 hx6 hs4=>?_⟩,fun g=>by cases g⟩
  have s8:=s7.step hx6;refine Calls.mono (EU (h.ext s8.ext) wp.a) ?_;rintro e3 wv3 ⟨m3,he3,hM3,hy3⟩;have s9:=s8.call0 hy3;have hO9:=(OW.of hM3 hs4).mono s8.ext.size;have hc9:Q2 [x,x1] wv3 (some ⟨b3,0,none⟩) (0+0) [.int .i64 bar]:=UO (ZP (ZP hc7 hx6 hn3) hy3 (by simp)) hn3 (k0:=0) rfl;refine⟨_,_,_,_,_,_,_,_,_,_,he3,Qd hy3 hs4,hc9,hc9,fun wr5 hx7=>⟨?_,fun _ hb=>absurd hb hb0,fun _=>(s9.step hx7).ext⟩⟩;rw[zc4 hW hb0];exact⟨8,m3,rfl,(hO9.step hx7).own,(s9.step hx7).ext.of_nil⟩
 ·
  have hpbs:∀y∈ex++(b2::QB 8 m1),y∉[x,x1]:=fun y hy hm=>by
   rcases List.mem_append.1 hy with h1 | h1
   ·have:=hex y h1;have:=s1.new y hm;omega
   ·rcases List.mem_cons.1 h1 with h1 | h1
    ·subst h1; exact hn2 hm
    ·exact hO5.nb y h1 hm
  refine⟨_,he1,Kq hD.ext hs2 hpbs,fun wr3 hx5 hs3=>?_⟩;refine Calls.mono (zru _ _) ?_;rintro e2 wv2 ⟨he2,hy2⟩
  have hnb2:∀y∈QB 8 m2,y∉[x,x1]:=fun y hy hm=>by
   rcases hD.sub y hy with h1 | h1
   ·exact hO5.nb y h1 hm
   ·have:=hs2 y hm;omega
  have hM7:=((hD.own.ext hx5 hnb2).ext0 hy2);have hpt7:=ZP (ZP hD.pt hx5 hn2) hy2 (by simp)
  have hX2:Q0 ex w wv1:=s5.ext.of_nil.fresh hD.ext fun y hy=>by
   rcases List.mem_append.1 hy with h1 | h1
   ·exact .inr h1
   ·refine .inl ?_;rcases List.mem_cons.1 h1 with h1 | h1
    ·omega
    ·exact(hO5.own.lt y h1).1
  have hX3:Q0 ex w wv2:=(hX2.fresh hx5 fun y hy=>.inl (s1.new y hy)).trans hy2.of_nil;refine⟨false,he2,Qd hy2 hs3,fun g=>(by cases g),fun _=>⟨_,_,_,_,_,_,_,_,_,_,Oi hpt7 hn2 (k0:=0) (n:=0) fun j v hj=>by simpa[Qa] using hj,fun wr6 hx6=>⟨?_,fun _ _=>?_,fun hn=>?_⟩⟩⟩
  ·rw[zhp hW hb0];exact⟨8,m2,rfl,hM7.ext hx6 hnb2,hX3.fresh hx6 fun y hy=>.inl (s1.new y hy)⟩
  ·exact hP _ _ _ (hP _ _ _ (hP _ _ _ hPw hx5 s1.new) hy2 (by simp)) hx6 s1.new
  ·rcases hn with h1 | h1
   ·rw[hW] at h1; cases h1
   ·exact absurd hb0 h1
theorem zmb{cf:Fn}{ca ck:Array Va}(h:YZ [] w W m)(hl:Xc W)(hg:PC w)(hcall:∀(w1:Wo) (pb:Nat) (m1:MW),Qv W=true->Q0 [] w w1->w.heap.size<=pb->PW w.heap.size pb w1 W m1->
   GM Tryz.prog (.func cf ca ck) [.pointer (pA pb)] w1 fun e w2=>(bar≠0/\e=.returned (.iface ZS (.agg #[.int .i64 bar]))/\Q0 [] w1 w2)\/(bar=0/\e=.returned .nilIface/\∃m2,BX w.heap.size pb [] w1 m1 w2 W' m2)) :
  Cz Ue #[.agg (Qa W m).toArray,.func cf ca ck] w fun e w'=>∃v,e=.returned v/\QG (YG W bar W') w v w':=
 (zie [] (fun _=>True) (fun _ _ _ _ _ _=>trivial) (by simp) (by simp) h (by simp) hl hg fun w1 pb m1 a b c d=>(hcall w1 pb m1 a b c d).mono fun e w2 hh=>by
  rcases hh with h1 | ⟨h1,h2,h3⟩
  ·exact .inl h1
  ·exact .inr ⟨h1,h2,trivial,h3⟩).mono fun e w' ⟨v,he,hA,_⟩=>⟨v,he,hA⟩
end
end Go.Proofs.YtnclplgaicdapaaGreatDoor
