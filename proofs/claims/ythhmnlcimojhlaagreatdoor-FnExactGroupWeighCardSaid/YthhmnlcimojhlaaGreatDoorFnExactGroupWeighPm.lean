/- Part 13 of what the law FnExactGroupWeigh needs: the engine, the functions' propositions, the contracts. -/
import Derived.Test.YthhmnlcimojhlaaGreatDoorFnExactGroupWeighPl
import Derived.Test.YthhmnlcimojhlaaGreatDoorRows
import Derived.ChangeSame
import Derived.ChangeVars
import Derived.JoinedOf
import Derived.LaidLaws
import Derived.LaidHandle
import Derived.Stop.Joined
namespace Go.Proofs.YthhmnlcimojhlaaGreatDoor
open Go.ChangeShapes Go.WideShapes Go.RowKit
set_option linter.unusedVariables false
set_option linter.unusedSimpArgs false
set_option maxRecDepth 100000
abbrev laidE : List (String × DataW Unit) := [("errors.errorType", Rows.laid_errors_errorType)]
theorem door_et : Tryz.prog.globalNamed "errors.errorType" = some 0 := by kernel_rfl
theorem door_rt : (Tryz.prog.cutTypes.find? (·.1 == "internal/reflectlite.rtype")).map (·.2) = some 191 := by kernel_rfl
theorem door_size:Tryz.prog.types.size=263:=by kernel_rfl
theorem door_oneRow:((List.range 263).filter fun t=>Tryz.prog.rowNamed t [101,114,114,111,114])=[64]:=by kernel_rfl
theorem door_handle:typeHandle Tryz.prog 64 = .pointer (some ⟨1,64,none⟩):=by kernel_rfl
theorem glob_of_laid {W:World} (h:laidMetH Tryz.prog laidE W):GlobE W:=by
 have h':laidMet Tryz.prog [] W∧handlesMet Tryz.prog laidE W:=h
 obtain ⟨name,u,ty,e1,e2,e3,e4,e5⟩:=h'.2 _ (List.mem_singleton.2 rfl)
 have en:name=[101,114,114,111,114]:=(Option.some.inj e1).symm
 subst en
 obtain rfl:=Option.some.inj (door_rt.symm.trans e2)
 have hm:ty∈(List.range 263).filter fun t=>Tryz.prog.rowNamed t [101,114,114,111,114]:=List.mem_filter.2 ⟨List.mem_range.2 (by rw [←door_size]; exact e3),e4⟩
 rw [door_oneRow] at hm
 obtain rfl:=List.mem_singleton.1 hm
 rw [door_handle] at e5
 unfold GlobE
 simpa using World.var?_cell door_et e5 0
noncomputable def laidWorld (os:Os):World :=
 let w0:=World.holding Tryz.prog os ⟨#[],#[],[]⟩
 { w0 with heap:=w0.heap.modify 0 fun
   | .cells _ t frozen=>.cells #[.iface 191 (.agg #[.pointer (some ⟨1,64,none⟩)])] t frozen
   | o=>o }
theorem laidWorld_met (os:Os) (args:Array Value):laidMetH Tryz.prog laidE ((laidWorld os).forCall (fun _ _=>0) ⟨#[],args,[]⟩).memory :=
 laidMetH_of_parts (laidMet_nil _ _) (by kernel_rfl)
end Go.Proofs.YthhmnlcimojhlaaGreatDoor
namespace Go.Proofs.YthhmnlcimojhlaaGreatDoor
open Go.RowKit
set_option linter.unusedVariables false
set_option linter.unusedSimpArgs false
set_option maxRecDepth 10000
def mkC (k:Int):Cpu:=⟨Int.tmod (k) 3==0,k+1,k+1+1,k+1+1+1,k+1+1+1+1⟩
def markC (n:Nat) (k:Int):List Cpu:=(List.range n).map fun (i:Nat)=>mkC (k+5*(i:Int))
theorem markC_len (n:Nat) (k:Int):(markC n k).length=n:=by simp [markC]
theorem markC_gi {n:Nat} {k:Int} {i:Nat} (h:i<n):gi (markC n k) (i:Int)=mkC (k+5*(i:Int)):=by
 rw [gi_lt (by rw [markC_len]; exact h)]; simp [markC]
theorem k_markCpuS {base:Nat} {l:List Cpu} {o:Option Addr} {c:Nat} {k:Int} {w:World} (h:Own encC 5 ty_impl_Cpu base w o c l) (hl:l.length≤1048576) (hk:0≤k) (hk2:k≤100000000000000000) :
  Calls Tryz.prog fn_laws_markCpuS #[.slice o l.length c,.int .i64 k] w fun e w'=>e = .returned (.int .i64 (k+5*(l.length:Int)))∧Own encC 5 ty_impl_Cpu base w' o c (markC l.length k)∧ExtX (blkOf o) w w':=by
 refine (e_laws_markCpuS o l.length c k (R:=fun v w'=>v = .int .i64 (k+5*(l.length:Int))∧Own encC 5 ty_impl_Cpu base w' o c (markC l.length k)∧ExtX (blkOf o) w w') ?_).mono fun e w' ⟨v,he,hv,h1⟩=>⟨by rw [he,hv],h1⟩
 refine ⟨fun vs w1=>∃(i:Nat),vs=[.int .i64 (k+5*(i:Int)),.int .i64 (i:Int)]∧i≤l.length∧Own encC 5 ty_impl_Cpu base w1 o c ((markC l.length k).take i++l.drop i)∧ExtX (blkOf o) w w1,cntMw l.length 1,fun wr hx _=>⟨0,by simp,Nat.zero_le _,by simpa using h.ext0 hx,hx.of_nil⟩,?_⟩
 rintro k1 i1 w1 _ ⟨i,he,hi,hO,hX⟩
 simp only [List.cons.injEq,Value.int.injEq,true_and,and_true] at he
 obtain ⟨rfl,rfl⟩:=he
 have hlen:((markC l.length k).take i++l.drop i).length=l.length:=by simp [markC_len]; omega
 refine ⟨fun hlt => ?_,fun hge => ?_⟩
 ·have hlt:=of_decide_eq_true hlt
  have hi':(i:Int)<(((markC l.length k).take i++l.drop i).length:Int):=by rw [hlen]; exact hlt
  have hix:Ix o l.length (i:Int):=by have:=hO.ix (i:=(i:Int)) (by omega) hi'; rwa [hlen] at this
  have hset:∀x,(((markC l.length k).take i++l.drop i).set i x).length=l.length:=fun x=>by rw [List.length_set]; exact hlen
  have hgs:∀x,gi (((markC l.length k).take i++l.drop i).set i x) (i:Int)=x:=fun x=>by
   have:=gi_set ((markC l.length k).take i++l.drop i) x (i:=(i:Int)) (by omega) hi' (j:=(i:Int)) (by omega)
   rw [if_pos rfl,Int.toNat_natCast] at this
   exact this
  have hss:∀x y,(((markC l.length k).take i++l.drop i).set i x).set i y=((markC l.length k).take i++l.drop i).set i y:=fun x y=>by rw [List.set_set]
  generalize hL:(markC l.length k).take i++l.drop i=L at hO hlen hi' hset hgs hss
  have e0:=hO.sto elt_Cpu.len (i:=(i:Int)) (by omega) hi' (j:=0) (vs:=[.bool (Int.tmod (k+5*(i:Int)) 3==0)]) (x:=⟨Int.tmod (k+5*(i:Int)) 3==0,(gi L i).cur,(gi L i).ran,(gi L i).busy,(gi L i).idle⟩) rfl (by simp)
  rw [Int.toNat_natCast] at e0
  have e1:=e0.sto elt_Cpu.len (i:=(i:Int)) (by omega) (by rw [hset]; exact hlt) (j:=1) (vs:=[.int .i64 (k+5*(i:Int)+1)]) (x:=⟨Int.tmod (k+5*(i:Int)) 3==0,k+5*(i:Int)+1,(gi L i).ran,(gi L i).busy,(gi L i).idle⟩) (by rw [hgs]; rfl) (by simp)
  rw [Int.toNat_natCast,hss] at e1
  have e2:=e1.sto elt_Cpu.len (i:=(i:Int)) (by omega) (by rw [hset]; exact hlt) (j:=2) (vs:=[.int .i64 (k+5*(i:Int)+1+1)]) (x:=⟨Int.tmod (k+5*(i:Int)) 3==0,k+5*(i:Int)+1,k+5*(i:Int)+1+1,(gi L i).busy,(gi L i).idle⟩) (by rw [hgs]; rfl) (by simp)
  rw [Int.toNat_natCast,hss] at e2
  have e3:=e2.sto elt_Cpu.len (i:=(i:Int)) (by omega) (by rw [hset]; exact hlt) (j:=3) (vs:=[.int .i64 (k+5*(i:Int)+1+1+1)]) (x:=⟨Int.tmod (k+5*(i:Int)) 3==0,k+5*(i:Int)+1,k+5*(i:Int)+1+1,k+5*(i:Int)+1+1+1,(gi L i).idle⟩) (by rw [hgs]; rfl) (by simp)
  rw [Int.toNat_natCast,hss] at e3
  have e4:=e3.sto elt_Cpu.len (i:=(i:Int)) (by omega) (by rw [hset]; exact hlt) (j:=4) (vs:=[.int .i64 (k+5*(i:Int)+1+1+1+1)]) (x:=mkC (k+5*(i:Int))) (by rw [hgs]; rfl) (by simp)
  rw [Int.toNat_natCast,hss] at e4
  refine ⟨by decide,hix,hO.wr elt_Cpu.len (by simp) (by omega) hi' (j:=0) (by decide),⟨by omega,by omega⟩,hix,e0.wr elt_Cpu.len (by simp) (by omega) (by rw [hset]; exact hlt) (j:=1) (by decide),⟨by omega,by omega⟩,hix,e1.wr elt_Cpu.len (by simp) (by omega) (by rw [hset]; exact hlt) (j:=2) (by decide),⟨by omega,by omega⟩,hix,e2.wr elt_Cpu.len (by simp) (by omega) (by rw [hset]; exact hlt) (j:=3) (by decide),⟨by omega,by omega⟩,hix,e3.wr elt_Cpu.len (by simp) (by omega) (by rw [hset]; exact hlt) (j:=4) (by decide),⟨by omega,by omega⟩,⟨by omega,by omega⟩,fun w2 hx2 _=>⟨⟨i+1,by congr 2; omega,by omega,?_,?_⟩,?_⟩⟩
  ·have:L.set i (mkC (k+5*(i:Int)))=(markC l.length k).take (i+1)++l.drop (i+1):=by
    have hi2:i<(markC l.length k).length:=by rw [markC_len]; omega
    have hlt':i<l.length:=by omega
    rw [←hL,List.set_append,if_neg (by simp [markC_len]; omega),List.length_take,markC_len,show i - min i l.length=0 by omega,List.drop_eq_getElem_cons hlt',List.set_cons_zero,List.take_succ_eq_append_getElem hi2,List.append_assoc,List.singleton_append]
    have:=markC_gi (n:=l.length) (k:=k) hlt'
    rw [gi_lt hi2] at this
    rw [this]
   rw [this] at e4
   exact e4.ext0 hx2
  ·exact (((((hX.trans (hO.stoX _ _)).trans (e0.stoX _ _)).trans (e1.stoX _ _)).trans (e2.stoX _ _)).trans (e3.stoX _ _)).trans hx2.of_nil
  ·simp only [cntMw,cntM,ctrAt,List.getElem?_cons_zero,List.getElem?_cons_succ]
   omega
 ·have hge:=of_decide_eq_false hge
  have:i=l.length:=by omega
  subst this
  refine fun w2 hx2=>⟨rfl,?_,hX.trans hx2.of_nil⟩
  have e:(markC l.length k).take l.length++l.drop l.length=markC l.length k:=by
   rw [List.drop_length,List.append_nil,List.take_of_length_le (by rw [markC_len]; exact Nat.le_refl _)]
  rw [e] at hO
  exact hO.ext0 hx2
theorem k_heldCpuS {n:Nat} {o:Option Addr} {c:Nat} {k:Int} {w:World} {bs:List Nat} (h:RdC bs w o (markC n k)) (hl:n≤1048576) (hk:0≤k) (hk2:k≤100000000000000000) :
  PureX bs Tryz.prog fn_laws_heldCpuS #[.slice o n c,.int .i64 k] w (.int .i64 (k+5*(n:Int))) :=
 p_laws_heldCpuS o n c k fun wr hx=>by
  have h:=(h.ext hx).less (cs:=[]) (by simp)
  refine loop2 n 0 rfl (fun x i=>i≤n∧x=k+5*(i:Int)) ⟨Nat.zero_le _,by simp⟩ fun x i ⟨hi,hx1⟩=>⟨fun hlt => ?_,fun hge => ?_⟩
  ·subst hx1
   have hlt:=of_decide_eq_true hlt
   have hc:=h i (by omega) (by rw [markC_len]; exact hlt)
   have hix:Ix o n (i:Int):=by have:=h.ix encC_c (i:=(i:Int)) (by omega) (by rw [markC_len]; exact hlt); rwa [markC_len] at this
   rw [markC_gi (by omega)] at hc
   refine ⟨hix,_,hc.1,by decide,fun hb=>by simp [mkC] at hb,fun _=>⟨⟨by omega,by omega⟩,hix,_,hc.2.1,fun hb=>by simp [mkC] at hb,fun _=>⟨⟨by omega,by omega⟩,hix,_,hc.2.2.1,fun hb=>by simp [mkC] at hb,fun _=>⟨⟨by omega,by omega⟩,hix,_,hc.2.2.2.1,fun hb=>by simp [mkC] at hb,fun _=>⟨⟨by omega,by omega⟩,hix,_,hc.2.2.2.2,fun hb=>by simp [mkC] at hb,fun _=>⟨⟨by omega,by omega⟩,⟨by omega,by omega⟩,loop2_next (by omega) ⟨by omega,by omega⟩⟩⟩⟩⟩⟩⟩
  ·have hge:=of_decide_eq_false hge
   have:i=n:=by omega
   subst this
   rw [hx1]
def mkT (k:Int):Tsk:=⟨k,k+1,k+1+1,k+1+1+1,k+1+1+1+1,k+1+1+1+1+1,k+1+1+1+1+1+1,k+1+1+1+1+1+1+1,k+1+1+1+1+1+1+1+1⟩
def markT (n:Nat) (k:Int):List Tsk:=(List.range n).map fun (i:Nat)=>mkT (k+9*(i:Int))
theorem markT_len (n:Nat) (k:Int):(markT n k).length=n:=by simp [markT]
theorem markT_gi {n:Nat} {k:Int} {i:Nat} (h:i<n):gi (markT n k) (i:Int)=mkT (k+9*(i:Int)):=by
 rw [gi_lt (by rw [markT_len]; exact h)]; simp [markT]
theorem k_markTaskS {base:Nat} {l:List Tsk} {o:Option Addr} {c:Nat} {k:Int} {w:World} (h:Own encT 9 ty_impl_Task base w o c l) (hl:l.length≤1048576) (hk:0≤k) (hk2:k≤100000000000000000) :
  Calls Tryz.prog fn_laws_markTaskS #[.slice o l.length c,.int .i64 k] w fun e w'=>e = .returned (.int .i64 (k+9*(l.length:Int)))∧Own encT 9 ty_impl_Task base w' o c (markT l.length k)∧ExtX (blkOf o) w w':=by
 refine (e_laws_markTaskS o l.length c k (R:=fun v w'=>v = .int .i64 (k+9*(l.length:Int))∧Own encT 9 ty_impl_Task base w' o c (markT l.length k)∧ExtX (blkOf o) w w') ?_).mono fun e w' ⟨v,he,hv,h1⟩=>⟨by rw [he,hv],h1⟩
 refine ⟨fun vs w1=>∃(i:Nat),vs=[.int .i64 (k+9*(i:Int)),.int .i64 (i:Int)]∧i≤l.length∧Own encT 9 ty_impl_Task base w1 o c ((markT l.length k).take i++l.drop i)∧ExtX (blkOf o) w w1,cntMw l.length 1,fun wr hx _=>⟨0,by simp,Nat.zero_le _,by simpa using h.ext0 hx,hx.of_nil⟩,?_⟩
 rintro k1 i1 w1 _ ⟨i,he,hi,hO,hX⟩
 simp only [List.cons.injEq,Value.int.injEq,true_and,and_true] at he
 obtain ⟨rfl,rfl⟩:=he
 have hlen:((markT l.length k).take i++l.drop i).length=l.length:=by simp [markT_len]; omega
 refine ⟨fun hlt => ?_,fun hge => ?_⟩
 ·have hlt:=of_decide_eq_true hlt
  have hi':(i:Int)<(((markT l.length k).take i++l.drop i).length:Int):=by rw [hlen]; exact hlt
  have hix:Ix o l.length (i:Int):=by have:=hO.ix (i:=(i:Int)) (by omega) hi'; rwa [hlen] at this
  have hset:∀x,(((markT l.length k).take i++l.drop i).set i x).length=l.length:=fun x=>by rw [List.length_set]; exact hlen
  have hgs:∀x,gi (((markT l.length k).take i++l.drop i).set i x) (i:Int)=x:=fun x=>by
   have:=gi_set ((markT l.length k).take i++l.drop i) x (i:=(i:Int)) (by omega) hi' (j:=(i:Int)) (by omega)
   rw [if_pos rfl,Int.toNat_natCast] at this
   exact this
  have hss:∀x y,(((markT l.length k).take i++l.drop i).set i x).set i y=((markT l.length k).take i++l.drop i).set i y:=fun x y=>by rw [List.set_set]
  generalize hL:(markT l.length k).take i++l.drop i=L at hO hlen hi' hset hgs hss
  have e0:=hO.sto elt_Task.len (i:=(i:Int)) (by omega) hi' (j:=0) (vs:=[.int .i64 (k+9*(i:Int))]) (x:=⟨k+9*(i:Int),(gi L i).group,(gi L i).cpu,(gi L i).nice,(gi L i).mask,(gi L i).v,(gi L i).sum,(gi L i).used,(gi L i).load⟩) rfl (by simp)
  rw [Int.toNat_natCast] at e0
  have e1:=e0.sto elt_Task.len (i:=(i:Int)) (by omega) (by rw [hset]; exact hlt) (j:=1) (vs:=[.int .i64 (k+9*(i:Int)+1)]) (x:=⟨k+9*(i:Int),k+9*(i:Int)+1,(gi L i).cpu,(gi L i).nice,(gi L i).mask,(gi L i).v,(gi L i).sum,(gi L i).used,(gi L i).load⟩) (by rw [hgs]; rfl) (by simp)
  rw [Int.toNat_natCast,hss] at e1
  have e2:=e1.sto elt_Task.len (i:=(i:Int)) (by omega) (by rw [hset]; exact hlt) (j:=2) (vs:=[.int .i64 (k+9*(i:Int)+1+1)]) (x:=⟨k+9*(i:Int),k+9*(i:Int)+1,k+9*(i:Int)+1+1,(gi L i).nice,(gi L i).mask,(gi L i).v,(gi L i).sum,(gi L i).used,(gi L i).load⟩) (by rw [hgs]; rfl) (by simp)
  rw [Int.toNat_natCast,hss] at e2
  have e3:=e2.sto elt_Task.len (i:=(i:Int)) (by omega) (by rw [hset]; exact hlt) (j:=3) (vs:=[.int .i64 (k+9*(i:Int)+1+1+1)]) (x:=⟨k+9*(i:Int),k+9*(i:Int)+1,k+9*(i:Int)+1+1,k+9*(i:Int)+1+1+1,(gi L i).mask,(gi L i).v,(gi L i).sum,(gi L i).used,(gi L i).load⟩) (by rw [hgs]; rfl) (by simp)
  rw [Int.toNat_natCast,hss] at e3
  have e4:=e3.sto elt_Task.len (i:=(i:Int)) (by omega) (by rw [hset]; exact hlt) (j:=4) (vs:=[.int .i64 (k+9*(i:Int)+1+1+1+1)]) (x:=⟨k+9*(i:Int),k+9*(i:Int)+1,k+9*(i:Int)+1+1,k+9*(i:Int)+1+1+1,k+9*(i:Int)+1+1+1+1,(gi L i).v,(gi L i).sum,(gi L i).used,(gi L i).load⟩) (by rw [hgs]; rfl) (by simp)
  rw [Int.toNat_natCast,hss] at e4
  have e5:=e4.sto elt_Task.len (i:=(i:Int)) (by omega) (by rw [hset]; exact hlt) (j:=5) (vs:=[.int .i64 (k+9*(i:Int)+1+1+1+1+1)]) (x:=⟨k+9*(i:Int),k+9*(i:Int)+1,k+9*(i:Int)+1+1,k+9*(i:Int)+1+1+1,k+9*(i:Int)+1+1+1+1,k+9*(i:Int)+1+1+1+1+1,(gi L i).sum,(gi L i).used,(gi L i).load⟩) (by rw [hgs]; rfl) (by simp)
  rw [Int.toNat_natCast,hss] at e5
  have e6:=e5.sto elt_Task.len (i:=(i:Int)) (by omega) (by rw [hset]; exact hlt) (j:=6) (vs:=[.int .i64 (k+9*(i:Int)+1+1+1+1+1+1)]) (x:=⟨k+9*(i:Int),k+9*(i:Int)+1,k+9*(i:Int)+1+1,k+9*(i:Int)+1+1+1,k+9*(i:Int)+1+1+1+1,k+9*(i:Int)+1+1+1+1+1,k+9*(i:Int)+1+1+1+1+1+1,(gi L i).used,(gi L i).load⟩) (by rw [hgs]; rfl) (by simp)
  rw [Int.toNat_natCast,hss] at e6
  have e7:=e6.sto elt_Task.len (i:=(i:Int)) (by omega) (by rw [hset]; exact hlt) (j:=7) (vs:=[.int .i64 (k+9*(i:Int)+1+1+1+1+1+1+1)]) (x:=⟨k+9*(i:Int),k+9*(i:Int)+1,k+9*(i:Int)+1+1,k+9*(i:Int)+1+1+1,k+9*(i:Int)+1+1+1+1,k+9*(i:Int)+1+1+1+1+1,k+9*(i:Int)+1+1+1+1+1+1,k+9*(i:Int)+1+1+1+1+1+1+1,(gi L i).load⟩) (by rw [hgs]; rfl) (by simp)
  rw [Int.toNat_natCast,hss] at e7
  have e8:=e7.sto elt_Task.len (i:=(i:Int)) (by omega) (by rw [hset]; exact hlt) (j:=8) (vs:=[.int .i64 (k+9*(i:Int)+1+1+1+1+1+1+1+1)]) (x:=mkT (k+9*(i:Int))) (by rw [hgs]; rfl) (by simp)
  rw [Int.toNat_natCast,hss] at e8
  refine ⟨hix,hO.wr elt_Task.len (by simp) (by omega) hi' (j:=0) (by decide),⟨by omega,by omega⟩,hix,e0.wr elt_Task.len (by simp) (by omega) (by rw [hset]; exact hlt) (j:=1) (by decide),⟨by omega,by omega⟩,hix,e1.wr elt_Task.len (by simp) (by omega) (by rw [hset]; exact hlt) (j:=2) (by decide),⟨by omega,by omega⟩,hix,e2.wr elt_Task.len (by simp) (by omega) (by rw [hset]; exact hlt) (j:=3) (by decide),⟨by omega,by omega⟩,hix,e3.wr elt_Task.len (by simp) (by omega) (by rw [hset]; exact hlt) (j:=4) (by decide),⟨by omega,by omega⟩,hix,e4.wr elt_Task.len (by simp) (by omega) (by rw [hset]; exact hlt) (j:=5) (by decide),⟨by omega,by omega⟩,hix,e5.wr elt_Task.len (by simp) (by omega) (by rw [hset]; exact hlt) (j:=6) (by decide),⟨by omega,by omega⟩,hix,e6.wr elt_Task.len (by simp) (by omega) (by rw [hset]; exact hlt) (j:=7) (by decide),⟨by omega,by omega⟩,hix,e7.wr elt_Task.len (by simp) (by omega) (by rw [hset]; exact hlt) (j:=8) (by decide),⟨by omega,by omega⟩,⟨by omega,by omega⟩,fun w2 hx2 _=>⟨⟨i+1,by congr 2; omega,by omega,?_,?_⟩,?_⟩⟩
  ·have:L.set i (mkT (k+9*(i:Int)))=(markT l.length k).take (i+1)++l.drop (i+1):=by
    have hi2:i<(markT l.length k).length:=by rw [markT_len]; omega
    have hlt':i<l.length:=by omega
    rw [←hL,List.set_append,if_neg (by simp [markT_len]; omega),List.length_take,markT_len,show i - min i l.length=0 by omega,List.drop_eq_getElem_cons hlt',List.set_cons_zero,List.take_succ_eq_append_getElem hi2,List.append_assoc,List.singleton_append]
    have:=markT_gi (n:=l.length) (k:=k) hlt'
    rw [gi_lt hi2] at this
    rw [this]
   rw [this] at e8
   exact e8.ext0 hx2
  ·exact (((((((((hX.trans (hO.stoX _ _)).trans (e0.stoX _ _)).trans (e1.stoX _ _)).trans (e2.stoX _ _)).trans (e3.stoX _ _)).trans (e4.stoX _ _)).trans (e5.stoX _ _)).trans (e6.stoX _ _)).trans (e7.stoX _ _)).trans hx2.of_nil
  ·simp only [cntMw,cntM,ctrAt,List.getElem?_cons_zero,List.getElem?_cons_succ]
   omega
 ·have hge:=of_decide_eq_false hge
  have:i=l.length:=by omega
  subst this
  refine fun w2 hx2=>⟨rfl,?_,hX.trans hx2.of_nil⟩
  have e:(markT l.length k).take l.length++l.drop l.length=markT l.length k:=by
   rw [List.drop_length,List.append_nil,List.take_of_length_le (by rw [markT_len]; exact Nat.le_refl _)]
  rw [e] at hO
  exact hO.ext0 hx2
theorem k_heldTaskS {n:Nat} {o:Option Addr} {c:Nat} {k:Int} {w:World} {bs:List Nat} (h:RdT bs w o (markT n k)) (hl:n≤1048576) (hk:0≤k) (hk2:k≤100000000000000000) :
  PureX bs Tryz.prog fn_laws_heldTaskS #[.slice o n c,.int .i64 k] w (.int .i64 (k+9*(n:Int))) :=
 p_laws_heldTaskS o n c k fun wr hx=>by
  have h:=(h.ext hx).less (cs:=[]) (by simp)
  refine loop2 n 0 rfl (fun x i=>i≤n∧x=k+9*(i:Int)) ⟨Nat.zero_le _,by simp⟩ fun x i ⟨hi,hx1⟩=>⟨fun hlt => ?_,fun hge => ?_⟩
  ·subst hx1
   have hlt:=of_decide_eq_true hlt
   have hc:=h i (by omega) (by rw [markT_len]; exact hlt)
   have hix:Ix o n (i:Int):=by have:=h.ix encT_c (i:=(i:Int)) (by omega) (by rw [markT_len]; exact hlt); rwa [markT_len] at this
   rw [markT_gi (by omega)] at hc
   refine ⟨hix,_,hc.1,fun hb=>by simp [mkT] at hb,fun _=>⟨⟨by omega,by omega⟩,hix,_,hc.2.1,fun hb=>by simp [mkT] at hb,fun _=>⟨⟨by omega,by omega⟩,hix,_,hc.2.2.1,fun hb=>by simp [mkT] at hb,fun _=>⟨⟨by omega,by omega⟩,hix,_,hc.2.2.2.1,fun hb=>by simp [mkT] at hb,fun _=>⟨⟨by omega,by omega⟩,hix,_,hc.2.2.2.2.1,fun hb=>by simp [mkT] at hb,fun _=>⟨⟨by omega,by omega⟩,hix,_,hc.2.2.2.2.2.1,fun hb=>by simp [mkT] at hb,fun _=>⟨⟨by omega,by omega⟩,hix,_,hc.2.2.2.2.2.2.1,fun hb=>by simp [mkT] at hb,fun _=>⟨⟨by omega,by omega⟩,hix,_,hc.2.2.2.2.2.2.2.1,fun hb=>by simp [mkT] at hb,fun _=>⟨⟨by omega,by omega⟩,hix,_,hc.2.2.2.2.2.2.2.2,fun hb=>by simp [mkT] at hb,fun _=>⟨⟨by omega,by omega⟩,⟨by omega,by omega⟩,loop2_next (by omega) ⟨by omega,by omega⟩⟩⟩⟩⟩⟩⟩⟩⟩⟩⟩
  ·have hge:=of_decide_eq_false hge
   have:i=n:=by omega
   subst this
   rw [hx1]
def mkI (k:Int):Int:=k
def markI (n:Nat) (k:Int):List Int:=(List.range n).map fun (i:Nat)=>mkI (k+1*(i:Int))
theorem markI_len (n:Nat) (k:Int):(markI n k).length=n:=by simp [markI]
theorem markI_gi {n:Nat} {k:Int} {i:Nat} (h:i<n):gi (markI n k) (i:Int)=mkI (k+1*(i:Int)):=by
 rw [gi_lt (by rw [markI_len]; exact h)]; simp [markI]
theorem k_markIntS {base:Nat} {l:List Int} {o:Option Addr} {c:Nat} {k:Int} {w:World} (h:Own encI 1 ty_int base w o c l) (hl:l.length≤1048576) (hk:0≤k) (hk2:k≤100000000000000000) :
  Calls Tryz.prog fn_laws_markIntS #[.slice o l.length c,.int .i64 k] w fun e w'=>e = .returned (.int .i64 (k+1*(l.length:Int)))∧Own encI 1 ty_int base w' o c (markI l.length k)∧ExtX (blkOf o) w w':=by
 refine (e_laws_markIntS o l.length c k (R:=fun v w'=>v = .int .i64 (k+1*(l.length:Int))∧Own encI 1 ty_int base w' o c (markI l.length k)∧ExtX (blkOf o) w w') ?_).mono fun e w' ⟨v,he,hv,h1⟩=>⟨by rw [he,hv],h1⟩
 refine ⟨fun vs w1=>∃(i:Nat),vs=[.int .i64 (k+1*(i:Int)),.int .i64 (i:Int)]∧i≤l.length∧Own encI 1 ty_int base w1 o c ((markI l.length k).take i++l.drop i)∧ExtX (blkOf o) w w1,cntMw l.length 1,fun wr hx _=>⟨0,by simp,Nat.zero_le _,by simpa using h.ext0 hx,hx.of_nil⟩,?_⟩
 rintro k1 i1 w1 _ ⟨i,he,hi,hO,hX⟩
 simp only [List.cons.injEq,Value.int.injEq,true_and,and_true] at he
 obtain ⟨rfl,rfl⟩:=he
 have hlen:((markI l.length k).take i++l.drop i).length=l.length:=by simp [markI_len]; omega
 refine ⟨fun hlt => ?_,fun hge => ?_⟩
 ·have hlt:=of_decide_eq_true hlt
  have hi':(i:Int)<(((markI l.length k).take i++l.drop i).length:Int):=by rw [hlen]; exact hlt
  have hix:Ix o l.length (i:Int):=by have:=hO.ix (i:=(i:Int)) (by omega) hi'; rwa [hlen] at this
  have hset:∀x,(((markI l.length k).take i++l.drop i).set i x).length=l.length:=fun x=>by rw [List.length_set]; exact hlen
  have hgs:∀x,gi (((markI l.length k).take i++l.drop i).set i x) (i:Int)=x:=fun x=>by
   have:=gi_set ((markI l.length k).take i++l.drop i) x (i:=(i:Int)) (by omega) hi' (j:=(i:Int)) (by omega)
   rw [if_pos rfl,Int.toNat_natCast] at this
   exact this
  have hss:∀x y,(((markI l.length k).take i++l.drop i).set i x).set i y=((markI l.length k).take i++l.drop i).set i y:=fun x y=>by rw [List.set_set]
  generalize hL:(markI l.length k).take i++l.drop i=L at hO hlen hi' hset hgs hss
  have e0:=hO.sto elt_Int.len (i:=(i:Int)) (by omega) hi' (j:=0) (vs:=[.int .i64 (k+1*(i:Int))]) (x:=mkI (k+1*(i:Int))) rfl (by simp)
  rw [Int.toNat_natCast] at e0
  refine ⟨hix,hO.wr elt_Int.len (by simp) (by omega) hi' (j:=0) (by decide),⟨by omega,by omega⟩,⟨by omega,by omega⟩,fun w2 hx2 _=>⟨⟨i+1,by congr 2; omega,by omega,?_,?_⟩,?_⟩⟩
  ·have:L.set i (mkI (k+1*(i:Int)))=(markI l.length k).take (i+1)++l.drop (i+1):=by
    have hi2:i<(markI l.length k).length:=by rw [markI_len]; omega
    have hlt':i<l.length:=by omega
    rw [←hL,List.set_append,if_neg (by simp [markI_len]; omega),List.length_take,markI_len,show i - min i l.length=0 by omega,List.drop_eq_getElem_cons hlt',List.set_cons_zero,List.take_succ_eq_append_getElem hi2,List.append_assoc,List.singleton_append]
    have:=markI_gi (n:=l.length) (k:=k) hlt'
    rw [gi_lt hi2] at this
    rw [this]
   rw [this] at e0
   exact e0.ext0 hx2
  ·exact (hX.trans (hO.stoX _ _)).trans hx2.of_nil
  ·simp only [cntMw,cntM,ctrAt,List.getElem?_cons_zero,List.getElem?_cons_succ]
   omega
 ·have hge:=of_decide_eq_false hge
  have:i=l.length:=by omega
  subst this
  refine fun w2 hx2=>⟨rfl,?_,hX.trans hx2.of_nil⟩
  have e:(markI l.length k).take l.length++l.drop l.length=markI l.length k:=by
   rw [List.drop_length,List.append_nil,List.take_of_length_le (by rw [markI_len]; exact Nat.le_refl _)]
  rw [e] at hO
  exact hO.ext0 hx2
theorem k_heldIntS {n:Nat} {o:Option Addr} {c:Nat} {k:Int} {w:World} {bs:List Nat} (h:RdI bs w o (markI n k)) (hl:n≤1048576) (hk:0≤k) (hk2:k≤100000000000000000) :
  PureX bs Tryz.prog fn_laws_heldIntS #[.slice o n c,.int .i64 k] w (.int .i64 (k+1*(n:Int))) :=
 p_laws_heldIntS o n c k fun wr hx=>by
  have h:=(h.ext hx).less (cs:=[]) (by simp)
  refine loop2 n 0 rfl (fun x i=>i≤n∧x=k+1*(i:Int)) ⟨Nat.zero_le _,by simp⟩ fun x i ⟨hi,hx1⟩=>⟨fun hlt => ?_,fun hge => ?_⟩
  ·subst hx1
   have hlt:=of_decide_eq_true hlt
   have hc:=h i (by omega) (by rw [markI_len]; exact hlt)
   have hix:Ix o n (i:Int):=by have:=h.ix encI_c (i:=(i:Int)) (by omega) (by rw [markI_len]; exact hlt); rwa [markI_len] at this
   rw [markI_gi (by omega)] at hc
   refine ⟨hix,_,hc,fun hb=>by simp [mkI] at hb,fun _=>⟨⟨by omega,by omega⟩,⟨by omega,by omega⟩,loop2_next (by omega) ⟨by omega,by omega⟩⟩⟩
  ·have hge:=of_decide_eq_false hge
   have:i=n:=by omega
   subst this
   rw [hx1]
def mkB (k:Int):Bool:=Int.tmod (k) 3==0
def markB (n:Nat) (k:Int):List Bool:=(List.range n).map fun (i:Nat)=>mkB (k+1*(i:Int))
theorem markB_len (n:Nat) (k:Int):(markB n k).length=n:=by simp [markB]
theorem markB_gi {n:Nat} {k:Int} {i:Nat} (h:i<n):gi (markB n k) (i:Int)=mkB (k+1*(i:Int)):=by
 rw [gi_lt (by rw [markB_len]; exact h)]; simp [markB]
theorem k_markBoolS {base:Nat} {l:List Bool} {o:Option Addr} {c:Nat} {k:Int} {w:World} (h:Own encB 1 ty_bool base w o c l) (hl:l.length≤1048576) (hk:0≤k) (hk2:k≤100000000000000000) :
  Calls Tryz.prog fn_laws_markBoolS #[.slice o l.length c,.int .i64 k] w fun e w'=>e = .returned (.int .i64 (k+1*(l.length:Int)))∧Own encB 1 ty_bool base w' o c (markB l.length k)∧ExtX (blkOf o) w w':=by
 refine (e_laws_markBoolS o l.length c k (R:=fun v w'=>v = .int .i64 (k+1*(l.length:Int))∧Own encB 1 ty_bool base w' o c (markB l.length k)∧ExtX (blkOf o) w w') ?_).mono fun e w' ⟨v,he,hv,h1⟩=>⟨by rw [he,hv],h1⟩
 refine ⟨fun vs w1=>∃(i:Nat),vs=[.int .i64 (k+1*(i:Int)),.int .i64 (i:Int)]∧i≤l.length∧Own encB 1 ty_bool base w1 o c ((markB l.length k).take i++l.drop i)∧ExtX (blkOf o) w w1,cntMw l.length 1,fun wr hx _=>⟨0,by simp,Nat.zero_le _,by simpa using h.ext0 hx,hx.of_nil⟩,?_⟩
 rintro k1 i1 w1 _ ⟨i,he,hi,hO,hX⟩
 simp only [List.cons.injEq,Value.int.injEq,true_and,and_true] at he
 obtain ⟨rfl,rfl⟩:=he
 have hlen:((markB l.length k).take i++l.drop i).length=l.length:=by simp [markB_len]; omega
 refine ⟨fun hlt => ?_,fun hge => ?_⟩
 ·have hlt:=of_decide_eq_true hlt
  have hi':(i:Int)<(((markB l.length k).take i++l.drop i).length:Int):=by rw [hlen]; exact hlt
  have hix:Ix o l.length (i:Int):=by have:=hO.ix (i:=(i:Int)) (by omega) hi'; rwa [hlen] at this
  have hset:∀x,(((markB l.length k).take i++l.drop i).set i x).length=l.length:=fun x=>by rw [List.length_set]; exact hlen
  have hgs:∀x,gi (((markB l.length k).take i++l.drop i).set i x) (i:Int)=x:=fun x=>by
   have:=gi_set ((markB l.length k).take i++l.drop i) x (i:=(i:Int)) (by omega) hi' (j:=(i:Int)) (by omega)
   rw [if_pos rfl,Int.toNat_natCast] at this
   exact this
  have hss:∀x y,(((markB l.length k).take i++l.drop i).set i x).set i y=((markB l.length k).take i++l.drop i).set i y:=fun x y=>by rw [List.set_set]
  generalize hL:(markB l.length k).take i++l.drop i=L at hO hlen hi' hset hgs hss
  have e0:=hO.sto elt_Bool.len (i:=(i:Int)) (by omega) hi' (j:=0) (vs:=[.bool (Int.tmod (k+1*(i:Int)) 3==0)]) (x:=mkB (k+1*(i:Int))) rfl (by simp)
  rw [Int.toNat_natCast] at e0
  refine ⟨by decide,hix,hO.wr elt_Bool.len (by simp) (by omega) hi' (j:=0) (by decide),⟨by omega,by omega⟩,⟨by omega,by omega⟩,fun w2 hx2 _=>⟨⟨i+1,by congr 2; omega,by omega,?_,?_⟩,?_⟩⟩
  ·have:L.set i (mkB (k+1*(i:Int)))=(markB l.length k).take (i+1)++l.drop (i+1):=by
    have hi2:i<(markB l.length k).length:=by rw [markB_len]; omega
    have hlt':i<l.length:=by omega
    rw [←hL,List.set_append,if_neg (by simp [markB_len]; omega),List.length_take,markB_len,show i - min i l.length=0 by omega,List.drop_eq_getElem_cons hlt',List.set_cons_zero,List.take_succ_eq_append_getElem hi2,List.append_assoc,List.singleton_append]
    have:=markB_gi (n:=l.length) (k:=k) hlt'
    rw [gi_lt hi2] at this
    rw [this]
   rw [this] at e0
   exact e0.ext0 hx2
  ·exact (hX.trans (hO.stoX _ _)).trans hx2.of_nil
  ·simp only [cntMw,cntM,ctrAt,List.getElem?_cons_zero,List.getElem?_cons_succ]
   omega
 ·have hge:=of_decide_eq_false hge
  have:i=l.length:=by omega
  subst this
  refine fun w2 hx2=>⟨rfl,?_,hX.trans hx2.of_nil⟩
  have e:(markB l.length k).take l.length++l.drop l.length=markB l.length k:=by
   rw [List.drop_length,List.append_nil,List.take_of_length_le (by rw [markB_len]; exact Nat.le_refl _)]
  rw [e] at hO
  exact hO.ext0 hx2
theorem k_heldBoolS {n:Nat} {o:Option Addr} {c:Nat} {k:Int} {w:World} {bs:List Nat} (h:RdB bs w o (markB n k)) (hl:n≤1048576) (hk:0≤k) (hk2:k≤100000000000000000) :
  PureX bs Tryz.prog fn_laws_heldBoolS #[.slice o n c,.int .i64 k] w (.int .i64 (k+1*(n:Int))) :=
 p_laws_heldBoolS o n c k fun wr hx=>by
  have h:=(h.ext hx).less (cs:=[]) (by simp)
  refine loop2 n 0 rfl (fun x i=>i≤n∧x=k+1*(i:Int)) ⟨Nat.zero_le _,by simp⟩ fun x i ⟨hi,hx1⟩=>⟨fun hlt => ?_,fun hge => ?_⟩
  ·subst hx1
   have hlt:=of_decide_eq_true hlt
   have hc:=h i (by omega) (by rw [markB_len]; exact hlt)
   have hix:Ix o n (i:Int):=by have:=h.ix encB_c (i:=(i:Int)) (by omega) (by rw [markB_len]; exact hlt); rwa [markB_len] at this
   rw [markB_gi (by omega)] at hc
   refine ⟨hix,_,hc,by decide,fun hb=>by simp [mkB] at hb,fun _=>⟨⟨by omega,by omega⟩,⟨by omega,by omega⟩,loop2_next (by omega) ⟨by omega,by omega⟩⟩⟩
  ·have hge:=of_decide_eq_false hge
   have:i=n:=by omega
   subst this
   rw [hx1]
def mkS (k:Int):Shf:=⟨k,Int.tmod (k+1) 3==0,k+1+1,k+1+1+1,k+1+1+1+1⟩
def markS (n:Nat) (k:Int):List Shf:=(List.range n).map fun (i:Nat)=>mkS (k+5*(i:Int))
theorem markS_len (n:Nat) (k:Int):(markS n k).length=n:=by simp [markS]
theorem markS_gi {n:Nat} {k:Int} {i:Nat} (h:i<n):gi (markS n k) (i:Int)=mkS (k+5*(i:Int)):=by
 rw [gi_lt (by rw [markS_len]; exact h)]; simp [markS]
theorem k_markShelfS {base:Nat} {l:List Shf} {o:Option Addr} {c:Nat} {k:Int} {w:World} (h:Own encS 5 ty_impl_Shelf base w o c l) (hl:l.length≤1048576) (hk:0≤k) (hk2:k≤100000000000000000) :
  Calls Tryz.prog fn_laws_markShelfS #[.slice o l.length c,.int .i64 k] w fun e w'=>e = .returned (.int .i64 (k+5*(l.length:Int)))∧Own encS 5 ty_impl_Shelf base w' o c (markS l.length k)∧ExtX (blkOf o) w w':=by
 refine (e_laws_markShelfS o l.length c k (R:=fun v w'=>v = .int .i64 (k+5*(l.length:Int))∧Own encS 5 ty_impl_Shelf base w' o c (markS l.length k)∧ExtX (blkOf o) w w') ?_).mono fun e w' ⟨v,he,hv,h1⟩=>⟨by rw [he,hv],h1⟩
 refine ⟨fun vs w1=>∃(i:Nat),vs=[.int .i64 (k+5*(i:Int)),.int .i64 (i:Int)]∧i≤l.length∧Own encS 5 ty_impl_Shelf base w1 o c ((markS l.length k).take i++l.drop i)∧ExtX (blkOf o) w w1,cntMw l.length 1,fun wr hx _=>⟨0,by simp,Nat.zero_le _,by simpa using h.ext0 hx,hx.of_nil⟩,?_⟩
 rintro k1 i1 w1 _ ⟨i,he,hi,hO,hX⟩
 simp only [List.cons.injEq,Value.int.injEq,true_and,and_true] at he
 obtain ⟨rfl,rfl⟩:=he
 have hlen:((markS l.length k).take i++l.drop i).length=l.length:=by simp [markS_len]; omega
 refine ⟨fun hlt => ?_,fun hge => ?_⟩
 ·have hlt:=of_decide_eq_true hlt
  have hi':(i:Int)<(((markS l.length k).take i++l.drop i).length:Int):=by rw [hlen]; exact hlt
  have hix:Ix o l.length (i:Int):=by have:=hO.ix (i:=(i:Int)) (by omega) hi'; rwa [hlen] at this
  have hset:∀x,(((markS l.length k).take i++l.drop i).set i x).length=l.length:=fun x=>by rw [List.length_set]; exact hlen
  have hgs:∀x,gi (((markS l.length k).take i++l.drop i).set i x) (i:Int)=x:=fun x=>by
   have:=gi_set ((markS l.length k).take i++l.drop i) x (i:=(i:Int)) (by omega) hi' (j:=(i:Int)) (by omega)
   rw [if_pos rfl,Int.toNat_natCast] at this
   exact this
  have hss:∀x y,(((markS l.length k).take i++l.drop i).set i x).set i y=((markS l.length k).take i++l.drop i).set i y:=fun x y=>by rw [List.set_set]
  generalize hL:(markS l.length k).take i++l.drop i=L at hO hlen hi' hset hgs hss
  have e0:=hO.sto elt_Shelf.len (i:=(i:Int)) (by omega) hi' (j:=0) (vs:=[.int .i64 (k+5*(i:Int))]) (x:=⟨k+5*(i:Int),(gi L i).on,(gi L i).v,(gi L i).w,(gi L i).sum⟩) rfl (by simp)
  rw [Int.toNat_natCast] at e0
  have e1:=e0.sto elt_Shelf.len (i:=(i:Int)) (by omega) (by rw [hset]; exact hlt) (j:=1) (vs:=[.bool (Int.tmod (k+5*(i:Int)+1) 3==0)]) (x:=⟨k+5*(i:Int),Int.tmod (k+5*(i:Int)+1) 3==0,(gi L i).v,(gi L i).w,(gi L i).sum⟩) (by rw [hgs]; rfl) (by simp)
  rw [Int.toNat_natCast,hss] at e1
  have e2:=e1.sto elt_Shelf.len (i:=(i:Int)) (by omega) (by rw [hset]; exact hlt) (j:=2) (vs:=[.int .i64 (k+5*(i:Int)+1+1)]) (x:=⟨k+5*(i:Int),Int.tmod (k+5*(i:Int)+1) 3==0,k+5*(i:Int)+1+1,(gi L i).w,(gi L i).sum⟩) (by rw [hgs]; rfl) (by simp)
  rw [Int.toNat_natCast,hss] at e2
  have e3:=e2.sto elt_Shelf.len (i:=(i:Int)) (by omega) (by rw [hset]; exact hlt) (j:=3) (vs:=[.int .i64 (k+5*(i:Int)+1+1+1)]) (x:=⟨k+5*(i:Int),Int.tmod (k+5*(i:Int)+1) 3==0,k+5*(i:Int)+1+1,k+5*(i:Int)+1+1+1,(gi L i).sum⟩) (by rw [hgs]; rfl) (by simp)
  rw [Int.toNat_natCast,hss] at e3
  have e4:=e3.sto elt_Shelf.len (i:=(i:Int)) (by omega) (by rw [hset]; exact hlt) (j:=4) (vs:=[.int .i64 (k+5*(i:Int)+1+1+1+1)]) (x:=mkS (k+5*(i:Int))) (by rw [hgs]; rfl) (by simp)
  rw [Int.toNat_natCast,hss] at e4
  refine ⟨hix,hO.wr elt_Shelf.len (by simp) (by omega) hi' (j:=0) (by decide),⟨by omega,by omega⟩,by decide,hix,e0.wr elt_Shelf.len (by simp) (by omega) (by rw [hset]; exact hlt) (j:=1) (by decide),⟨by omega,by omega⟩,hix,e1.wr elt_Shelf.len (by simp) (by omega) (by rw [hset]; exact hlt) (j:=2) (by decide),⟨by omega,by omega⟩,hix,e2.wr elt_Shelf.len (by simp) (by omega) (by rw [hset]; exact hlt) (j:=3) (by decide),⟨by omega,by omega⟩,hix,e3.wr elt_Shelf.len (by simp) (by omega) (by rw [hset]; exact hlt) (j:=4) (by decide),⟨by omega,by omega⟩,⟨by omega,by omega⟩,fun w2 hx2 _=>⟨⟨i+1,by congr 2; omega,by omega,?_,?_⟩,?_⟩⟩
  ·have:L.set i (mkS (k+5*(i:Int)))=(markS l.length k).take (i+1)++l.drop (i+1):=by
    have hi2:i<(markS l.length k).length:=by rw [markS_len]; omega
    have hlt':i<l.length:=by omega
    rw [←hL,List.set_append,if_neg (by simp [markS_len]; omega),List.length_take,markS_len,show i - min i l.length=0 by omega,List.drop_eq_getElem_cons hlt',List.set_cons_zero,List.take_succ_eq_append_getElem hi2,List.append_assoc,List.singleton_append]
    have:=markS_gi (n:=l.length) (k:=k) hlt'
    rw [gi_lt hi2] at this
    rw [this]
   rw [this] at e4
   exact e4.ext0 hx2
  ·exact (((((hX.trans (hO.stoX _ _)).trans (e0.stoX _ _)).trans (e1.stoX _ _)).trans (e2.stoX _ _)).trans (e3.stoX _ _)).trans hx2.of_nil
  ·simp only [cntMw,cntM,ctrAt,List.getElem?_cons_zero,List.getElem?_cons_succ]
   omega
 ·have hge:=of_decide_eq_false hge
  have:i=l.length:=by omega
  subst this
  refine fun w2 hx2=>⟨rfl,?_,hX.trans hx2.of_nil⟩
  have e:(markS l.length k).take l.length++l.drop l.length=markS l.length k:=by
   rw [List.drop_length,List.append_nil,List.take_of_length_le (by rw [markS_len]; exact Nat.le_refl _)]
  rw [e] at hO
  exact hO.ext0 hx2
theorem k_heldShelfS {n:Nat} {o:Option Addr} {c:Nat} {k:Int} {w:World} {bs:List Nat} (h:RdS bs w o (markS n k)) (hl:n≤1048576) (hk:0≤k) (hk2:k≤100000000000000000) :
  PureX bs Tryz.prog fn_laws_heldShelfS #[.slice o n c,.int .i64 k] w (.int .i64 (k+5*(n:Int))) :=
 p_laws_heldShelfS o n c k fun wr hx=>by
  have h:=(h.ext hx).less (cs:=[]) (by simp)
  refine loop2 n 0 rfl (fun x i=>i≤n∧x=k+5*(i:Int)) ⟨Nat.zero_le _,by simp⟩ fun x i ⟨hi,hx1⟩=>⟨fun hlt => ?_,fun hge => ?_⟩
  ·subst hx1
   have hlt:=of_decide_eq_true hlt
   have hc:=h i (by omega) (by rw [markS_len]; exact hlt)
   have hix:Ix o n (i:Int):=by have:=h.ix encS_c (i:=(i:Int)) (by omega) (by rw [markS_len]; exact hlt); rwa [markS_len] at this
   rw [markS_gi (by omega)] at hc
   refine ⟨hix,_,hc.1,fun hb=>by simp [mkS] at hb,fun _=>⟨⟨by omega,by omega⟩,hix,_,hc.2.1,by decide,fun hb=>by simp [mkS] at hb,fun _=>⟨⟨by omega,by omega⟩,hix,_,hc.2.2.1,fun hb=>by simp [mkS] at hb,fun _=>⟨⟨by omega,by omega⟩,hix,_,hc.2.2.2.1,fun hb=>by simp [mkS] at hb,fun _=>⟨⟨by omega,by omega⟩,hix,_,hc.2.2.2.2,fun hb=>by simp [mkS] at hb,fun _=>⟨⟨by omega,by omega⟩,⟨by omega,by omega⟩,loop2_next (by omega) ⟨by omega,by omega⟩⟩⟩⟩⟩⟩⟩
  ·have hge:=of_decide_eq_false hge
   have:i=n:=by omega
   subst this
   rw [hx1]
end Go.Proofs.YthhmnlcimojhlaaGreatDoor
