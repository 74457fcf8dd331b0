/- Part 15 of what the law FnYield needs: the engine, the functions' propositions, the contracts. -/
import Derived.Test.YtnclplgaicdapaaGreatDoorFnYieldPn
import Derived.Test.YtnclplgaicdapaaGreatDoorRows
import Derived.ChangeSame
import Derived.ChangeVars
import Derived.JoinedOf
import Derived.LaidLaws
import Derived.LaidHandle
import Derived.Stop.Joined
namespace Go.Proofs.YtnclplgaicdapaaGreatDoor
open Go.ChangeShapes Go.WideShapes Go.RowKit
set_option linter.unusedVariables false
set_option linter.unusedSimpArgs false
set_option maxRecDepth 100000
set_option maxHeartbeats 8000000
abbrev laidE : List (String × DataW Unit) := [("errors.errorType", Rows.laid_errors_errorType)]
theorem zq5 : Tryz.prog.globalNamed "errors.errorType" = some 0 := by kernel_rfl
theorem zq6 : (Tryz.prog.cutTypes.find? (·.1 == "internal/reflectlite.rtype")).map (·.2) = some 174 := by kernel_rfl
theorem zlv:Tryz.prog.types.size=243:=by kernel_rfl
theorem zfn:((List.range 243).filter fun t=>Tryz.prog.rowNamed t [101,114,114,111,114])=[67]:=by kernel_rfl
theorem zfm:typeHandle Tryz.prog 67=.pointer (some ⟨1,67,none⟩):=by kernel_rfl
theorem glob_of_laid{W:Wo}(h:laidMetH Tryz.prog laidE W):PC W:=by
 have h':laidMet Tryz.prog [] W/\handlesMet Tryz.prog laidE W:=h;obtain⟨name,u,ty,e1,e2,e3,e4,e5⟩:=h'.2 _ (List.mem_singleton.2 rfl);have en:name=[101,114,114,111,114]:=(Option.some.inj e1).symm;subst en;obtain rfl:=Option.some.inj (zq6.symm.trans e2);have hm:ty∈(List.range 243).filter fun t=>Tryz.prog.rowNamed t [101,114,114,111,114]:=List.mem_filter.2 ⟨List.mem_range.2 (by rw[<-zlv]; exact e3),e4⟩
 rw[zfn] at hm;obtain rfl:=List.mem_singleton.1 hm;rw[zfm] at e5;unfold PC
 simpa using World.var?_cell zq5 e5 0
noncomputable def laidWorld(os:Os):Wo:=
 let w0:=World.holding Tryz.prog os ⟨#[],#[],[]⟩
 { w0 with heap:=w0.heap.modify 0 fun
   | .cells _ t frozen=>.cells #[.iface 174 (.agg #[.pointer (some ⟨1,67,none⟩)])] t frozen
   | o=>o }
theorem laidWorld_met(os:Os)(args:Array Va):laidMetH Tryz.prog laidE ((laidWorld os).forCall (fun _ _=>0) ⟨#[],args,[]⟩).memory:=
 laidMetH_of_parts (laidMet_nil _ _) (by kernel_rfl)
end Go.Proofs.YtnclplgaicdapaaGreatDoor
namespace Go.Proofs.YtnclplgaicdapaaGreatDoor
open Go.RowKit
set_option linter.unusedVariables false
set_option linter.unusedSimpArgs false
set_option maxRecDepth 10000
set_option maxHeartbeats 8000000
def zgf(k:Int):OY:=⟨Int.tmod (k) 3==0,k+1,k+1+1,k+1+1+1,k+1+1+1+1⟩
end Go.Proofs.YtnclplgaicdapaaGreatDoor
