/- Part 11 of what the law FnDropEmpty needs. -/
import Derived.Test.YtnclplgaicdapaaGreatDoorFnDropEmptyPj
import Derived.Test.YtnclplgaicdapaaGreatDoorRows
import Derived.ChangeSame
import Derived.ChangeVars
import Derived.JoinedOf
import Derived.LaidLaws
import Derived.LaidHandle
import Derived.Stop.Joined
set_option linter.unusedVariables false
set_option linter.unusedSimpArgs false
set_option maxRecDepth 100000
set_option maxHeartbeats 8000000
namespace Go.Proofs.YtnclplgaicdapaaGreatDoor
open Go.RowKit
section
open Go.ChangeShapes Go.WideShapes Go.RowKit
abbrev laidE : List (String × DataW Unit) := [("errors.errorType", Rows.laid_errors_errorType)]
theorem zry : Tryz.prog.globalNamed "errors.errorType" = some 0 := by kernel_rfl
theorem zrz : (Tryz.prog.cutTypes.find? (·.1 == "internal/reflectlite.rtype")).map (·.2) = some 174 := by kernel_rfl
theorem zmi:Tryz.prog.types.size=243:=Qk
theorem zf8:((List.range 243).filter fun t=>Tryz.prog.rowNamed t [101,114,114,111,114])=[67]:=Qk
theorem zf7:typeHandle Tryz.prog 67=.pointer (some ⟨1,67,none⟩):=Qk
theorem glob_of_laid{W:Wo}(h:laidMetH Tryz.prog laidE W):PL W:=by
 have h':laidMet Tryz.prog [] W/\handlesMet Tryz.prog laidE W:=h;obtain⟨name,u,ty,e1,e2,e3,e4,e5⟩:=h'.2 _ (IA.2 rfl);have en:name=[101,114,114,111,114]:=(Option.some.inj e1).symm;subst en;obtain rfl:=Option.some.inj (zrz.symm.trans e2);have hm:ty∈(List.range 243).filter fun t=>Tryz.prog.rowNamed t [101,114,114,111,114]:=List.mem_filter.2 ⟨List.mem_range.2 (by rw[<-zmi]; exact e3),e4⟩
 rw[zf8] at hm;obtain rfl:=IA.1 hm;rw[zf7] at e5;unfold PL
 simpa using World.var?_cell zry e5 0
noncomputable def laidWorld(os:Os):Wo:=
 let w0:=World.holding Tryz.prog os ⟨#[],#[],[]⟩
 { w0 with heap:=w0.heap.modify 0 fun
   | .cells _ t frozen=>.cells #[.iface 174 (.agg #[.pointer (some ⟨1,67,none⟩)])] t frozen
   | o=>o }
theorem laidWorld_met(os:Os)(args:Array Va):laidMetH Tryz.prog laidE ((laidWorld os).forCall (fun _ _=>0) ⟨#[],args,[]⟩).memory:=
 laidMetH_of_parts (laidMet_nil _ _) Qk
end
def zg2(k:Int):Pf:=⟨Int.tmod (k) 3==0,k+1,k+1+1,k+1+1+1,k+1+1+1+1⟩
end Go.Proofs.YtnclplgaicdapaaGreatDoor
