/- Part 11 of what the law FnParts needs. -/
import Derived.Test.YtjinkcmkgnofjaaGreatDoorFnPartsPj
import Derived.Test.YtjinkcmkgnofjaaGreatDoorRows
import Derived.ChangeSame
import Derived.ChangeVars
import Derived.JoinedOf
import Derived.LaidLaws
import Derived.LaidHandle
import Derived.Stop.Joined
set_option linter.all false
set_option maxRecDepth 100000
set_option maxHeartbeats 8000000
namespace Go.Proofs.YtjinkcmkgnofjaaGreatDoor
open Go.RowKit
section
open Go.ChangeShapes Go.WideShapes Go.RowKit
abbrev laidE : List (String × DataW Unit) := [("errors.errorType", Rows.laid_errors_errorType)]
def z06 : Tryz.prog.globalNamed "errors.errorType" = some 0 := by kernel_rfl
def z07 : (Tryz.prog.cutTypes.find? (·.1 == "internal/reflectlite.rtype")).map (·.2) = some 158 := by kernel_rfl
def zud:Tryz.prog.types.size=218:=Qk
def znd:((List.range 218).filter λt=>Tryz.prog.rowNamed t [101,114,114,111,114])=[84]:=Qk
def znc:typeHandle Tryz.prog 84=.pointer (some ⟨1,84,none⟩):=Qk
def glob_of_laid{W:Wo}(h:laidMetH Tryz.prog laidE W):K6 W:=by
 have h':laidMet Tryz.prog [] W/\handlesMet Tryz.prog laidE W:=h;obtain⟨name,u,ty,e1,e2,e3,e4,e5⟩:=h'.2 _ (IA.2 rfl);have en:name=[101,114,114,111,114]:=(Option.some.inj e1).symm;subst en;obtain rfl:=Option.some.inj (z07.symm.trans e2);have hm:ty∈(List.range 218).filter λt=>Tryz.prog.rowNamed t [101,114,114,111,114]:=List.mem_filter.2 ⟨List.mem_range.2 (by rw[<-zud];exact e3),e4⟩
 rw[znd] at hm;obtain rfl:=IA.1 hm;rw[znc] at e5;unfold K6
 simpa using World.var?_cell z06 e5 0
noncomputable def laidWorld(os:Os):Wo:=
 let w0:=World.holding Tryz.prog os ⟨#[],#[],[]⟩
 { w0 with heap:=w0.heap.modify 0 fun
   |.cells _ t frozen=>.cells #[.iface 158 (.agg #[.pointer (some ⟨1,84,none⟩)])] t frozen
   |o=>o }
def laidWorld_met(os:Os)(args:Array Va):laidMetH Tryz.prog laidE ((laidWorld os).forCall (λ_ _=>0) ⟨#[],args,[]⟩).memory:=
 laidMetH_of_parts (laidMet_nil _ _) Qk
end
def TH{a:Array Va}{i j:Nat}{v:Va}(h:i≠j):(a.setIfInBounds i v).getD j undef=a.getD j undef:=by
 rw[Array.getD_eq_getD_getElem?,Array.getD_eq_getD_getElem?,Array.getElem?_setIfInBounds_ne h]
def zoa(k:Int):PP:=⟨Int.tmod (k) 3==0,k+1,k+1+1,k+1+1+1,k+1+1+1+1⟩
end Go.Proofs.YtjinkcmkgnofjaaGreatDoor
