/- Part 8 of what the law FnExactTaskWake needs: the engine, the functions' propositions, the contracts. -/
import Derived.Test.YtajdcjidpolloaaGreatDoorFnExactTaskWakePg
namespace Go.Proofs.YtajdcjidpolloaaGreatDoor
open Go.RowKit
set_option linter.unusedVariables false
set_option maxRecDepth 100000
set_option maxHeartbeats 1600000
def V_laws_markGroupS (aO:Option Addr) (aL aC:Nat) (k:Int) (w:World) (R:Value→World→Prop):Prop :=
 (∃(xInv:List Value→World→Prop) (mu:List Value→World→Nat),(∀wr,ExtX [] w wr→(∀bq∈([]:List Nat),bq<wr.heap.size)→xInv [.int .i64 k,.int .i64 0] wr) ∧
 ∀(k1 i:Int) wv,(∀bq∈([]:List Nat),bq<wv.heap.size)→xInv [.int .i64 k1,.int .i64 i] wv →
 ((decide (i<(aL:Int)))=true →
 (3:Int)≠0 ∧
 Ix aO aL i ∧
 WrX [] wv aO (Int.toNat i*14+0) 1 ∧
 InR .i64 (k1+1) ∧
 Ix aO aL i ∧
 WrX [] (sto wv aO (Int.toNat i*14+0) [.bool ((Int.tmod k1 3)==0)]) aO (Int.toNat i*14+1) 1 ∧
 InR .i64 ((k1+1)+1) ∧
 (∃(markTe:ByteArray),
 PureX [] Tryz.prog fn_laws_markText #[.int .i64 ((k1+1)+1)] (sto (sto wv aO (Int.toNat i*14+0) [.bool ((Int.tmod k1 3)==0)]) aO (Int.toNat i*14+1) [.int .i64 (k1+1)]) (.string markTe) ∧
 Ix aO aL i ∧
 WrX [] (sto (sto wv aO (Int.toNat i*14+0) [.bool ((Int.tmod k1 3)==0)]) aO (Int.toNat i*14+1) [.int .i64 (k1+1)]) aO (Int.toNat i*14+2) 1 ∧
 InR .i64 (((k1+1)+1)+1) ∧
 Ix aO aL i ∧
 WrX [] (sto (sto (sto wv aO (Int.toNat i*14+0) [.bool ((Int.tmod k1 3)==0)]) aO (Int.toNat i*14+1) [.int .i64 (k1+1)]) aO (Int.toNat i*14+2) [.string markTe]) aO (Int.toNat i*14+3) 1 ∧
 InR .i64 ((((k1+1)+1)+1)+1) ∧
 Ix aO aL i ∧
 WrX [] (sto (sto (sto (sto wv aO (Int.toNat i*14+0) [.bool ((Int.tmod k1 3)==0)]) aO (Int.toNat i*14+1) [.int .i64 (k1+1)]) aO (Int.toNat i*14+2) [.string markTe]) aO (Int.toNat i*14+3) [.int .i64 (((k1+1)+1)+1)]) aO (Int.toNat i*14+4) 1 ∧
 InR .i64 (((((k1+1)+1)+1)+1)+1) ∧
 Ix aO aL i ∧
 WrX [] (sto (sto (sto (sto (sto wv aO (Int.toNat i*14+0) [.bool ((Int.tmod k1 3)==0)]) aO (Int.toNat i*14+1) [.int .i64 (k1+1)]) aO (Int.toNat i*14+2) [.string markTe]) aO (Int.toNat i*14+3) [.int .i64 (((k1+1)+1)+1)]) aO (Int.toNat i*14+4) [.int .i64 ((((k1+1)+1)+1)+1)]) aO (Int.toNat i*14+5) 1 ∧
 InR .i64 ((((((k1+1)+1)+1)+1)+1)+1) ∧
 Ix aO aL i ∧
 WrX [] (sto (sto (sto (sto (sto (sto wv aO (Int.toNat i*14+0) [.bool ((Int.tmod k1 3)==0)]) aO (Int.toNat i*14+1) [.int .i64 (k1+1)]) aO (Int.toNat i*14+2) [.string markTe]) aO (Int.toNat i*14+3) [.int .i64 (((k1+1)+1)+1)]) aO (Int.toNat i*14+4) [.int .i64 ((((k1+1)+1)+1)+1)]) aO (Int.toNat i*14+5) [.int .i64 (((((k1+1)+1)+1)+1)+1)]) aO (Int.toNat i*14+6) 1 ∧
 InR .i64 (((((((k1+1)+1)+1)+1)+1)+1)+1) ∧
 Ix aO aL i ∧
 WrX [] (sto (sto (sto (sto (sto (sto (sto wv aO (Int.toNat i*14+0) [.bool ((Int.tmod k1 3)==0)]) aO (Int.toNat i*14+1) [.int .i64 (k1+1)]) aO (Int.toNat i*14+2) [.string markTe]) aO (Int.toNat i*14+3) [.int .i64 (((k1+1)+1)+1)]) aO (Int.toNat i*14+4) [.int .i64 ((((k1+1)+1)+1)+1)]) aO (Int.toNat i*14+5) [.int .i64 (((((k1+1)+1)+1)+1)+1)]) aO (Int.toNat i*14+6) [.int .i64 ((((((k1+1)+1)+1)+1)+1)+1)]) aO (Int.toNat i*14+7) 1 ∧
 InR .i64 ((((((((k1+1)+1)+1)+1)+1)+1)+1)+1) ∧
 Ix aO aL i ∧
 WrX [] (sto (sto (sto (sto (sto (sto (sto (sto wv aO (Int.toNat i*14+0) [.bool ((Int.tmod k1 3)==0)]) aO (Int.toNat i*14+1) [.int .i64 (k1+1)]) aO (Int.toNat i*14+2) [.string markTe]) aO (Int.toNat i*14+3) [.int .i64 (((k1+1)+1)+1)]) aO (Int.toNat i*14+4) [.int .i64 ((((k1+1)+1)+1)+1)]) aO (Int.toNat i*14+5) [.int .i64 (((((k1+1)+1)+1)+1)+1)]) aO (Int.toNat i*14+6) [.int .i64 ((((((k1+1)+1)+1)+1)+1)+1)]) aO (Int.toNat i*14+7) [.int .i64 (((((((k1+1)+1)+1)+1)+1)+1)+1)]) aO (Int.toNat i*14+8+0) 1 ∧
 InR .i64 (((((((((k1+1)+1)+1)+1)+1)+1)+1)+1)+1) ∧
 Ix aO aL i ∧
 WrX [] (sto (sto (sto (sto (sto (sto (sto (sto (sto wv aO (Int.toNat i*14+0) [.bool ((Int.tmod k1 3)==0)]) aO (Int.toNat i*14+1) [.int .i64 (k1+1)]) aO (Int.toNat i*14+2) [.string markTe]) aO (Int.toNat i*14+3) [.int .i64 (((k1+1)+1)+1)]) aO (Int.toNat i*14+4) [.int .i64 ((((k1+1)+1)+1)+1)]) aO (Int.toNat i*14+5) [.int .i64 (((((k1+1)+1)+1)+1)+1)]) aO (Int.toNat i*14+6) [.int .i64 ((((((k1+1)+1)+1)+1)+1)+1)]) aO (Int.toNat i*14+7) [.int .i64 (((((((k1+1)+1)+1)+1)+1)+1)+1)]) aO (Int.toNat i*14+8+0) [.int .i64 ((((((((k1+1)+1)+1)+1)+1)+1)+1)+1)]) aO (Int.toNat i*14+8+1) 1 ∧
 InR .i64 ((((((((((k1+1)+1)+1)+1)+1)+1)+1)+1)+1)+1) ∧
 Ix aO aL i ∧
 WrX [] (sto (sto (sto (sto (sto (sto (sto (sto (sto (sto wv aO (Int.toNat i*14+0) [.bool ((Int.tmod k1 3)==0)]) aO (Int.toNat i*14+1) [.int .i64 (k1+1)]) aO (Int.toNat i*14+2) [.string markTe]) aO (Int.toNat i*14+3) [.int .i64 (((k1+1)+1)+1)]) aO (Int.toNat i*14+4) [.int .i64 ((((k1+1)+1)+1)+1)]) aO (Int.toNat i*14+5) [.int .i64 (((((k1+1)+1)+1)+1)+1)]) aO (Int.toNat i*14+6) [.int .i64 ((((((k1+1)+1)+1)+1)+1)+1)]) aO (Int.toNat i*14+7) [.int .i64 (((((((k1+1)+1)+1)+1)+1)+1)+1)]) aO (Int.toNat i*14+8+0) [.int .i64 ((((((((k1+1)+1)+1)+1)+1)+1)+1)+1)]) aO (Int.toNat i*14+8+1) [.int .i64 (((((((((k1+1)+1)+1)+1)+1)+1)+1)+1)+1)]) aO (Int.toNat i*14+8+2) 1 ∧
 InR .i64 (((((((((((k1+1)+1)+1)+1)+1)+1)+1)+1)+1)+1)+1) ∧
 Ix aO aL i ∧
 (∃localsO localsL localsC,
 CellsX [] (sto (sto (sto (sto (sto (sto (sto (sto (sto (sto (sto wv aO (Int.toNat i*14+0) [.bool ((Int.tmod k1 3)==0)]) aO (Int.toNat i*14+1) [.int .i64 (k1+1)]) aO (Int.toNat i*14+2) [.string markTe]) aO (Int.toNat i*14+3) [.int .i64 (((k1+1)+1)+1)]) aO (Int.toNat i*14+4) [.int .i64 ((((k1+1)+1)+1)+1)]) aO (Int.toNat i*14+5) [.int .i64 (((((k1+1)+1)+1)+1)+1)]) aO (Int.toNat i*14+6) [.int .i64 ((((((k1+1)+1)+1)+1)+1)+1)]) aO (Int.toNat i*14+7) [.int .i64 (((((((k1+1)+1)+1)+1)+1)+1)+1)]) aO (Int.toNat i*14+8+0) [.int .i64 ((((((((k1+1)+1)+1)+1)+1)+1)+1)+1)]) aO (Int.toNat i*14+8+1) [.int .i64 (((((((((k1+1)+1)+1)+1)+1)+1)+1)+1)+1)]) aO (Int.toNat i*14+8+2) [.int .i64 ((((((((((k1+1)+1)+1)+1)+1)+1)+1)+1)+1)+1)]) aO (Int.toNat i*14+8+3) [.slice localsO localsL localsC] ∧
 (∀wr1,ExtX [] (sto (sto (sto (sto (sto (sto (sto (sto (sto (sto (sto wv aO (Int.toNat i*14+0) [.bool ((Int.tmod k1 3)==0)]) aO (Int.toNat i*14+1) [.int .i64 (k1+1)]) aO (Int.toNat i*14+2) [.string markTe]) aO (Int.toNat i*14+3) [.int .i64 (((k1+1)+1)+1)]) aO (Int.toNat i*14+4) [.int .i64 ((((k1+1)+1)+1)+1)]) aO (Int.toNat i*14+5) [.int .i64 (((((k1+1)+1)+1)+1)+1)]) aO (Int.toNat i*14+6) [.int .i64 ((((((k1+1)+1)+1)+1)+1)+1)]) aO (Int.toNat i*14+7) [.int .i64 (((((((k1+1)+1)+1)+1)+1)+1)+1)]) aO (Int.toNat i*14+8+0) [.int .i64 ((((((((k1+1)+1)+1)+1)+1)+1)+1)+1)]) aO (Int.toNat i*14+8+1) [.int .i64 (((((((((k1+1)+1)+1)+1)+1)+1)+1)+1)+1)]) aO (Int.toNat i*14+8+2) [.int .i64 ((((((((((k1+1)+1)+1)+1)+1)+1)+1)+1)+1)+1)]) wr1→(∀bq∈([]:List Nat),bq<wr1.heap.size) →
 Calls Tryz.prog fn_laws_markIntS #[.slice localsO localsL localsC,.int .i64 (((((((((((k1+1)+1)+1)+1)+1)+1)+1)+1)+1)+1)+1)] wr1 fun e wv1 =>
 (∃markIn,
 e = .returned (.int .i64 markIn)∧Kept [] wr1 wv1 ∧
 Ix aO aL i ∧
 (∃dryO dryL dryC,
 CellsX [] wv1 aO (Int.toNat i*14+8+4) [.slice dryO dryL dryC] ∧
 (∀wr2,ExtX [] wv1 wr2→(∀bq∈([]:List Nat),bq<wr2.heap.size) →
 Calls Tryz.prog fn_laws_markBoolS #[.slice dryO dryL dryC,.int .i64 markIn] wr2 fun e1 wv2 =>
 (∃markBo,
 e1 = .returned (.int .i64 markBo)∧Kept [] wr2 wv2 ∧
 Ix aO aL i ∧
 (∃shelvesO shelvesL shelvesC,
 CellsX [] wv2 aO (Int.toNat i*14+13) [.slice shelvesO shelvesL shelvesC] ∧
 (∀wr3,ExtX [] wv2 wr3→(∀bq∈([]:List Nat),bq<wr3.heap.size) →
 Calls Tryz.prog fn_laws_markShelfS #[.slice shelvesO shelvesL shelvesC,.int .i64 markBo] wr3 fun e2 wv3 =>
 (∃markSh,
 e2 = .returned (.int .i64 markSh)∧Kept [] wr3 wv3 ∧
 InR .i64 (i+1) ∧
 (∀wr4,ExtX [] wv3 wr4→(∀bq∈([]:List Nat),bq<wr4.heap.size)→xInv [.int .i64 markSh,.int .i64 (i+1)] wr4∧mu [.int .i64 markSh,.int .i64 (i+1)] wr4<mu [.int .i64 k1,.int .i64 i] wv)))))))))))) ∧
 ((decide (i<(aL:Int)))=false →
 (∀wr5,ExtX [] wv wr5→R (.int .i64 k1) wr5)))
theorem e_laws_markGroupS (aO aL aC k):EfV (V_laws_markGroupS aO aL aC k) fn_laws_markGroupS #[.slice aO aL aC,.int .i64 k]:=eV [] false [(2,⟨[(1,.int .i64),(5,.int .i64)],[],[0],[],[]⟩)] Tryz.func50 (by kernel_rfl) (by kernel_rfl)
def V_laws_markWorld (a0:Int) (a1O:Option Addr) (a1L a1C:Nat) (a2O:Option Addr) (a2L a2C:Nat) (a3O:Option Addr) (a3L a3C:Nat) (k:Int) (w:World) (R:Value→World→Prop):Prop :=
 (∀b,w.heap.size≤b →
 (∀wr,ExtX [] w wr→(∀bq∈([b]:List Nat),bq<wr.heap.size) →
 Calls Tryz.prog fn_laws_markCpuS #[.slice a1O a1L a1C,.int .i64 k] wr fun e wv =>
 (∃markCp,
 e = .returned (.int .i64 markCp)∧Kept [b] wr wv ∧
 (∀wr1,ExtX [b] wv wr1→(∀bq∈([b]:List Nat),bq<wr1.heap.size) →
 Calls Tryz.prog fn_laws_markTaskS #[.slice a2O a2L a2C,.int .i64 markCp] wr1 fun e1 wv1 =>
 (∃markTa,
 e1 = .returned (.int .i64 markTa)∧Kept [b] wr1 wv1 ∧
 (∀wr2,ExtX [b] wv1 wr2→(∀bq∈([b]:List Nat),bq<wr2.heap.size) →
 Calls Tryz.prog fn_laws_markGroupS #[.slice a3O a3L a3C,.int .i64 markTa] wr2 fun e2 wv2 =>
 (∃markGr,
 e2 = .returned (.int .i64 markGr)∧Kept [b] wr2 wv2 ∧
 (∀wr3,ExtX [b] wv2 wr3→R (.int .i64 markGr) wr3))))))))
theorem e_laws_markWorld (a0 a1O a1L a1C a2O a2L a2C a3O a3L a3C k):EfV (V_laws_markWorld a0 a1O a1L a1C a2O a2L a2C a3O a3L a3C k) fn_laws_markWorld #[.agg #[.int .i64 a0,.slice a1O a1L a1C,.slice a2O a2L a2C,.slice a3O a3L a3C],.int .i64 k]:=eV [] false [] Tryz.func13 (by kernel_rfl) (by kernel_rfl)
def V_laws_heldCpuS (aO:Option Addr) (aL aC:Nat) (k:Int) (w:World) (R:Value→World→Prop):Prop :=
 (∃(xInv:List Value→Prop) (mu:List Value→Nat),xInv [.int .i64 k,.int .i64 0] ∧
 ∀(k1 i:Int),xInv [.int .i64 k1,.int .i64 i] →
 ((decide (i<(aL:Int)))=true →
 Ix aO aL i ∧
 (∃up,
 CellsX [] w aO (Int.toNat i*5+0) [.bool up] ∧
 (3:Int)≠0 ∧
 ((!(up==((Int.tmod k1 3)==0)))=true →
 R (.int .i64 (-1)) w) ∧
 ((!(up==((Int.tmod k1 3)==0)))=false →
 InR .i64 (k1+1) ∧
 Ix aO aL i ∧
 (∃cur,
 CellsX [] w aO (Int.toNat i*5+1) [.int .i64 cur] ∧
 ((cur != (k1+1))=true →
 R (.int .i64 (-1)) w) ∧
 ((cur != (k1+1))=false →
 InR .i64 ((k1+1)+1) ∧
 Ix aO aL i ∧
 (∃ran,
 CellsX [] w aO (Int.toNat i*5+2) [.int .i64 ran] ∧
 ((ran != ((k1+1)+1))=true →
 R (.int .i64 (-1)) w) ∧
 ((ran != ((k1+1)+1))=false →
 InR .i64 (((k1+1)+1)+1) ∧
 Ix aO aL i ∧
 (∃busy,
 CellsX [] w aO (Int.toNat i*5+3) [.int .i64 busy] ∧
 ((busy != (((k1+1)+1)+1))=true →
 R (.int .i64 (-1)) w) ∧
 ((busy != (((k1+1)+1)+1))=false →
 InR .i64 ((((k1+1)+1)+1)+1) ∧
 Ix aO aL i ∧
 (∃idle,
 CellsX [] w aO (Int.toNat i*5+4) [.int .i64 idle] ∧
 ((idle != ((((k1+1)+1)+1)+1))=true →
 R (.int .i64 (-1)) w) ∧
 ((idle != ((((k1+1)+1)+1)+1))=false →
 InR .i64 (((((k1+1)+1)+1)+1)+1) ∧
 InR .i64 (i+1) ∧
 xInv [.int .i64 (((((k1+1)+1)+1)+1)+1),.int .i64 (i+1)]∧mu [.int .i64 (((((k1+1)+1)+1)+1)+1),.int .i64 (i+1)]<mu [.int .i64 k1,.int .i64 i]))))))))))) ∧
 ((decide (i<(aL:Int)))=false →
 R (.int .i64 k1) w))
theorem p_laws_heldCpuS (aO aL aC k):PuV (V_laws_heldCpuS aO aL aC k) fn_laws_heldCpuS #[.slice aO aL aC,.int .i64 k]:=pV [] false [(2,⟨[(1,.int .i64),(5,.int .i64)],[],[0],[],[]⟩)] Tryz.func51 (by kernel_rfl) (by kernel_rfl)
def V_laws_heldTaskS (aO:Option Addr) (aL aC:Nat) (k:Int) (w:World) (R:Value→World→Prop):Prop :=
 (∃(xInv:List Value→Prop) (mu:List Value→Nat),xInv [.int .i64 k,.int .i64 0] ∧
 ∀(k1 i:Int),xInv [.int .i64 k1,.int .i64 i] →
 ((decide (i<(aL:Int)))=true →
 Ix aO aL i ∧
 (∃state,
 CellsX [] w aO (Int.toNat i*9+0) [.int .i64 state] ∧
 ((state != k1)=true →
 R (.int .i64 (-1)) w) ∧
 ((state != k1)=false →
 InR .i64 (k1+1) ∧
 Ix aO aL i ∧
 (∃group,
 CellsX [] w aO (Int.toNat i*9+1) [.int .i64 group] ∧
 ((group != (k1+1))=true →
 R (.int .i64 (-1)) w) ∧
 ((group != (k1+1))=false →
 InR .i64 ((k1+1)+1) ∧
 Ix aO aL i ∧
 (∃cpu,
 CellsX [] w aO (Int.toNat i*9+2) [.int .i64 cpu] ∧
 ((cpu != ((k1+1)+1))=true →
 R (.int .i64 (-1)) w) ∧
 ((cpu != ((k1+1)+1))=false →
 InR .i64 (((k1+1)+1)+1) ∧
 Ix aO aL i ∧
 (∃nice,
 CellsX [] w aO (Int.toNat i*9+3) [.int .i64 nice] ∧
 ((nice != (((k1+1)+1)+1))=true →
 R (.int .i64 (-1)) w) ∧
 ((nice != (((k1+1)+1)+1))=false →
 InR .i64 ((((k1+1)+1)+1)+1) ∧
 Ix aO aL i ∧
 (∃mask,
 CellsX [] w aO (Int.toNat i*9+4) [.int .i64 mask] ∧
 ((mask != ((((k1+1)+1)+1)+1))=true →
 R (.int .i64 (-1)) w) ∧
 ((mask != ((((k1+1)+1)+1)+1))=false →
 InR .i64 (((((k1+1)+1)+1)+1)+1) ∧
 Ix aO aL i ∧
 (∃v,
 CellsX [] w aO (Int.toNat i*9+5) [.int .i64 v] ∧
 ((v != (((((k1+1)+1)+1)+1)+1))=true →
 R (.int .i64 (-1)) w) ∧
 ((v != (((((k1+1)+1)+1)+1)+1))=false →
 InR .i64 ((((((k1+1)+1)+1)+1)+1)+1) ∧
 Ix aO aL i ∧
 (∃sum,
 CellsX [] w aO (Int.toNat i*9+6) [.int .i64 sum] ∧
 ((sum != ((((((k1+1)+1)+1)+1)+1)+1))=true →
 R (.int .i64 (-1)) w) ∧
 ((sum != ((((((k1+1)+1)+1)+1)+1)+1))=false →
 InR .i64 (((((((k1+1)+1)+1)+1)+1)+1)+1) ∧
 Ix aO aL i ∧
 (∃used,
 CellsX [] w aO (Int.toNat i*9+7) [.int .i64 used] ∧
 ((used != (((((((k1+1)+1)+1)+1)+1)+1)+1))=true →
 R (.int .i64 (-1)) w) ∧
 ((used != (((((((k1+1)+1)+1)+1)+1)+1)+1))=false →
 InR .i64 ((((((((k1+1)+1)+1)+1)+1)+1)+1)+1) ∧
 Ix aO aL i ∧
 (∃load,
 CellsX [] w aO (Int.toNat i*9+8) [.int .i64 load] ∧
 ((load != ((((((((k1+1)+1)+1)+1)+1)+1)+1)+1))=true →
 R (.int .i64 (-1)) w) ∧
 ((load != ((((((((k1+1)+1)+1)+1)+1)+1)+1)+1))=false →
 InR .i64 (((((((((k1+1)+1)+1)+1)+1)+1)+1)+1)+1) ∧
 InR .i64 (i+1) ∧
 xInv [.int .i64 (((((((((k1+1)+1)+1)+1)+1)+1)+1)+1)+1),.int .i64 (i+1)]∧mu [.int .i64 (((((((((k1+1)+1)+1)+1)+1)+1)+1)+1)+1),.int .i64 (i+1)]<mu [.int .i64 k1,.int .i64 i]))))))))))))))))))) ∧
 ((decide (i<(aL:Int)))=false →
 R (.int .i64 k1) w))
theorem p_laws_heldTaskS (aO aL aC k):PuV (V_laws_heldTaskS aO aL aC k) fn_laws_heldTaskS #[.slice aO aL aC,.int .i64 k]:=pV [] false [(2,⟨[(1,.int .i64),(5,.int .i64)],[],[0],[],[]⟩)] Tryz.func52 (by kernel_rfl) (by kernel_rfl)
def V_laws_heldIntS (aO:Option Addr) (aL aC:Nat) (k:Int) (w:World) (R:Value→World→Prop):Prop :=
 (∃(xInv:List Value→Prop) (mu:List Value→Nat),xInv [.int .i64 k,.int .i64 0] ∧
 ∀(k1 i:Int),xInv [.int .i64 k1,.int .i64 i] →
 ((decide (i<(aL:Int)))=true →
 Ix aO aL i ∧
 (∃x,
 CellsX [] w aO (Int.toNat i*1) [.int .i64 x] ∧
 ((x != k1)=true →
 R (.int .i64 (-1)) w) ∧
 ((x != k1)=false →
 InR .i64 (k1+1) ∧
 InR .i64 (i+1) ∧
 xInv [.int .i64 (k1+1),.int .i64 (i+1)]∧mu [.int .i64 (k1+1),.int .i64 (i+1)]<mu [.int .i64 k1,.int .i64 i]))) ∧
 ((decide (i<(aL:Int)))=false →
 R (.int .i64 k1) w))
theorem p_laws_heldIntS (aO aL aC k):PuV (V_laws_heldIntS aO aL aC k) fn_laws_heldIntS #[.slice aO aL aC,.int .i64 k]:=pV [] false [(2,⟨[(1,.int .i64),(5,.int .i64)],[],[0],[],[]⟩)] Tryz.func124 (by kernel_rfl) (by kernel_rfl)
def V_laws_heldBoolS (aO:Option Addr) (aL aC:Nat) (k:Int) (w:World) (R:Value→World→Prop):Prop :=
 (∃(xInv:List Value→Prop) (mu:List Value→Nat),xInv [.int .i64 k,.int .i64 0] ∧
 ∀(k1 i:Int),xInv [.int .i64 k1,.int .i64 i] →
 ((decide (i<(aL:Int)))=true →
 Ix aO aL i ∧
 (∃x,
 CellsX [] w aO (Int.toNat i*1) [.bool x] ∧
 (3:Int)≠0 ∧
 ((!(x==((Int.tmod k1 3)==0)))=true →
 R (.int .i64 (-1)) w) ∧
 ((!(x==((Int.tmod k1 3)==0)))=false →
 InR .i64 (k1+1) ∧
 InR .i64 (i+1) ∧
 xInv [.int .i64 (k1+1),.int .i64 (i+1)]∧mu [.int .i64 (k1+1),.int .i64 (i+1)]<mu [.int .i64 k1,.int .i64 i]))) ∧
 ((decide (i<(aL:Int)))=false →
 R (.int .i64 k1) w))
theorem p_laws_heldBoolS (aO aL aC k):PuV (V_laws_heldBoolS aO aL aC k) fn_laws_heldBoolS #[.slice aO aL aC,.int .i64 k]:=pV [] false [(2,⟨[(1,.int .i64),(5,.int .i64)],[],[0],[],[]⟩)] Tryz.func125 (by kernel_rfl) (by kernel_rfl)
def V_laws_heldShelfS (aO:Option Addr) (aL aC:Nat) (k:Int) (w:World) (R:Value→World→Prop):Prop :=
 (∃(xInv:List Value→Prop) (mu:List Value→Nat),xInv [.int .i64 k,.int .i64 0] ∧
 ∀(k1 i:Int),xInv [.int .i64 k1,.int .i64 i] →
 ((decide (i<(aL:Int)))=true →
 Ix aO aL i ∧
 (∃floor,
 CellsX [] w aO (Int.toNat i*5+0) [.int .i64 floor] ∧
 ((floor != k1)=true →
 R (.int .i64 (-1)) w) ∧
 ((floor != k1)=false →
 InR .i64 (k1+1) ∧
 Ix aO aL i ∧
 (∃onv,
 CellsX [] w aO (Int.toNat i*5+1) [.bool onv] ∧
 (3:Int)≠0 ∧
 ((!(onv==((Int.tmod (k1+1) 3)==0)))=true →
 R (.int .i64 (-1)) w) ∧
 ((!(onv==((Int.tmod (k1+1) 3)==0)))=false →
 InR .i64 ((k1+1)+1) ∧
 Ix aO aL i ∧
 (∃v,
 CellsX [] w aO (Int.toNat i*5+2) [.int .i64 v] ∧
 ((v != ((k1+1)+1))=true →
 R (.int .i64 (-1)) w) ∧
 ((v != ((k1+1)+1))=false →
 InR .i64 (((k1+1)+1)+1) ∧
 Ix aO aL i ∧
 (∃wv,
 CellsX [] w aO (Int.toNat i*5+3) [.int .i64 wv] ∧
 ((wv != (((k1+1)+1)+1))=true →
 R (.int .i64 (-1)) w) ∧
 ((wv != (((k1+1)+1)+1))=false →
 InR .i64 ((((k1+1)+1)+1)+1) ∧
 Ix aO aL i ∧
 (∃sum,
 CellsX [] w aO (Int.toNat i*5+4) [.int .i64 sum] ∧
 ((sum != ((((k1+1)+1)+1)+1))=true →
 R (.int .i64 (-1)) w) ∧
 ((sum != ((((k1+1)+1)+1)+1))=false →
 InR .i64 (((((k1+1)+1)+1)+1)+1) ∧
 InR .i64 (i+1) ∧
 xInv [.int .i64 (((((k1+1)+1)+1)+1)+1),.int .i64 (i+1)]∧mu [.int .i64 (((((k1+1)+1)+1)+1)+1),.int .i64 (i+1)]<mu [.int .i64 k1,.int .i64 i]))))))))))) ∧
 ((decide (i<(aL:Int)))=false →
 R (.int .i64 k1) w))
theorem p_laws_heldShelfS (aO aL aC k):PuV (V_laws_heldShelfS aO aL aC k) fn_laws_heldShelfS #[.slice aO aL aC,.int .i64 k]:=pV [] false [(2,⟨[(1,.int .i64),(5,.int .i64)],[],[0],[],[]⟩)] Tryz.func126 (by kernel_rfl) (by kernel_rfl)
def V_laws_heldGroupS (aO:Option Addr) (aL aC:Nat) (k:Int) (w:World) (R:Value→World→Prop):Prop :=
 (∃(xInv:List Value→Prop) (mu:List Value→Nat),xInv [.int .i64 k,.int .i64 0] ∧
 ∀(k1 i:Int),xInv [.int .i64 k1,.int .i64 i] →
 ((decide (i<(aL:Int)))=true →
 Ix aO aL i ∧
 (∃used,
 CellsX [] w aO (Int.toNat i*14+0) [.bool used] ∧
 (3:Int)≠0 ∧
 ((!(used==((Int.tmod k1 3)==0)))=true →
 R (.int .i64 (-1)) w) ∧
 ((!(used==((Int.tmod k1 3)==0)))=false →
 InR .i64 (k1+1) ∧
 Ix aO aL i ∧
 (∃parent,
 CellsX [] w aO (Int.toNat i*14+1) [.int .i64 parent] ∧
 ((parent != (k1+1))=true →
 R (.int .i64 (-1)) w) ∧
 ((parent != (k1+1))=false →
 InR .i64 ((k1+1)+1) ∧
 Ix aO aL i ∧
 (∃(name:ByteArray),
 CellsX [] w aO (Int.toNat i*14+2) [.string name] ∧
 (∃(markTe:ByteArray),
 PureX [] Tryz.prog fn_laws_markText #[.int .i64 ((k1+1)+1)] w (.string markTe) ∧
 ((!strEq name markTe)=true →
 R (.int .i64 (-1)) w) ∧
 ((!strEq name markTe)=false →
 InR .i64 (((k1+1)+1)+1) ∧
 Ix aO aL i ∧
 (∃weight,
 CellsX [] w aO (Int.toNat i*14+3) [.int .i64 weight] ∧
 ((weight != (((k1+1)+1)+1))=true →
 R (.int .i64 (-1)) w) ∧
 ((weight != (((k1+1)+1)+1))=false →
 InR .i64 ((((k1+1)+1)+1)+1) ∧
 Ix aO aL i ∧
 (∃cpus,
 CellsX [] w aO (Int.toNat i*14+4) [.int .i64 cpus] ∧
 ((cpus != ((((k1+1)+1)+1)+1))=true →
 R (.int .i64 (-1)) w) ∧
 ((cpus != ((((k1+1)+1)+1)+1))=false →
 InR .i64 (((((k1+1)+1)+1)+1)+1) ∧
 Ix aO aL i ∧
 (∃period,
 CellsX [] w aO (Int.toNat i*14+5) [.int .i64 period] ∧
 ((period != (((((k1+1)+1)+1)+1)+1))=true →
 R (.int .i64 (-1)) w) ∧
 ((period != (((((k1+1)+1)+1)+1)+1))=false →
 InR .i64 ((((((k1+1)+1)+1)+1)+1)+1) ∧
 Ix aO aL i ∧
 (∃nextv,
 CellsX [] w aO (Int.toNat i*14+6) [.int .i64 nextv] ∧
 ((nextv != ((((((k1+1)+1)+1)+1)+1)+1))=true →
 R (.int .i64 (-1)) w) ∧
 ((nextv != ((((((k1+1)+1)+1)+1)+1)+1))=false →
 InR .i64 (((((((k1+1)+1)+1)+1)+1)+1)+1) ∧
 Ix aO aL i ∧
 (∃sum,
 CellsX [] w aO (Int.toNat i*14+7) [.int .i64 sum] ∧
 ((sum != (((((((k1+1)+1)+1)+1)+1)+1)+1))=true →
 R (.int .i64 (-1)) w) ∧
 ((sum != (((((((k1+1)+1)+1)+1)+1)+1)+1))=false →
 InR .i64 ((((((((k1+1)+1)+1)+1)+1)+1)+1)+1) ∧
 Ix aO aL i ∧
 (∃quota,
 CellsX [] w aO (Int.toNat i*14+8+0) [.int .i64 quota] ∧
 ((quota != ((((((((k1+1)+1)+1)+1)+1)+1)+1)+1))=true →
 R (.int .i64 (-1)) w) ∧
 ((quota != ((((((((k1+1)+1)+1)+1)+1)+1)+1)+1))=false →
 InR .i64 (((((((((k1+1)+1)+1)+1)+1)+1)+1)+1)+1) ∧
 Ix aO aL i ∧
 (∃pool,
 CellsX [] w aO (Int.toNat i*14+8+1) [.int .i64 pool] ∧
 ((pool != (((((((((k1+1)+1)+1)+1)+1)+1)+1)+1)+1))=true →
 R (.int .i64 (-1)) w) ∧
 ((pool != (((((((((k1+1)+1)+1)+1)+1)+1)+1)+1)+1))=false →
 InR .i64 ((((((((((k1+1)+1)+1)+1)+1)+1)+1)+1)+1)+1) ∧
 Ix aO aL i ∧
 (∃spent,
 CellsX [] w aO (Int.toNat i*14+8+2) [.int .i64 spent] ∧
 ((spent != ((((((((((k1+1)+1)+1)+1)+1)+1)+1)+1)+1)+1))=true →
 R (.int .i64 (-1)) w) ∧
 ((spent != ((((((((((k1+1)+1)+1)+1)+1)+1)+1)+1)+1)+1))=false →
 InR .i64 (((((((((((k1+1)+1)+1)+1)+1)+1)+1)+1)+1)+1)+1) ∧
 Ix aO aL i ∧
 (∃localsO localsL localsC,
 CellsX [] w aO (Int.toNat i*14+8+3) [.slice localsO localsL localsC] ∧
 (∃heldIn,
 PureX [] Tryz.prog fn_laws_heldIntS #[.slice localsO localsL localsC,.int .i64 (((((((((((k1+1)+1)+1)+1)+1)+1)+1)+1)+1)+1)+1)] w (.int .i64 heldIn) ∧
 ((decide (heldIn<0))=true →
 R (.int .i64 (-1)) w) ∧
 ((decide (heldIn<0))=false →
 Ix aO aL i ∧
 (∃dryO dryL dryC,
 CellsX [] w aO (Int.toNat i*14+8+4) [.slice dryO dryL dryC] ∧
 (∃heldBo,
 PureX [] Tryz.prog fn_laws_heldBoolS #[.slice dryO dryL dryC,.int .i64 heldIn] w (.int .i64 heldBo) ∧
 ((decide (heldBo<0))=true →
 R (.int .i64 (-1)) w) ∧
 ((decide (heldBo<0))=false →
 Ix aO aL i ∧
 (∃shelvesO shelvesL shelvesC,
 CellsX [] w aO (Int.toNat i*14+13) [.slice shelvesO shelvesL shelvesC] ∧
 (∃heldSh,
 PureX [] Tryz.prog fn_laws_heldShelfS #[.slice shelvesO shelvesL shelvesC,.int .i64 heldBo] w (.int .i64 heldSh) ∧
 ((decide (heldSh<0))=true →
 R (.int .i64 (-1)) w) ∧
 ((decide (heldSh<0))=false →
 InR .i64 (i+1) ∧
 xInv [.int .i64 heldSh,.int .i64 (i+1)]∧mu [.int .i64 heldSh,.int .i64 (i+1)]<mu [.int .i64 k1,.int .i64 i]))))))))))))))))))))))))))))))))) ∧
 ((decide (i<(aL:Int)))=false →
 R (.int .i64 k1) w))
theorem p_laws_heldGroupS (aO aL aC k):PuV (V_laws_heldGroupS aO aL aC k) fn_laws_heldGroupS #[.slice aO aL aC,.int .i64 k]:=pV [] false [(2,⟨[(1,.int .i64),(5,.int .i64)],[],[0],[],[]⟩)] Tryz.func53 (by kernel_rfl) (by kernel_rfl)
def V_laws_heldWorld (a0:Int) (a1O:Option Addr) (a1L a1C:Nat) (a2O:Option Addr) (a2L a2C:Nat) (a3O:Option Addr) (a3L a3C:Nat) (k:Int) (w:World) (R:Value→World→Prop):Prop :=
 (∀b,w.heap.size≤b →
 (∃heldCp,
 PureX [] Tryz.prog fn_laws_heldCpuS #[.slice a1O a1L a1C,.int .i64 k] w (.int .i64 heldCp) ∧
 ((decide (heldCp<0))=true →
 R (.int .i64 (-1)) w) ∧
 ((decide (heldCp<0))=false →
 (∃heldTa,
 PureX [] Tryz.prog fn_laws_heldTaskS #[.slice a2O a2L a2C,.int .i64 heldCp] w (.int .i64 heldTa) ∧
 ((decide (heldTa<0))=true →
 R (.int .i64 (-1)) w) ∧
 ((decide (heldTa<0))=false →
 (∃heldGr,
 PureX [] Tryz.prog fn_laws_heldGroupS #[.slice a3O a3L a3C,.int .i64 heldTa] w (.int .i64 heldGr) ∧
 ((decide (heldGr<0))=true →
 R (.int .i64 (-1)) w) ∧
 ((decide (heldGr<0))=false →
 R (.int .i64 heldGr) w)))))))
theorem p_laws_heldWorld (a0 a1O a1L a1C a2O a2L a2C a3O a3L a3C k):PuV (V_laws_heldWorld a0 a1O a1L a1C a2O a2L a2C a3O a3L a3C k) fn_laws_heldWorld #[.agg #[.int .i64 a0,.slice a1O a1L a1C,.slice a2O a2L a2C,.slice a3O a3L a3C],.int .i64 k]:=pV [] false [] Tryz.func14 (by kernel_rfl) (by kernel_rfl)
def V_spec_l8Task (w0:Int) (w1O:Option Addr) (w1L w1C:Nat) (w2O:Option Addr) (w2L w2C:Nat) (w3O:Option Addr) (w3L w3C:Nat) (t:Int) (w:World) (R:Value→World→Prop):Prop :=
 (∀b,w.heap.size≤b →
 InR .i64 ((w2L:Int) - 1) ∧
 (∃l1In,
 PureX [] Tryz.prog fn_spec_l1In #[.int .i64 t,.int .i64 0,.int .i64 ((w2L:Int) - 1)] w (.bool l1In) ∧
 (l1In=true→Ix w2O w2L t) ∧
 (∃state,
 (l1In=true→CellsX [] w w2O (Int.toNat t*9+0) [.int .i64 state]) ∧
 R (.bool (l1In&&(state != 0))) w)))
theorem p_spec_l8Task (w0 w1O w1L w1C w2O w2L w2C w3O w3L w3C t):PuV (V_spec_l8Task w0 w1O w1L w1C w2O w2L w2C w3O w3L w3C t) fn_spec_l8Task #[.agg #[.int .i64 w0,.slice w1O w1L w1C,.slice w2O w2L w2C,.slice w3O w3L w3C],.int .i64 t]:=pV [] false [] Tryz.func54 (by kernel_rfl) (by kernel_rfl)
def V_spec_l10Ready (w0:Int) (w1O:Option Addr) (w1L w1C:Nat) (w2O:Option Addr) (w2L w2C:Nat) (w3O:Option Addr) (w3L w3C:Nat) (c:Int) (w:World) (R:Value→World→Prop):Prop :=
 (∀b,w.heap.size≤b →
 (∃(xInv:List Value→Prop) (mu:List Value→Nat),xInv [.int .i64 0,.int .i64 0] ∧
 ∀(n t:Int),xInv [.int .i64 n,.int .i64 t] →
 ((decide (t<(w2L:Int)))=true →
 Ix w2O w2L t ∧
 (∃state,
 CellsX [] w w2O (Int.toNat t*9+0) [.int .i64 state] ∧
 ((state==1)=true→Ix w2O w2L t) ∧
 (∃cpu,
 ((state==1)=true→CellsX [] w w2O (Int.toNat t*9+2) [.int .i64 cpu]) ∧
 (((state==1)&&(cpu==c))=true →
 InR .i64 (n+1) ∧
 InR .i64 (t+1) ∧
 xInv [.int .i64 (n+1),.int .i64 (t+1)]∧mu [.int .i64 (n+1),.int .i64 (t+1)]<mu [.int .i64 n,.int .i64 t]) ∧
 (((state==1)&&(cpu==c))=false →
 InR .i64 (t+1) ∧
 xInv [.int .i64 n,.int .i64 (t+1)]∧mu [.int .i64 n,.int .i64 (t+1)]<mu [.int .i64 n,.int .i64 t])))) ∧
 ((decide (t<(w2L:Int)))=false →
 R (.int .i64 n) w)))
theorem p_spec_l10Ready (w0 w1O w1L w1C w2O w2L w2C w3O w3L w3C c):PuV (V_spec_l10Ready w0 w1O w1L w1C w2O w2L w2C w3O w3L w3C c) fn_spec_l10Ready #[.agg #[.int .i64 w0,.slice w1O w1L w1C,.slice w2O w2L w2C,.slice w3O w3L w3C],.int .i64 c]:=pV [] false [(3,⟨[(5,.int .i64),(6,.int .i64)],[],[1,2],[],[]⟩)] Tryz.func55 (by kernel_rfl) (by kernel_rfl)
def V_spec_l10Loads (w0:Int) (w1O:Option Addr) (w1L w1C:Nat) (w2O:Option Addr) (w2L w2C:Nat) (w3O:Option Addr) (w3L w3C:Nat) (c:Int) (w:World) (R:Value→World→Prop):Prop :=
 (∀b,w.heap.size≤b →
 (∃(xInv:List Value→Prop) (mu:List Value→Nat),xInv [.int .i64 0,.int .i64 0] ∧
 ∀(n t:Int),xInv [.int .i64 n,.int .i64 t] →
 ((decide (t<(w2L:Int)))=true →
 Ix w2O w2L t ∧
 (∃state,
 CellsX [] w w2O (Int.toNat t*9+0) [.int .i64 state] ∧
 ((state==1)=true→Ix w2O w2L t) ∧
 (∃cpu,
 ((state==1)=true→CellsX [] w w2O (Int.toNat t*9+2) [.int .i64 cpu]) ∧
 (((state==1)&&(cpu==c))=true →
 Ix w2O w2L t ∧
 (∃load,
 CellsX [] w w2O (Int.toNat t*9+8) [.int .i64 load] ∧
 InR .i64 (n+load) ∧
 InR .i64 (t+1) ∧
 xInv [.int .i64 (n+load),.int .i64 (t+1)]∧mu [.int .i64 (n+load),.int .i64 (t+1)]<mu [.int .i64 n,.int .i64 t])) ∧
 (((state==1)&&(cpu==c))=false →
 InR .i64 (t+1) ∧
 xInv [.int .i64 n,.int .i64 (t+1)]∧mu [.int .i64 n,.int .i64 (t+1)]<mu [.int .i64 n,.int .i64 t])))) ∧
 ((decide (t<(w2L:Int)))=false →
 R (.int .i64 n) w)))
theorem p_spec_l10Loads (w0 w1O w1L w1C w2O w2L w2C w3O w3L w3C c):PuV (V_spec_l10Loads w0 w1O w1L w1C w2O w2L w2C w3O w3L w3C c) fn_spec_l10Loads #[.agg #[.int .i64 w0,.slice w1O w1L w1C,.slice w2O w2L w2C,.slice w3O w3L w3C],.int .i64 c]:=pV [] false [(3,⟨[(5,.int .i64),(6,.int .i64)],[],[1,2],[],[]⟩)] Tryz.func127 (by kernel_rfl) (by kernel_rfl)
def V_spec_l10Place (w0:Int) (w1O:Option Addr) (w1L w1C:Nat) (w2O:Option Addr) (w2L w2C:Nat) (w3O:Option Addr) (w3L w3C:Nat) (m:Int) (w:World) (R:Value→World→Prop):Prop :=
 (∀b,w.heap.size≤b →
 (∃(xInv:List Value→Prop) (mu:List Value→Nat),xInv [.int .i64 (-1),.int .i64 0] ∧
 ∀(best c:Int),xInv [.int .i64 best,.int .i64 c] →
 ((decide (c<(w1L:Int)))=true →
 (∃xMaskHa,
 PureX [] Tryz.prog fn_spec_MaskHas #[.int .i64 m,.int .i64 c] w (.bool xMaskHa) ∧
 ((!xMaskHa)=true →
 InR .i64 (c+1) ∧
 xInv [.int .i64 best,.int .i64 (c+1)]∧mu [.int .i64 best,.int .i64 (c+1)]<mu [.int .i64 best,.int .i64 c]) ∧
 ((!xMaskHa)=false →
 (∃l10Loa,
 ((decide (best<0))=false→PureX [] Tryz.prog fn_spec_l10Loads #[.agg #[.int .i64 w0,.slice w1O w1L w1C,.slice w2O w2L w2C,.slice w3O w3L w3C],.int .i64 c] w (.int .i64 l10Loa)) ∧
 (∃l10Loa1,
 ((decide (best<0))=false→PureX [] Tryz.prog fn_spec_l10Loads #[.agg #[.int .i64 w0,.slice w1O w1L w1C,.slice w2O w2L w2C,.slice w3O w3L w3C],.int .i64 best] w (.int .i64 l10Loa1)) ∧
 (∃l10Loa2,
 (((decide (best<0))||(decide (l10Loa<l10Loa1)))=false→PureX [] Tryz.prog fn_spec_l10Loads #[.agg #[.int .i64 w0,.slice w1O w1L w1C,.slice w2O w2L w2C,.slice w3O w3L w3C],.int .i64 c] w (.int .i64 l10Loa2)) ∧
 (∃l10Loa3,
 (((decide (best<0))||(decide (l10Loa<l10Loa1)))=false→PureX [] Tryz.prog fn_spec_l10Loads #[.agg #[.int .i64 w0,.slice w1O w1L w1C,.slice w2O w2L w2C,.slice w3O w3L w3C],.int .i64 best] w (.int .i64 l10Loa3)) ∧
 (∃l10Rea,
 ((l10Loa2==l10Loa3)=true→(((decide (best<0))||(decide (l10Loa<l10Loa1)))=false→PureX [] Tryz.prog fn_spec_l10Ready #[.agg #[.int .i64 w0,.slice w1O w1L w1C,.slice w2O w2L w2C,.slice w3O w3L w3C],.int .i64 c] w (.int .i64 l10Rea))) ∧
 (∃l10Rea1,
 ((l10Loa2==l10Loa3)=true→(((decide (best<0))||(decide (l10Loa<l10Loa1)))=false→PureX [] Tryz.prog fn_spec_l10Ready #[.agg #[.int .i64 w0,.slice w1O w1L w1C,.slice w2O w2L w2C,.slice w3O w3L w3C],.int .i64 best] w (.int .i64 l10Rea1))) ∧
 ((((decide (best<0))||(decide (l10Loa<l10Loa1)))||((l10Loa2==l10Loa3)&&(decide (l10Rea<l10Rea1))))=true →
 InR .i64 (c+1) ∧
 xInv [.int .i64 c,.int .i64 (c+1)]∧mu [.int .i64 c,.int .i64 (c+1)]<mu [.int .i64 best,.int .i64 c]) ∧
 ((((decide (best<0))||(decide (l10Loa<l10Loa1)))||((l10Loa2==l10Loa3)&&(decide (l10Rea<l10Rea1))))=false →
 InR .i64 (c+1) ∧
 xInv [.int .i64 best,.int .i64 (c+1)]∧mu [.int .i64 best,.int .i64 (c+1)]<mu [.int .i64 best,.int .i64 c])))))))))) ∧
 ((decide (c<(w1L:Int)))=false →
 R (.int .i64 best) w)))
theorem p_spec_l10Place (w0 w1O w1L w1C w2O w2L w2C w3O w3L w3C m):PuV (V_spec_l10Place w0 w1O w1L w1C w2O w2L w2C w3O w3L w3C m) fn_spec_l10Place #[.agg #[.int .i64 w0,.slice w1O w1L w1C,.slice w2O w2L w2C,.slice w3O w3L w3C],.int .i64 m]:=pV [] false [(3,⟨[(5,.int .i64),(6,.int .i64)],[],[1,2],[],[]⟩)] Tryz.func56 (by kernel_rfl) (by kernel_rfl)
def V_spec_TaskWake (w0:Int) (w1O:Option Addr) (w1L w1C:Nat) (w2O:Option Addr) (w2L w2C:Nat) (w3O:Option Addr) (w3L w3C:Nat) (task:Int) (w:World) (R:Value→World→Prop):Prop :=
 (∀b,w.heap.size≤b →
 (∀b1,w.heap.size≤b1 →
 (∀wr,ExtX [] w wr→(∀bq∈([b,b1]:List Nat),bq<wr.heap.size) →
 Calls Tryz.prog fn_spec_l10Begin #[.agg #[.int .i64 w0,.slice w1O w1L w1C,.slice w2O w2L w2C,.slice w3O w3L w3C]] wr fun e wv =>
 (∃l10Beg l10Beg1O l10Beg1L l10Beg1C l10Beg2O l10Beg2L l10Beg2C l10Beg3O l10Beg3L l10Beg3C l10Beg4,
 e = .returned (.tuple #[.agg #[.int .i64 l10Beg,.slice l10Beg1O l10Beg1L l10Beg1C,.slice l10Beg2O l10Beg2L l10Beg2C,.slice l10Beg3O l10Beg3L l10Beg3C],.int .i64 l10Beg4])∧Kept [b,b1] wr wv ∧
 ((l10Beg4==1)=true →
 (∀wr1,ExtX [b,b1] wv wr1→R (.tuple #[.agg #[.int .i64 l10Beg,.slice l10Beg1O l10Beg1L l10Beg1C,.slice l10Beg2O l10Beg2L l10Beg2C,.slice l10Beg3O l10Beg3L l10Beg3C],.int .i64 l10Beg4]) wr1)) ∧
 ((l10Beg4==1)=false →
 (∃l8Task,
 PureX [b,b1] Tryz.prog fn_spec_l8Task #[.agg #[.int .i64 l10Beg,.slice l10Beg1O l10Beg1L l10Beg1C,.slice l10Beg2O l10Beg2L l10Beg2C,.slice l10Beg3O l10Beg3L l10Beg3C],.int .i64 task] wv (.bool l8Task) ∧
 ((!l8Task)=true →
 (∀wr2,ExtX [b,b1] wv wr2→R (.tuple #[.agg #[.int .i64 l10Beg,.slice l10Beg1O l10Beg1L l10Beg1C,.slice l10Beg2O l10Beg2L l10Beg2C,.slice l10Beg3O l10Beg3L l10Beg3C],.int .i64 2]) wr2)) ∧
 ((!l8Task)=false →
 Ix l10Beg2O l10Beg2L task ∧
 (∃state,
 CellsX [b,b1] wv l10Beg2O (Int.toNat task*9+0) [.int .i64 state] ∧
 ((state != 2)=true →
 (∀wr3,ExtX [b,b1] wv wr3→R (.tuple #[.agg #[.int .i64 l10Beg,.slice l10Beg1O l10Beg1L l10Beg1C,.slice l10Beg2O l10Beg2L l10Beg2C,.slice l10Beg3O l10Beg3L l10Beg3C],.int .i64 6]) wr3)) ∧
 ((state != 2)=false →
 ((l10Beg4 != 0)=true →
 (∀wr4,ExtX [b,b1] wv wr4→R (.tuple #[.agg #[.int .i64 l10Beg,.slice l10Beg1O l10Beg1L l10Beg1C,.slice l10Beg2O l10Beg2L l10Beg2C,.slice l10Beg3O l10Beg3L l10Beg3C],.int .i64 l10Beg4]) wr4)) ∧
 ((l10Beg4 != 0)=false →
 Ix l10Beg2O l10Beg2L task ∧
 (∃cpu,
 CellsX [b,b1] wv l10Beg2O (Int.toNat task*9+2) [.int .i64 cpu] ∧
 (∃l10Rea,
 PureX [b,b1] Tryz.prog fn_spec_l10Ready #[.agg #[.int .i64 l10Beg,.slice l10Beg1O l10Beg1L l10Beg1C,.slice l10Beg2O l10Beg2L l10Beg2C,.slice l10Beg3O l10Beg3L l10Beg3C],.int .i64 cpu] wv (.int .i64 l10Rea) ∧
 ((decide (l10Rea>0))=true →
 Ix l10Beg2O l10Beg2L task ∧
 (∃group,
 CellsX [b,b1] wv l10Beg2O (Int.toNat task*9+1) [.int .i64 group] ∧
 Ix l10Beg2O l10Beg2L task ∧
 (∃mask,
 CellsX [b,b1] wv l10Beg2O (Int.toNat task*9+4) [.int .i64 mask] ∧
 (∃l8Wher,
 PureX [b,b1] Tryz.prog fn_spec_l8Where #[.agg #[.int .i64 l10Beg,.slice l10Beg1O l10Beg1L l10Beg1C,.slice l10Beg2O l10Beg2L l10Beg2C,.slice l10Beg3O l10Beg3L l10Beg3C],.int .i64 group,.int .i64 mask] wv (.int .i64 l8Wher) ∧
 (∃l10Pla,
 PureX [b,b1] Tryz.prog fn_spec_l10Place #[.agg #[.int .i64 l10Beg,.slice l10Beg1O l10Beg1L l10Beg1C,.slice l10Beg2O l10Beg2L l10Beg2C,.slice l10Beg3O l10Beg3L l10Beg3C],.int .i64 l8Wher] wv (.int .i64 l10Pla) ∧
 Ix l10Beg2O l10Beg2L task ∧
 (∃group1,
 CellsX [b,b1] wv l10Beg2O (Int.toNat task*9+1) [.int .i64 group1] ∧
 (∀wr5,ExtX [b,b1] wv wr5→(∀bq∈([b,b1]:List Nat),bq<wr5.heap.size) →
 Calls Tryz.prog fn_spec_l10Put #[.agg #[.int .i64 l10Beg,.slice l10Beg1O l10Beg1L l10Beg1C,.slice l10Beg2O l10Beg2L l10Beg2C,.slice l10Beg3O l10Beg3L l10Beg3C],.int .i64 task,.int .i64 group1,.int .i64 l10Pla] wr5 fun e1 wv1 =>
 (∃l10Put l10Put1O l10Put1L l10Put1C l10Put2O l10Put2L l10Put2C l10Put3O l10Put3L l10Put3C,
 e1 = .returned (.agg #[.int .i64 l10Put,.slice l10Put1O l10Put1L l10Put1C,.slice l10Put2O l10Put2L l10Put2C,.slice l10Put3O l10Put3L l10Put3C])∧Kept [b,b1] wr5 wv1 ∧
 Ix l10Put2O l10Put2L task ∧
 WrX [b,b1] wv1 l10Put2O (Int.toNat task*9+0) 1 ∧
 (∀wr6,ExtX [b,b1] (sto wv1 l10Put2O (Int.toNat task*9+0) [.int .i64 1]) wr6→(∀bq∈([b,b1]:List Nat),bq<wr6.heap.size) →
 Calls Tryz.prog fn_spec_l8End #[.agg #[.int .i64 l10Put,.slice l10Put1O l10Put1L l10Put1C,.slice l10Put2O l10Put2L l10Put2C,.slice l10Put3O l10Put3L l10Put3C],.int .i64 l10Pla] wr6 fun e2 wv2 =>
 (∃l8End l8End1O l8End1L l8End1C l8End2O l8End2L l8End2C l8End3O l8End3L l8End3C,
 e2 = .returned (.agg #[.int .i64 l8End,.slice l8End1O l8End1L l8End1C,.slice l8End2O l8End2L l8End2C,.slice l8End3O l8End3L l8End3C])∧Kept [b,b1] wr6 wv2 ∧
 (∀wr7,ExtX [b,b1] wv2 wr7→(∀bq∈([b,b1]:List Nat),bq<wr7.heap.size) →
 Calls Tryz.prog fn_spec_l8Settle #[.agg #[.int .i64 l8End,.slice l8End1O l8End1L l8End1C,.slice l8End2O l8End2L l8End2C,.slice l8End3O l8End3L l8End3C]] wr7 fun e3 wv3 =>
 (∃l8Sett l8Sett1O l8Sett1L l8Sett1C l8Sett2O l8Sett2L l8Sett2C l8Sett3O l8Sett3L l8Sett3C,
 e3 = .returned (.agg #[.int .i64 l8Sett,.slice l8Sett1O l8Sett1L l8Sett1C,.slice l8Sett2O l8Sett2L l8Sett2C,.slice l8Sett3O l8Sett3L l8Sett3C])∧Kept [b,b1] wr7 wv3 ∧
 (∀wr8,ExtX [b,b1] wv3 wr8→R (.tuple #[.agg #[.int .i64 l8Sett,.slice l8Sett1O l8Sett1L l8Sett1C,.slice l8Sett2O l8Sett2L l8Sett2C,.slice l8Sett3O l8Sett3L l8Sett3C],.int .i64 0]) wr8))))))))))))) ∧
 ((decide (l10Rea>0))=false →
 Ix l10Beg2O l10Beg2L task ∧
 (∃group2,
 CellsX [b,b1] wv l10Beg2O (Int.toNat task*9+1) [.int .i64 group2] ∧
 (∀wr9,ExtX [b,b1] wv wr9→(∀bq∈([b,b1]:List Nat),bq<wr9.heap.size) →
 Calls Tryz.prog fn_spec_l10Put #[.agg #[.int .i64 l10Beg,.slice l10Beg1O l10Beg1L l10Beg1C,.slice l10Beg2O l10Beg2L l10Beg2C,.slice l10Beg3O l10Beg3L l10Beg3C],.int .i64 task,.int .i64 group2,.int .i64 cpu] wr9 fun e4 wv4 =>
 (∃l10Put4 l10Put5O l10Put5L l10Put5C l10Put6O l10Put6L l10Put6C l10Put7O l10Put7L l10Put7C,
 e4 = .returned (.agg #[.int .i64 l10Put4,.slice l10Put5O l10Put5L l10Put5C,.slice l10Put6O l10Put6L l10Put6C,.slice l10Put7O l10Put7L l10Put7C])∧Kept [b,b1] wr9 wv4 ∧
 Ix l10Put6O l10Put6L task ∧
 WrX [b,b1] wv4 l10Put6O (Int.toNat task*9+0) 1 ∧
 (∀wr10,ExtX [b,b1] (sto wv4 l10Put6O (Int.toNat task*9+0) [.int .i64 1]) wr10→(∀bq∈([b,b1]:List Nat),bq<wr10.heap.size) →
 Calls Tryz.prog fn_spec_l8End #[.agg #[.int .i64 l10Put4,.slice l10Put5O l10Put5L l10Put5C,.slice l10Put6O l10Put6L l10Put6C,.slice l10Put7O l10Put7L l10Put7C],.int .i64 cpu] wr10 fun e5 wv5 =>
 (∃l8End4 l8End5O l8End5L l8End5C l8End6O l8End6L l8End6C l8End7O l8End7L l8End7C,
 e5 = .returned (.agg #[.int .i64 l8End4,.slice l8End5O l8End5L l8End5C,.slice l8End6O l8End6L l8End6C,.slice l8End7O l8End7L l8End7C])∧Kept [b,b1] wr10 wv5 ∧
 (∀wr11,ExtX [b,b1] wv5 wr11→(∀bq∈([b,b1]:List Nat),bq<wr11.heap.size) →
 Calls Tryz.prog fn_spec_l8Settle #[.agg #[.int .i64 l8End4,.slice l8End5O l8End5L l8End5C,.slice l8End6O l8End6L l8End6C,.slice l8End7O l8End7L l8End7C]] wr11 fun e6 wv6 =>
 (∃l8Sett4 l8Sett5O l8Sett5L l8Sett5C l8Sett6O l8Sett6L l8Sett6C l8Sett7O l8Sett7L l8Sett7C,
 e6 = .returned (.agg #[.int .i64 l8Sett4,.slice l8Sett5O l8Sett5L l8Sett5C,.slice l8Sett6O l8Sett6L l8Sett6C,.slice l8Sett7O l8Sett7L l8Sett7C])∧Kept [b,b1] wr11 wv6 ∧
 (∀wr12,ExtX [b,b1] wv6 wr12→R (.tuple #[.agg #[.int .i64 l8Sett4,.slice l8Sett5O l8Sett5L l8Sett5C,.slice l8Sett6O l8Sett6L l8Sett6C,.slice l8Sett7O l8Sett7L l8Sett7C],.int .i64 0]) wr12)))))))))))))))))))))
theorem e_spec_TaskWake (w0 w1O w1L w1C w2O w2L w2C w3O w3L w3C task):EfV (V_spec_TaskWake w0 w1O w1L w1C w2O w2L w2C w3O w3L w3C task) fn_spec_TaskWake #[.agg #[.int .i64 w0,.slice w1O w1L w1C,.slice w2O w2L w2C,.slice w3O w3L w3C],.int .i64 task]:=eV [] false [] Tryz.func15 (by kernel_rfl) (by kernel_rfl)
def V_impl_TaskWake (w0:Int) (w1O:Option Addr) (w1L w1C:Nat) (w2O:Option Addr) (w2L w2C:Nat) (w3O:Option Addr) (w3L w3C:Nat) (task:Int) (w:World) (R:Value→World→Prop):Prop :=
 (∀b,w.heap.size≤b →
 (∀b1 wb,ExtX [] w wb→w.heap.size≤b1→wb.heap[b1]? = some (Obj.cells ([.int .i64 task]:List Value).toArray ty_int (0,0))→b1∉([b]:List Nat) →
 (∀b2,wb.heap.size≤b2 →
 (∀wr,ExtX [b] wb wr→(∀bq∈([b,b2]:List Nat),bq<wr.heap.size) →
 Calls Tryz.prog fn_impl_attempt #[.agg #[.int .i64 w0,.slice w1O w1L w1C,.slice w2O w2L w2C,.slice w3O w3L w3C],.func (.func fn_impl_TaskWake_1) #[] #[.pointer ((some (Addr.mk b1 0 none)).map (·.add 0))]] wr fun e wv =>
 (∃attemp attemp1O attemp1L attemp1C attemp2O attemp2L attemp2C attemp3O attemp3L attemp3C attemp4,
 e = .returned (.tuple #[.agg #[.int .i64 attemp,.slice attemp1O attemp1L attemp1C,.slice attemp2O attemp2L attemp2C,.slice attemp3O attemp3L attemp3C],.int .i64 attemp4])∧Kept [b,b2] wr wv ∧
 (∀wr1,ExtX [b,b2] wv wr1→R (.tuple #[.agg #[.int .i64 attemp,.slice attemp1O attemp1L attemp1C,.slice attemp2O attemp2L attemp2C,.slice attemp3O attemp3L attemp3C],.int .i64 attemp4]) wr1))))))
theorem e_impl_TaskWake (w0 w1O w1L w1C w2O w2L w2C w3O w3L w3C task):EfV (V_impl_TaskWake w0 w1O w1L w1C w2O w2L w2C w3O w3L w3C task) fn_impl_TaskWake #[.agg #[.int .i64 w0,.slice w1O w1L w1C,.slice w2O w2L w2C,.slice w3O w3L w3C],.int .i64 task]:=eV [3] false [] Tryz.func16 (by kernel_rfl) (by kernel_rfl)
def V_laws_FnExactTaskWake (aW0:Int) (aW1O:Option Addr) (aW1L aW1C:Nat) (aW2O:Option Addr) (aW2L aW2C:Nat) (aW3O:Option Addr) (aW3L aW3C:Nat) (aTask:Int) (w:World) (R:Value→World→Prop):Prop :=
 (∀b,w.heap.size≤b →
 (∃szWorl,
 PureX [] Tryz.prog fn_laws_szWorld #[.agg #[.int .i64 aW0,.slice aW1O aW1L aW1C,.slice aW2O aW2L aW2C,.slice aW3O aW3L aW3C],.int .i64 1048576] w (.int .i64 szWorl) ∧
 ((decide (szWorl<0))=true →
 (∀wr,ExtX [] w wr→R (.bool true) wr)) ∧
 ((decide (szWorl<0))=false →
 (∀wr1,ExtX [] w wr1→(∀bq∈([b]:List Nat),bq<wr1.heap.size) →
 Calls Tryz.prog fn_laws_toWorld #[.agg #[.int .i64 aW0,.slice aW1O aW1L aW1C,.slice aW2O aW2L aW2C,.slice aW3O aW3L aW3C]] wr1 fun e wv =>
 (∃toWorl toWorl1O toWorl1L toWorl1C toWorl2O toWorl2L toWorl2C toWorl3O toWorl3L toWorl3C,
 e = .returned (.agg #[.int .i64 toWorl,.slice toWorl1O toWorl1L toWorl1C,.slice toWorl2O toWorl2L toWorl2C,.slice toWorl3O toWorl3L toWorl3C])∧Kept [b] wr1 wv ∧
 (∀wr2,ExtX [b] wv wr2→(∀bq∈([b]:List Nat),bq<wr2.heap.size) →
 Calls Tryz.prog fn_spec_TaskWake #[.agg #[.int .i64 toWorl,.slice toWorl1O toWorl1L toWorl1C,.slice toWorl2O toWorl2L toWorl2C,.slice toWorl3O toWorl3L toWorl3C],.int .i64 aTask] wr2 fun e1 wv1 =>
 (∃xTaskWa xTaskWa1O xTaskWa1L xTaskWa1C xTaskWa2O xTaskWa2L xTaskWa2C xTaskWa3O xTaskWa3L xTaskWa3C xTaskWa4,
 e1 = .returned (.tuple #[.agg #[.int .i64 xTaskWa,.slice xTaskWa1O xTaskWa1L xTaskWa1C,.slice xTaskWa2O xTaskWa2L xTaskWa2C,.slice xTaskWa3O xTaskWa3L xTaskWa3C],.int .i64 xTaskWa4])∧Kept [b] wr2 wv1 ∧
 (∀b1,wv1.heap.size≤b1 →
 (∀wr3,ExtX [b] wv1 wr3→(∀bq∈([b,b1]:List Nat),bq<wr3.heap.size) →
 Calls Tryz.prog fn_laws_toWorld #[.agg #[.int .i64 aW0,.slice aW1O aW1L aW1C,.slice aW2O aW2L aW2C,.slice aW3O aW3L aW3C]] wr3 fun e2 wv2 =>
 (∃toWorl4 toWorl5O toWorl5L toWorl5C toWorl6O toWorl6L toWorl6C toWorl7O toWorl7L toWorl7C,
 e2 = .returned (.agg #[.int .i64 toWorl4,.slice toWorl5O toWorl5L toWorl5C,.slice toWorl6O toWorl6L toWorl6C,.slice toWorl7O toWorl7L toWorl7C])∧Kept [b,b1] wr3 wv2 ∧
 (∀b2,wv2.heap.size≤b2 →
 (∀wr4,ExtX [b,b1] wv2 wr4→(∀bq∈([b,b1,b2]:List Nat),bq<wr4.heap.size) →
 Calls Tryz.prog fn_impl_TaskWake #[.agg #[.int .i64 toWorl4,.slice toWorl5O toWorl5L toWorl5C,.slice toWorl6O toWorl6L toWorl6C,.slice toWorl7O toWorl7L toWorl7C],.int .i64 aTask] wr4 fun e3 wv3 =>
 (∃xTaskWa5 xTaskWa6O xTaskWa6L xTaskWa6C xTaskWa7O xTaskWa7L xTaskWa7C xTaskWa8O xTaskWa8L xTaskWa8C xTaskWa9,
 e3 = .returned (.tuple #[.agg #[.int .i64 xTaskWa5,.slice xTaskWa6O xTaskWa6L xTaskWa6C,.slice xTaskWa7O xTaskWa7L xTaskWa7C,.slice xTaskWa8O xTaskWa8L xTaskWa8C],.int .i64 xTaskWa9])∧Kept [b,b1,b2] wr4 wv3 ∧
 (∀b3,wv3.heap.size≤b3 →
 (∃eqWorl,
 PureX [b,b1,b2] Tryz.prog fn_laws_eqWorld #[.agg #[.int .i64 xTaskWa5,.slice xTaskWa6O xTaskWa6L xTaskWa6C,.slice xTaskWa7O xTaskWa7L xTaskWa7C,.slice xTaskWa8O xTaskWa8L xTaskWa8C],.agg #[.int .i64 xTaskWa,.slice xTaskWa1O xTaskWa1L xTaskWa1C,.slice xTaskWa2O xTaskWa2L xTaskWa2C,.slice xTaskWa3O xTaskWa3L xTaskWa3C]] wv3 (.bool eqWorl) ∧
 (((!eqWorl)||(xTaskWa9 != xTaskWa4))=true →
 (∀wr5,ExtX [b,b1,b2] wv3 wr5→R (.bool false) wr5)) ∧
 (((!eqWorl)||(xTaskWa9 != xTaskWa4))=false →
 (∀wr6,ExtX [b,b1,b2] wv3 wr6→(∀bq∈([b,b1,b2,b3]:List Nat),bq<wr6.heap.size) →
 Calls Tryz.prog fn_laws_toWorld #[.agg #[.int .i64 aW0,.slice aW1O aW1L aW1C,.slice aW2O aW2L aW2C,.slice aW3O aW3L aW3C]] wr6 fun e4 wv4 =>
 (∃toWorl8 toWorl9O toWorl9L toWorl9C toWorl10O toWorl10L toWorl10C toWorl11O toWorl11L toWorl11C,
 e4 = .returned (.agg #[.int .i64 toWorl8,.slice toWorl9O toWorl9L toWorl9C,.slice toWorl10O toWorl10L toWorl10C,.slice toWorl11O toWorl11L toWorl11C])∧Kept [b,b1,b2,b3] wr6 wv4 ∧
 (some (ty_impl_World,([.int .i64 toWorl4,.slice toWorl5O toWorl5L toWorl5C,.slice toWorl6O toWorl6L toWorl6C,.slice toWorl7O toWorl7L toWorl7C]:List Value))=some (ty_impl_World,([.int .i64 toWorl4,.slice toWorl5O toWorl5L toWorl5C,.slice toWorl6O toWorl6L toWorl6C,.slice toWorl7O toWorl7L toWorl7C]:List Value))) ∧
 (∃eqWorl1,
 PureX [b,b1,b2,b3] Tryz.prog fn_laws_eqWorld #[.agg #[.int .i64 toWorl4,.slice toWorl5O toWorl5L toWorl5C,.slice toWorl6O toWorl6L toWorl6C,.slice toWorl7O toWorl7L toWorl7C],.agg #[.int .i64 toWorl8,.slice toWorl9O toWorl9L toWorl9C,.slice toWorl10O toWorl10L toWorl10C,.slice toWorl11O toWorl11L toWorl11C]] wv4 (.bool eqWorl1) ∧
 ((!eqWorl1)=true →
 (∀wr7,ExtX [b,b1,b2,b3] wv4 wr7→R (.bool false) wr7)) ∧
 ((!eqWorl1)=false →
 (∀wr8,ExtX [b,b1,b2,b3] wv4 wr8→(∀bq∈([b,b1,b2,b3]:List Nat),bq<wr8.heap.size) →
 Calls Tryz.prog fn_laws_markWorld #[.agg #[.int .i64 toWorl4,.slice toWorl5O toWorl5L toWorl5C,.slice toWorl6O toWorl6L toWorl6C,.slice toWorl7O toWorl7L toWorl7C],.int .i64 1] wr8 fun e5 wv5 =>
 (∃markWo,
 e5 = .returned (.int .i64 markWo)∧Kept [b,b1,b2,b3] wr8 wv5 ∧
 (∃eqWorl2,
 ((decide (markWo<0))=false→PureX [b,b1,b2,b3] Tryz.prog fn_laws_eqWorld #[.agg #[.int .i64 xTaskWa5,.slice xTaskWa6O xTaskWa6L xTaskWa6C,.slice xTaskWa7O xTaskWa7L xTaskWa7C,.slice xTaskWa8O xTaskWa8L xTaskWa8C],.agg #[.int .i64 xTaskWa,.slice xTaskWa1O xTaskWa1L xTaskWa1C,.slice xTaskWa2O xTaskWa2L xTaskWa2C,.slice xTaskWa3O xTaskWa3L xTaskWa3C]] wv5 (.bool eqWorl2)) ∧
 ((((decide (markWo<0))||(!eqWorl2))||(xTaskWa9 != xTaskWa4))=true →
 (∀wr9,ExtX [b,b1,b2,b3] wv5 wr9→R (.bool false) wr9)) ∧
 ((((decide (markWo<0))||(!eqWorl2))||(xTaskWa9 != xTaskWa4))=false →
 (∀wr10,ExtX [b,b1,b2,b3] wv5 wr10→(∀bq∈([b,b1,b2,b3]:List Nat),bq<wr10.heap.size) →
 Calls Tryz.prog fn_laws_markWorld #[.agg #[.int .i64 xTaskWa5,.slice xTaskWa6O xTaskWa6L xTaskWa6C,.slice xTaskWa7O xTaskWa7L xTaskWa7C,.slice xTaskWa8O xTaskWa8L xTaskWa8C],.int .i64 1] wr10 fun e6 wv6 =>
 (∃markWo1,
 e6 = .returned (.int .i64 markWo1)∧Kept [b,b1,b2,b3] wr10 wv6 ∧
 (∃heldWo,
 PureX [b,b1,b2,b3] Tryz.prog fn_laws_heldWorld #[.agg #[.int .i64 xTaskWa5,.slice xTaskWa6O xTaskWa6L xTaskWa6C,.slice xTaskWa7O xTaskWa7L xTaskWa7C,.slice xTaskWa8O xTaskWa8L xTaskWa8C],.int .i64 1] wv6 (.int .i64 heldWo) ∧
 ((decide (heldWo<0))=true →
 (∀wr11,ExtX [b,b1,b2,b3] wv6 wr11→R (.bool false) wr11)) ∧
 ((decide (heldWo<0))=false →
 ((heldWo != markWo1)=true →
 (∀wr12,ExtX [b,b1,b2,b3] wv6 wr12→R (.bool false) wr12)) ∧
 ((heldWo != markWo1)=false →
 (∀wr13,ExtX [b,b1,b2,b3] wv6 wr13→(∀bq∈([b,b1,b2,b3]:List Nat),bq<wr13.heap.size) →
 Calls Tryz.prog fn_laws_toWorld #[.agg #[.int .i64 aW0,.slice aW1O aW1L aW1C,.slice aW2O aW2L aW2C,.slice aW3O aW3L aW3C]] wr13 fun e7 wv7 =>
 (∃toWorl12 toWorl13O toWorl13L toWorl13C toWorl14O toWorl14L toWorl14C toWorl15O toWorl15L toWorl15C,
 e7 = .returned (.agg #[.int .i64 toWorl12,.slice toWorl13O toWorl13L toWorl13C,.slice toWorl14O toWorl14L toWorl14C,.slice toWorl15O toWorl15L toWorl15C])∧Kept [b,b1,b2,b3] wr13 wv7 ∧
 (∀wr14,ExtX [b,b1,b2,b3] wv7 wr14→(∀bq∈([b,b1,b2,b3]:List Nat),bq<wr14.heap.size) →
 Calls Tryz.prog fn_impl_TaskWake #[.agg #[.int .i64 toWorl12,.slice toWorl13O toWorl13L toWorl13C,.slice toWorl14O toWorl14L toWorl14C,.slice toWorl15O toWorl15L toWorl15C],.int .i64 aTask] wr14 fun e8 wv8 =>
 (∃xTaskWa10 xTaskWa11O xTaskWa11L xTaskWa11C xTaskWa12O xTaskWa12L xTaskWa12C xTaskWa13O xTaskWa13L xTaskWa13C xTaskWa14,
 e8 = .returned (.tuple #[.agg #[.int .i64 xTaskWa10,.slice xTaskWa11O xTaskWa11L xTaskWa11C,.slice xTaskWa12O xTaskWa12L xTaskWa12C,.slice xTaskWa13O xTaskWa13L xTaskWa13C],.int .i64 xTaskWa14])∧Kept [b,b1,b2,b3] wr14 wv8 ∧
 (∀b4,wv8.heap.size≤b4 →
 (∃eqWorl3,
 PureX [b,b1,b2,b3] Tryz.prog fn_laws_eqWorld #[.agg #[.int .i64 xTaskWa10,.slice xTaskWa11O xTaskWa11L xTaskWa11C,.slice xTaskWa12O xTaskWa12L xTaskWa12C,.slice xTaskWa13O xTaskWa13L xTaskWa13C],.agg #[.int .i64 xTaskWa,.slice xTaskWa1O xTaskWa1L xTaskWa1C,.slice xTaskWa2O xTaskWa2L xTaskWa2C,.slice xTaskWa3O xTaskWa3L xTaskWa3C]] wv8 (.bool eqWorl3) ∧
 (((!eqWorl3)||(xTaskWa14 != xTaskWa4))=true →
 (∀wr15,ExtX [b,b1,b2,b3] wv8 wr15→R (.bool false) wr15)) ∧
 (((!eqWorl3)||(xTaskWa14 != xTaskWa4))=false →
 (∃heldWo1,
 PureX [b,b1,b2,b3] Tryz.prog fn_laws_heldWorld #[.agg #[.int .i64 xTaskWa5,.slice xTaskWa6O xTaskWa6L xTaskWa6C,.slice xTaskWa7O xTaskWa7L xTaskWa7C,.slice xTaskWa8O xTaskWa8L xTaskWa8C],.int .i64 1] wv8 (.int .i64 heldWo1) ∧
 ((decide (heldWo1<0))=true →
 (∀wr16,ExtX [b,b1,b2,b3] wv8 wr16→R (.bool false) wr16)) ∧
 ((decide (heldWo1<0))=false →
 ((heldWo1 != markWo1)=true →
 (∀wr17,ExtX [b,b1,b2,b3] wv8 wr17→R (.bool false) wr17)) ∧
 ((heldWo1 != markWo1)=false →
 (∀wr18,ExtX [b,b1,b2,b3] wv8 wr18→R (.bool true) wr18))))))))))))))))))))))))))))))))))))))))
theorem e_laws_FnExactTaskWake (aW0 aW1O aW1L aW1C aW2O aW2L aW2C aW3O aW3L aW3C aTask):EfV (V_laws_FnExactTaskWake aW0 aW1O aW1L aW1C aW2O aW2L aW2C aW3O aW3L aW3C aTask) fn_laws_FnExactTaskWake #[.agg #[.int .i64 aW0,.slice aW1O aW1L aW1C,.slice aW2O aW2L aW2C,.slice aW3O aW3L aW3C],.int .i64 aTask]:=eV [] false [] Tryz.func4 (by kernel_rfl) (by kernel_rfl)
end Go.Proofs.YtajdcjidpolloaaGreatDoor
namespace Go.Proofs.YtajdcjidpolloaaGreatDoor
open Go.RowKit
set_option linter.unusedVariables false
set_option maxRecDepth 100000
set_option maxHeartbeats 1600000
def V_impl_early (timesO:Option Addr) (timesL timesC:Nat) (w:World) (R:Value→World→Prop):Prop :=
 (∃(xInv:List Value→Prop) (mu:List Value→Nat),xInv [.int .i64 0] ∧
 ∀(x:Int),xInv [.int .i64 x] →
 ((decide (x<(timesL:Int)))=true →
 Ix timesO timesL x ∧
 (∃x1,
 CellsX [] w timesO (Int.toNat x*1) [.int .i64 x1] ∧
 ((decide (x1>50000000000000000))=true →
 R (.bool false) w) ∧
 ((decide (x1>50000000000000000))=false →
 InR .i64 (x+1) ∧
 xInv [.int .i64 (x+1)]∧mu [.int .i64 (x+1)]<mu [.int .i64 x]))) ∧
 ((decide (x<(timesL:Int)))=false →
 R (.bool true) w))
theorem p_impl_early (timesO timesL timesC):PuV (V_impl_early timesO timesL timesC) fn_impl_early #[.slice timesO timesL timesC]:=pV [] false [(2,⟨[(7,.int .i64)],[],[5,6],[],[]⟩)] Tryz.func135 (by kernel_rfl) (by kernel_rfl)
def V_impl_World_room (wv:Option Addr) (w:World) (R:Value→World→Prop):Prop :=
 wv.isSome=true ∧
 (∃now,
 CellsX [] w wv (0+0) [.int .i64 now] ∧
 (∀b,w.heap.size≤b →
 (∃early,
 (∀wx,ExtX [] w wx→wx.heap[b]? = some (Obj.cells ([.int .i64 now]:List Value).toArray ty_int (0,0))→PureX [] Tryz.prog fn_impl_early #[.slice (some (Addr.mk b 0 none)) 1 1] wx (.bool early)) ∧
 wv.isSome=true ∧
 (∃cpusO cpusL cpusC,
 CellsX [] w wv (0+1) [.slice cpusO cpusL cpusC] ∧
 (∃(xInv:List Value→Prop) (mu:List Value→Nat),xInv [.bool early,.int .i64 0] ∧
 ∀(ok:Bool) (x:Int),xInv [.bool ok,.int .i64 x] →
 ((decide (x<(cpusL:Int)))=true →
 Ix cpusO cpusL x ∧
 (∃x0 x1 x2 x3 x4,
 CellsX [] w cpusO (Int.toNat x*5) [.bool x0,.int .i64 x1,.int .i64 x2,.int .i64 x3,.int .i64 x4] ∧
 (∀b1,w.heap.size≤b1 →
 (ok=true→(∀b2,w.heap.size≤b2 →
 (∃early1,
 (ok=true→(∀wx1,ExtX [] w wx1→wx1.heap[b2]? = some (Obj.cells ([.int .i64 x3,.int .i64 x4]:List Value).toArray ty_int (0,0))→PureX [] Tryz.prog fn_impl_early #[.slice (some (Addr.mk b2 0 none)) 2 2] wx1 (.bool early1))) ∧
 InR .i64 (x+1) ∧
 xInv [.bool (ok&&early1),.int .i64 (x+1)]∧mu [.bool (ok&&early1),.int .i64 (x+1)]<mu [.bool ok,.int .i64 x]))) ∧
 ((ok=true→False) →
 InR .i64 (x+1) ∧
 xInv [.bool false,.int .i64 (x+1)]∧mu [.bool false,.int .i64 (x+1)]<mu [.bool ok,.int .i64 x])))) ∧
 ((decide (x<(cpusL:Int)))=false →
 wv.isSome=true ∧
 (∃tasksO tasksL tasksC,
 CellsX [] w wv (0+2) [.slice tasksO tasksL tasksC] ∧
 (∃(xInv1:List Value→Prop) (mu1:List Value→Nat),xInv1 [.bool ok,.int .i64 0] ∧
 ∀(ok1:Bool) (x5:Int),xInv1 [.bool ok1,.int .i64 x5] →
 ((decide (x5<(tasksL:Int)))=true →
 Ix tasksO tasksL x5 ∧
 (∃x01 x11 x21 x31 x41 x51 x6 x7 x8,
 CellsX [] w tasksO (Int.toNat x5*9) [.int .i64 x01,.int .i64 x11,.int .i64 x21,.int .i64 x31,.int .i64 x41,.int .i64 x51,.int .i64 x6,.int .i64 x7,.int .i64 x8] ∧
 (∀b3,w.heap.size≤b3 →
 (ok1=true→(∀b4,w.heap.size≤b4 →
 (∃early2,
 (ok1=true→(∀wx2,ExtX [] w wx2→wx2.heap[b4]? = some (Obj.cells ([.int .i64 x51,.int .i64 x6,.int .i64 x7]:List Value).toArray ty_int (0,0))→PureX [] Tryz.prog fn_impl_early #[.slice (some (Addr.mk b4 0 none)) 3 3] wx2 (.bool early2))) ∧
 InR .i64 (x5+1) ∧
 xInv1 [.bool (ok1&&early2),.int .i64 (x5+1)]∧mu1 [.bool (ok1&&early2),.int .i64 (x5+1)]<mu1 [.bool ok1,.int .i64 x5]))) ∧
 ((ok1=true→False) →
 InR .i64 (x5+1) ∧
 xInv1 [.bool false,.int .i64 (x5+1)]∧mu1 [.bool false,.int .i64 (x5+1)]<mu1 [.bool ok1,.int .i64 x5])))) ∧
 ((decide (x5<(tasksL:Int)))=false →
 wv.isSome=true ∧
 (∃groupsO groupsL groupsC,
 CellsX [] w wv (0+3) [.slice groupsO groupsL groupsC] ∧
 (∃(xInv2:List Value→Prop) (mu2:List Value→Nat),xInv2 [.bool ok1,.int .i64 0] ∧
 ∀(ok2:Bool) (x9:Int),xInv2 [.bool ok2,.int .i64 x9] →
 ((decide (x9<(groupsL:Int)))=true →
 Ix groupsO groupsL x9 ∧
 (∃(x02:Bool) (x12:Int) (x22:ByteArray) (x32 x42 x52 x61 x71 x81 x91 x10:Int) (x111O:Option Addr) (x111L x111C:Nat) (x121O:Option Addr) (x121L x121C:Nat) (x13O:Option Addr) (x13L x13C:Nat),
 CellsX [] w groupsO (Int.toNat x9*14) [.bool x02,.int .i64 x12,.string x22,.int .i64 x32,.int .i64 x42,.int .i64 x52,.int .i64 x61,.int .i64 x71,.int .i64 x81,.int .i64 x91,.int .i64 x10,.slice x111O x111L x111C,.slice x121O x121L x121C,.slice x13O x13L x13C] ∧
 (∀b5,w.heap.size≤b5 →
 (ok2=true→(∀b6,w.heap.size≤b6 →
 (∃early3,
 (ok2=true→(∀wx3,ExtX [] w wx3→wx3.heap[b6]? = some (Obj.cells ([.int .i64 x71]:List Value).toArray ty_int (0,0))→PureX [] Tryz.prog fn_impl_early #[.slice (some (Addr.mk b6 0 none)) 1 1] wx3 (.bool early3))) ∧
 (∃(xInv3:List Value→Prop) (mu3:List Value→Nat),xInv3 [.bool (ok2&&early3),.int .i64 0] ∧
 ∀(ok3:Bool) (x14:Int),xInv3 [.bool ok3,.int .i64 x14] →
 ((decide (x14<(x13L:Int)))=true →
 Ix x13O x13L x14 ∧
 (∃x03 x15 x23 x33 x43,
 CellsX [] w x13O (Int.toNat x14*5) [.int .i64 x03,.bool x15,.int .i64 x23,.int .i64 x33,.int .i64 x43] ∧
 (∀b7,w.heap.size≤b7 →
 (ok3=true→(∀b8,w.heap.size≤b8 →
 (∃early4,
 (ok3=true→(∀wx4,ExtX [] w wx4→wx4.heap[b8]? = some (Obj.cells ([.int .i64 x03,.int .i64 x23,.int .i64 x43]:List Value).toArray ty_int (0,0))→PureX [] Tryz.prog fn_impl_early #[.slice (some (Addr.mk b8 0 none)) 3 3] wx4 (.bool early4))) ∧
 InR .i64 (x14+1) ∧
 xInv3 [.bool (ok3&&early4),.int .i64 (x14+1)]∧mu3 [.bool (ok3&&early4),.int .i64 (x14+1)]<mu3 [.bool ok3,.int .i64 x14]))) ∧
 ((ok3=true→False) →
 InR .i64 (x14+1) ∧
 xInv3 [.bool false,.int .i64 (x14+1)]∧mu3 [.bool false,.int .i64 (x14+1)]<mu3 [.bool ok3,.int .i64 x14])))) ∧
 ((decide (x14<(x13L:Int)))=false →
 InR .i64 (x9+1) ∧
 xInv2 [.bool ok3,.int .i64 (x9+1)]∧mu2 [.bool ok3,.int .i64 (x9+1)]<mu2 [.bool ok2,.int .i64 x9]))))) ∧
 ((ok2=true→False) →
 (∃(xInv4:List Value→Prop) (mu4:List Value→Nat),xInv4 [.bool false,.int .i64 0] ∧
 ∀(ok4:Bool) (x16:Int),xInv4 [.bool ok4,.int .i64 x16] →
 ((decide (x16<(x13L:Int)))=true →
 Ix x13O x13L x16 ∧
 (∃x04 x17 x24 x34 x44,
 CellsX [] w x13O (Int.toNat x16*5) [.int .i64 x04,.bool x17,.int .i64 x24,.int .i64 x34,.int .i64 x44] ∧
 (∀b9,w.heap.size≤b9 →
 (ok4=true→(∀b10,w.heap.size≤b10 →
 (∃early5,
 (ok4=true→(∀wx5,ExtX [] w wx5→wx5.heap[b10]? = some (Obj.cells ([.int .i64 x04,.int .i64 x24,.int .i64 x44]:List Value).toArray ty_int (0,0))→PureX [] Tryz.prog fn_impl_early #[.slice (some (Addr.mk b10 0 none)) 3 3] wx5 (.bool early5))) ∧
 InR .i64 (x16+1) ∧
 xInv4 [.bool (ok4&&early5),.int .i64 (x16+1)]∧mu4 [.bool (ok4&&early5),.int .i64 (x16+1)]<mu4 [.bool ok4,.int .i64 x16]))) ∧
 ((ok4=true→False) →
 InR .i64 (x16+1) ∧
 xInv4 [.bool false,.int .i64 (x16+1)]∧mu4 [.bool false,.int .i64 (x16+1)]<mu4 [.bool ok4,.int .i64 x16])))) ∧
 ((decide (x16<(x13L:Int)))=false →
 InR .i64 (x9+1) ∧
 xInv2 [.bool ok4,.int .i64 (x9+1)]∧mu2 [.bool ok4,.int .i64 (x9+1)]<mu2 [.bool ok2,.int .i64 x9])))))) ∧
 ((decide (x9<(groupsL:Int)))=false →
 R (.bool ok2) w))))))))))))
theorem p_impl_World_room (wv):PuV (V_impl_World_room wv) fn_impl_World_room #[.pointer wv]:=pV [] false [(3,⟨[(3,.bool),(23,.int .i64)],[],[0,21,22],[],[]⟩),(8,⟨[(3,.bool),(42,.int .i64)],[],[0,40,41],[],[]⟩),(13,⟨[(3,.bool),(63,.int .i64)],[],[61,62],[],[]⟩),(17,⟨[(3,.bool),(77,.int .i64)],[],[61,62,63,75,76],[],[]⟩)] Tryz.func62 (by kernel_rfl) (by kernel_rfl)
def V_impl_World_crowd (wv:Option Addr) (cpu:Int) (w:World) (R:Value→World→Prop):Prop :=
 wv.isSome=true ∧
 (∃tasksO tasksL tasksC,
 CellsX [] w wv (0+2) [.slice tasksO tasksL tasksC] ∧
 (∃(xInv:List Value→Prop) (mu:List Value→Nat),xInv [.int .i64 0,.int .i64 0,.int .i64 0] ∧
 ∀(load count x:Int),xInv [.int .i64 load,.int .i64 count,.int .i64 x] →
 ((decide (x<(tasksL:Int)))=true →
 Ix tasksO tasksL x ∧
 (∃x0 x1 x2 x3 x4 x5 x6 x7 x8,
 CellsX [] w tasksO (Int.toNat x*9) [.int .i64 x0,.int .i64 x1,.int .i64 x2,.int .i64 x3,.int .i64 x4,.int .i64 x5,.int .i64 x6,.int .i64 x7,.int .i64 x8] ∧
 (∀b,w.heap.size≤b →
 (((x0==1)&&(x2==cpu))=true →
 InR .i64 (load+x8) ∧
 InR .i64 (count+1) ∧
 InR .i64 (x+1) ∧
 xInv [.int .i64 (load+x8),.int .i64 (count+1),.int .i64 (x+1)]∧mu [.int .i64 (load+x8),.int .i64 (count+1),.int .i64 (x+1)]<mu [.int .i64 load,.int .i64 count,.int .i64 x]) ∧
 (((x0==1)&&(x2==cpu))=false →
 InR .i64 (x+1) ∧
 xInv [.int .i64 load,.int .i64 count,.int .i64 (x+1)]∧mu [.int .i64 load,.int .i64 count,.int .i64 (x+1)]<mu [.int .i64 load,.int .i64 count,.int .i64 x])))) ∧
 ((decide (x<(tasksL:Int)))=false →
 R (.tuple #[.int .i64 load,.int .i64 count]) w)))
theorem p_impl_World_crowd (wv cpu):PuV (V_impl_World_crowd wv cpu) fn_impl_World_crowd #[.pointer wv,.int .i64 cpu]:=pV [] false [(3,⟨[(6,.int .i64),(7,.int .i64),(15,.int .i64)],[],[1,13,14],[],[]⟩)] Tryz.func63 (by kernel_rfl) (by kernel_rfl)
def V_impl_World_bestCpu (wv:Option Addr) (set:Int) (w:World) (R:Value→World→Prop):Prop :=
 (∀b wb,ExtX [] w wb→w.heap.size≤b→wb.heap[b]? = some (Obj.cells ([.pointer wv]:List Value).toArray ty_p_impl_World (0,0))→b∉([]:List Nat) →
 (∀wr,ExtX [] wb wr→(∀bq∈([]:List Nat),bq<wr.heap.size) →
 Calls Tryz.prog fn_impl_cpuSet_members #[.int .i64 set] wr fun e wv1 =>
 (∃(memberF:Fn) (memberA:Array Value) (memberK:Array Value),
 e = .returned (.func memberF memberA memberK)∧Kept [] wr wv1 ∧
 (∀wr1,ExtX [] wv1 wr1→(∀bq∈([]:List Nat),bq<wr1.heap.size) →
 Calls Tryz.prog fn_impl_best_int #[.func memberF memberA memberK,.func (.func fn_impl_World_bestCpu_1) #[] #[.pointer ((some (Addr.mk b 0 none)).map (·.add 0))]] wr1 fun e1 wv2 =>
 (∃(int:Int) (int1:Bool),
 e1 = .returned (.tuple #[.int .i64 int,.bool int1])∧Kept [] wr1 wv2 ∧
 (∀wr2,ExtX [] wv2 wr2→R (.int .i64 int) wr2))))))
theorem e_impl_World_bestCpu (wv set):EfV (V_impl_World_bestCpu wv set) fn_impl_World_bestCpu #[.pointer wv,.int .i64 set]:=eV [2] false [] Tryz.func64 (by kernel_rfl) (by kernel_rfl)
def V_impl_TaskWake_1 (wv cap:Option Addr) (w:World) (R:Value→World→Prop):Prop :=
 (∃x,
 CellsX [] w cap 0 [.int .i64 x] ∧
 (∃taskTh,
 PureX [] Tryz.prog fn_impl_World_taskThere #[.pointer wv,.int .i64 x] w (.bool taskTh) ∧
 ((!taskTh)=true →
 (∀wr,ExtX [] w wr→R (.iface ty_impl_refusal (.agg #[.int .i64 2])) wr)) ∧
 ((!taskTh)=false →
 wv.isSome=true ∧
 (∃tasksO tasksL tasksC,
 CellsX [] w wv (0+2) [.slice tasksO tasksL tasksC] ∧
 (∃x1,
 CellsX [] w cap 0 [.int .i64 x1] ∧
 Ix tasksO tasksL x1 ∧
 (∃state,
 CellsX [] w tasksO (Int.toNat x1*9+0) [.int .i64 state] ∧
 ((state != 2)=true →
 (∀wr1,ExtX [] w wr1→R (.iface ty_impl_refusal (.agg #[.int .i64 6])) wr1)) ∧
 ((state != 2)=false →
 (∃room,
 PureX [] Tryz.prog fn_impl_World_room #[.pointer wv] w (.bool room) ∧
 ((!room)=true →
 (∀wr2,ExtX [] w wr2→R (.iface ty_impl_refusal (.agg #[.int .i64 10])) wr2)) ∧
 ((!room)=false →
 (∃cpu,
 CellsX [] w tasksO (Int.toNat x1*9+2) [.int .i64 cpu] ∧
 (∃crowd crowd1,
 PureX [] Tryz.prog fn_impl_World_crowd #[.pointer wv,.int .i64 cpu] w (.tuple #[.int .i64 crowd,.int .i64 crowd1]) ∧
 ((decide (crowd1>0))=true →
 (∃x2,
 CellsX [] w cap 0 [.int .i64 x2] ∧
 (∃allowe,
 PureX [] Tryz.prog fn_impl_World_allowed #[.pointer wv,.int .i64 x2] w (.int .i64 allowe) ∧
 (∀wr3,ExtX [] w wr3→(∀bq∈([]:List Nat),bq<wr3.heap.size) →
 Calls Tryz.prog fn_impl_World_bestCpu #[.pointer wv,.int .i64 allowe] wr3 fun e wv1 =>
 (∃bestCp,
 e = .returned (.int .i64 bestCp)∧Kept [] wr3 wv1 ∧
 (∃x3,
 CellsX [] wv1 cap 0 [.int .i64 x3] ∧
 (∃group,
 CellsX [] wv1 tasksO (Int.toNat x1*9+1) [.int .i64 group] ∧
 (∀wr4,ExtX [] wv1 wr4→(∀bq∈([]:List Nat),bq<wr4.heap.size) →
 Calls Tryz.prog fn_impl_World_put #[.pointer wv,.int .i64 x3,.int .i64 group,.int .i64 bestCp] wr4 fun e1 wv2 =>
 e1 = .returned (.tuple #[])∧Kept [] wr4 wv2 ∧
 WrX [] wv2 tasksO (Int.toNat x1*9+0) 1 ∧
 (∃lane lane1,
 PureX [] Tryz.prog fn_impl_World_lane #[.pointer wv,.int .i64 bestCp] (sto wv2 tasksO (Int.toNat x1*9+0) [.int .i64 1]) (.agg #[.pointer lane,.int .i64 lane1]) ∧
 (∀wr5,ExtX [] (sto wv2 tasksO (Int.toNat x1*9+0) [.int .i64 1]) wr5→(∀bq∈([]:List Nat),bq<wr5.heap.size) →
 Calls Tryz.prog fn_impl_lane_endSlice #[.agg #[.pointer lane,.int .i64 lane1]] wr5 fun e2 wv3 =>
 e2 = .returned (.tuple #[])∧Kept [] wr5 wv3 ∧
 (∀wr6,ExtX [] wv3 wr6→(∀bq∈([]:List Nat),bq<wr6.heap.size) →
 Calls Tryz.prog fn_impl_World_settle #[.pointer wv] wr6 fun e3 wv4 =>
 e3 = .returned (.tuple #[])∧Kept [] wr6 wv4 ∧
 (∀wr7,ExtX [] wv4 wr7→R .nilIface wr7)))))))))))) ∧
 ((decide (crowd1>0))=false →
 (∃x4,
 CellsX [] w cap 0 [.int .i64 x4] ∧
 (∃group1,
 CellsX [] w tasksO (Int.toNat x1*9+1) [.int .i64 group1] ∧
 (∀wr8,ExtX [] w wr8→(∀bq∈([]:List Nat),bq<wr8.heap.size) →
 Calls Tryz.prog fn_impl_World_put #[.pointer wv,.int .i64 x4,.int .i64 group1,.int .i64 cpu] wr8 fun e4 wv5 =>
 e4 = .returned (.tuple #[])∧Kept [] wr8 wv5 ∧
 WrX [] wv5 tasksO (Int.toNat x1*9+0) 1 ∧
 (∃lane2 lane3,
 PureX [] Tryz.prog fn_impl_World_lane #[.pointer wv,.int .i64 cpu] (sto wv5 tasksO (Int.toNat x1*9+0) [.int .i64 1]) (.agg #[.pointer lane2,.int .i64 lane3]) ∧
 (∀wr9,ExtX [] (sto wv5 tasksO (Int.toNat x1*9+0) [.int .i64 1]) wr9→(∀bq∈([]:List Nat),bq<wr9.heap.size) →
 Calls Tryz.prog fn_impl_lane_endSlice #[.agg #[.pointer lane2,.int .i64 lane3]] wr9 fun e5 wv6 =>
 e5 = .returned (.tuple #[])∧Kept [] wr9 wv6 ∧
 (∀wr10,ExtX [] wv6 wr10→(∀bq∈([]:List Nat),bq<wr10.heap.size) →
 Calls Tryz.prog fn_impl_World_settle #[.pointer wv] wr10 fun e6 wv7 =>
 e6 = .returned (.tuple #[])∧Kept [] wr10 wv7 ∧
 (∀wr11,ExtX [] wv7 wr11→R .nilIface wr11)))))))))))))))))))
theorem e_impl_TaskWake_1 (wv cap):EfV (V_impl_TaskWake_1 wv cap) fn_impl_TaskWake_1 #[.pointer wv,.pointer cap]:=eV [] false [] Tryz.func60 (by kernel_rfl) (by kernel_rfl)
def V_impl_World_bestCpu_1 (a b:Int) (cap:Option Addr) (w:World) (R:Value→World→Prop):Prop :=
 (∃x,
 CellsX [] w cap 0 [.pointer x] ∧
 (∃crowd crowd1,
 PureX [] Tryz.prog fn_impl_World_crowd #[.pointer x,.int .i64 a] w (.tuple #[.int .i64 crowd,.int .i64 crowd1]) ∧
 (∃x1,
 CellsX [] w cap 0 [.pointer x1] ∧
 (∃crowd2 crowd3,
 PureX [] Tryz.prog fn_impl_World_crowd #[.pointer x1,.int .i64 b] w (.tuple #[.int .i64 crowd2,.int .i64 crowd3]) ∧
 R (.bool ((decide (crowd<crowd2))||((crowd==crowd2)&&(decide (crowd1<crowd3))))) w))))
theorem p_impl_World_bestCpu_1 (a b cap):PuV (V_impl_World_bestCpu_1 a b cap) fn_impl_World_bestCpu_1 #[.int .i64 a,.int .i64 b,.pointer cap]:=pV [] false [] Tryz.func137 (by kernel_rfl) (by kernel_rfl)
end Go.Proofs.YtajdcjidpolloaaGreatDoor
namespace Go.Proofs.YtajdcjidpolloaaGreatDoor
open Go.RowKit
set_option linter.unusedVariables false
set_option maxRecDepth 100000
set_option maxHeartbeats 1600000
def V_impl_cpuSet_members_1 (yieldF:Fn) (yieldA:Array Value) (yieldK:Array Value) (cap:Option Addr) (w:World) (R:Value→World→Prop):Prop :=
 (∃(xInv:List Value→World→Prop) (mu:List Value→World→Nat),(∀wr,ExtX [] w wr→(∀bq∈([]:List Nat),bq<wr.heap.size)→xInv [.int .i64 0] wr) ∧
 ∀(x:Int) wv,(∀bq∈([]:List Nat),bq<wv.heap.size)→xInv [.int .i64 x] wv →
 ((decide (x<4))=true →
 (∃x1,
 CellsX [] wv cap 0 [.int .i64 x1] ∧
 (∃has,
 PureX [] Tryz.prog fn_impl_cpuSet_has #[.int .i64 x1,.int .i64 x] wv (.bool has) ∧
 (has=true→(∀wr1,ExtX [] wv wr1→(∀bq∈([]:List Nat),bq<wr1.heap.size) →
 CallF Tryz.prog (.func yieldF yieldA yieldK) [.int .i64 x] wr1 fun e wv1 =>
 (∃rv,
 e = .returned (.bool rv)∧Kept [] wr1 wv1 ∧
 ((has&&(!rv))=true →
 (∀wr2,ExtX [] wv1 wr2→R (.tuple #[]) wr2)) ∧
 ((has&&(!rv))=false →
 InR .i64 (x+1) ∧
 (∀wr3,ExtX [] wv1 wr3→(∀bq∈([]:List Nat),bq<wr3.heap.size)→xInv [.int .i64 (x+1)] wr3∧mu [.int .i64 (x+1)] wr3<mu [.int .i64 x] wv))))) ∧
 ((has=true→False) →
 (false=true →
 (∀wr4,ExtX [] wv wr4→R (.tuple #[]) wr4)) ∧
 (false=false →
 InR .i64 (x+1) ∧
 (∀wr5,ExtX [] wv wr5→(∀bq∈([]:List Nat),bq<wr5.heap.size)→xInv [.int .i64 (x+1)] wr5∧mu [.int .i64 (x+1)] wr5<mu [.int .i64 x] wv)))))) ∧
 ((decide (x<4))=false →
 (∀wr6,ExtX [] wv wr6→R (.tuple #[]) wr6)))
theorem e_impl_cpuSet_members_1 (yieldF yieldA yieldK cap):EfV (V_impl_cpuSet_members_1 yieldF yieldA yieldK cap) fn_impl_cpuSet_members_1 #[.func yieldF yieldA yieldK,.pointer cap]:=eV [] false [(1,⟨[(4,.int .i64)],[],[0,1],[],[]⟩)] Tryz.func182 (by kernel_rfl) (by kernel_rfl)
noncomputable def c_impl_best_int_pre (l:Option Nat):Cfg:={ P:=Tryz.prog,T:=tblGet tbl,pf:=pfT,ef:=efT,tt:=ttT,vis:=[3,6,7],n:=22,pm:=false,wr:=false,rd:=l }
noncomputable def s_impl_best_int_pre:List (Nat×LSpec):=[]
noncomputable def t_impl_best_int_pre:List Code:=[cL ((bodyOf Tryz.f136)),cL (cR ((bodyOf Tryz.f136))),cL (cR (cR ((bodyOf Tryz.f136))))]
def V_impl_best_int_pre (beforeF:Fn) (beforeA:Array Value) (beforeK:Array Value) (w:World) (R:Exit→List Value→World→Prop):Prop :=
 (∀b wb,ExtX [] w wb→w.heap.size≤b→wb.heap[b]? = some (Obj.cells ([.func beforeF beforeA beforeK]:List Value).toArray 120 (0,0))→b∉([]:List Nat) →
 (∀b1 wb1,ExtX [] wb wb1→wb.heap.size≤b1→wb1.heap[b1]? = some (Obj.cells ([.int .i64 0]:List Value).toArray ty_int (0,0))→b1∉([]:List Nat) →
 (∀b2 wb2,ExtX [] wb1 wb2→wb1.heap.size≤b2→wb2.heap[b2]? = some (Obj.cells ([.bool false]:List Value).toArray ty_bool (0,0))→b2∉([]:List Nat) →
 WrX [] wb2 (some (Addr.mk b2 0 none)) 0 1 ∧
 (∀wr,ExtX [] (sto wb2 (some (Addr.mk b2 0 none)) 0 [.bool false]) wr→R .normal [.pointer ((some (Addr.mk b 0 none)).map (·.add 0)),.pointer ((some (Addr.mk b1 0 none)).map (·.add 0)),.pointer ((some (Addr.mk b2 0 none)).map (·.add 0))] wr))))
theorem v_impl_best_int_pre (l:Option Nat) (beforeF:Fn) (beforeA:Array Value) (beforeK:Array Value) (w:World) (R:Exit→List Value→World→Prop):evL (c_impl_best_int_pre l) s_impl_best_int_pre t_impl_best_int_pre (fragSt [(1,.func beforeF beforeA beforeK)]) w (fragK [3,6,7] R)=V_impl_best_int_pre beforeF beforeA beforeK w R:=by kernel_rfl
theorem g_impl_best_int_pre (l:Option Nat) (beforeF:Fn) (beforeA:Array Value) (beforeK:Array Value) {w:World} {R:Exit→List Value→World→Prop} {X:Code} {Q:Exit→Act→World→Prop} {a:Act} (hn:a.tmps.size=22) (hin:insOk [(1,.func beforeF beforeA beforeK)] a) (hvc:V_impl_best_int_pre beforeF beforeA beforeK w R) (hX:∀vs a1 w1,R .normal vs w1→FrO (dstsLs t_impl_best_int_pre) [3,6,7] a a1 vs→X.wpIn (fnc l) 0 Tryz.prog Q a1 w1) (hQ:∀e vs a1 w1,e≠.normal→R e vs w1→FrO (dstsLs t_impl_best_int_pre) [3,6,7] a a1 vs→Q e a1 w1):(seqs t_impl_best_int_pre X).wpIn (fnc l) 0 Tryz.prog Q a w :=
 fragL (C:=c_impl_best_int_pre l) (env _ _ _ _ _) hn hin (by rw [v_impl_best_int_pre]; exact hvc) hX hQ
noncomputable def c_impl_best_int_mid (l:Option Nat):Cfg:={ P:=Tryz.prog,T:=tblGet tbl,pf:=pfT,ef:=efT,tt:=ttT,vis:=[],n:=22,pm:=false,wr:=false,rd:=l }
noncomputable def s_impl_best_int_mid:List (Nat×LSpec):=[]
noncomputable def t_impl_best_int_mid:Code:=(cL (cL (cR (cR (cR ((bodyOf Tryz.f136)))))))
def V_impl_best_int_mid (fromvF:Fn) (fromvA:Array Value) (fromvK:Array Value) (w:World) (R:Exit→List Value→World→Prop):Prop :=
 (∀wr,ExtX [] w wr→R .normal [.func fromvF fromvA fromvK] wr)
theorem v_impl_best_int_mid (l:Option Nat) (fromvF:Fn) (fromvA:Array Value) (fromvK:Array Value) (w:World) (R:Exit→List Value→World→Prop):evC (c_impl_best_int_mid l) s_impl_best_int_mid t_impl_best_int_mid (fragSt [(0,.func fromvF fromvA fromvK)]) w (fragK [9] R)=V_impl_best_int_mid fromvF fromvA fromvK w R:=by kernel_rfl
theorem g_impl_best_int_mid (l:Option Nat) (fromvF:Fn) (fromvA:Array Value) (fromvK:Array Value) {w:World} {R:Exit→List Value→World→Prop} {Q:Exit→Act→World→Prop} {a:Act} (hn:a.tmps.size=22) (hin:insOk [(0,.func fromvF fromvA fromvK)] a) (hvc:V_impl_best_int_mid fromvF fromvA fromvK w R) (hQ:∀e vs a1 w1,R e vs w1→FrO (dstsC t_impl_best_int_mid) [9] a a1 vs→Q e a1 w1):t_impl_best_int_mid.wpIn (fnc l) 0 Tryz.prog Q a w :=
 fragC (C:=c_impl_best_int_mid l) (env _ _ _ _ _) hn hin (by rw [v_impl_best_int_mid]; exact hvc) hQ
noncomputable def c_impl_best_int_asg (l:Option Nat):Cfg:={ P:=Tryz.prog,T:=tblGet tbl,pf:=pfT,ef:=efT,tt:=ttT,vis:=[],n:=22,pm:=false,wr:=false,rd:=l }
noncomputable def s_impl_best_int_asg:List (Nat×LSpec):=[]
noncomputable def t_impl_best_int_asg:Code:=(rfA (cB (cR (cL (cR (cR (cR ((bodyOf Tryz.f136)))))))))
def V_impl_best_int_asg (x:Int) (w:World) (R:Exit→List Value→World→Prop):Prop :=
 (∀wr,ExtX [] w wr→R .normal [.int .i64 x] wr)
theorem v_impl_best_int_asg (l:Option Nat) (x:Int) (w:World) (R:Exit→List Value→World→Prop):evC (c_impl_best_int_asg l) s_impl_best_int_asg t_impl_best_int_asg (fragSt [(10,.int .i64 x)]) w (fragK [8] R)=V_impl_best_int_asg x w R:=by kernel_rfl
theorem g_impl_best_int_asg (l:Option Nat) (x:Int) {w:World} {R:Exit→List Value→World→Prop} {Q:Exit→Act→World→Prop} {a:Act} (hn:a.tmps.size=22) (hin:insOk [(10,.int .i64 x)] a) (hvc:V_impl_best_int_asg x w R) (hQ:∀e vs a1 w1,R e vs w1→FrO (dstsC t_impl_best_int_asg) [8] a a1 vs→Q e a1 w1):t_impl_best_int_asg.wpIn (fnc l) 0 Tryz.prog Q a w :=
 fragC (C:=c_impl_best_int_asg l) (env _ _ _ _ _) hn hin (by rw [v_impl_best_int_asg]; exact hvc) hQ
noncomputable def c_impl_best_int_body (l:Option Nat):Cfg:={ P:=Tryz.prog,T:=tblGet tbl,pf:=pfT,ef:=efT,tt:=ttT,vis:=[],n:=22,pm:=false,wr:=false,rd:=l }
noncomputable def s_impl_best_int_body:List (Nat×LSpec):=[]
noncomputable def t_impl_best_int_body:Code:=(rfB (cB (cR (cL (cR (cR (cR ((bodyOf Tryz.f136)))))))))
def V_impl_best_int_body (before firstv somev:Option Addr) (x:Int) (w:World) (R:Exit→List Value→World→Prop):Prop :=
 (∃(x1:Bool),
 CellsX [] w somev 0 [.bool x1] ∧
 (∃(x2F:Fn) (x2A:Array Value) (x2K:Array Value),
 ((!x1)=false→CellsX [] w before 0 [.func x2F x2A x2K]) ∧
 (∃(x3:Int),
 ((!x1)=false→CellsX [] w firstv 0 [.int .i64 x3]) ∧
 ((!x1)=false→(∀wr,ExtX [] w wr→(∀bq∈([]:List Nat),bq<wr.heap.size) →
 CallF Tryz.prog (.func x2F x2A x2K) [.int .i64 x,.int .i64 x3] wr fun e wv =>
 (∃(rv:Bool),
 e = .returned (.bool rv)∧Kept [] wr wv ∧
 (((!x1)||rv)=true →
 WrX [] wv firstv 0 1 ∧
 WrX [] (sto wv firstv 0 [.int .i64 x]) somev 0 1 ∧
 (∀wr1,ExtX [] (sto (sto wv firstv 0 [.int .i64 x]) somev 0 [.bool true]) wr1→R .normal [] wr1)) ∧
 (((!x1)||rv)=false →
 (∀wr2,ExtX [] wv wr2→R .normal [] wr2))))) ∧
 (((!x1)=false→False) →
 (true=true →
 WrX [] w firstv 0 1 ∧
 WrX [] (sto w firstv 0 [.int .i64 x]) somev 0 1 ∧
 (∀wr3,ExtX [] (sto (sto w firstv 0 [.int .i64 x]) somev 0 [.bool true]) wr3→R .normal [] wr3)) ∧
 (true=false →
 (∀wr4,ExtX [] w wr4→R .normal [] wr4))))))
theorem v_impl_best_int_body (l:Option Nat) (before:Option Addr) (firstv:Option Addr) (somev:Option Addr) (x:Int) (w:World) (R:Exit→List Value→World→Prop):evC (c_impl_best_int_body l) s_impl_best_int_body t_impl_best_int_body (fragSt [(3,.pointer before),(6,.pointer firstv),(7,.pointer somev),(8,.int .i64 x)]) w (fragK [] R)=V_impl_best_int_body before firstv somev x w R:=by kernel_rfl
theorem g_impl_best_int_body (l:Option Nat) (before:Option Addr) (firstv:Option Addr) (somev:Option Addr) (x:Int) {w:World} {R:Exit→List Value→World→Prop} {Q:Exit→Act→World→Prop} {a:Act} (hn:a.tmps.size=22) (hin:insOk [(3,.pointer before),(6,.pointer firstv),(7,.pointer somev),(8,.int .i64 x)] a) (hvc:V_impl_best_int_body before firstv somev x w R) (hQ:∀e vs a1 w1,R e vs w1→FrO (dstsC t_impl_best_int_body) [] a a1 vs→Q e a1 w1):t_impl_best_int_body.wpIn (fnc l) 0 Tryz.prog Q a w :=
 fragC (C:=c_impl_best_int_body l) (env _ _ _ _ _) hn hin (by rw [v_impl_best_int_body]; exact hvc) hQ
noncomputable def c_impl_best_int_post (l:Option Nat):Cfg:={ P:=Tryz.prog,T:=tblGet tbl,pf:=pfT,ef:=efT,tt:=ttT,vis:=[],n:=22,pm:=false,wr:=false,rd:=l }
noncomputable def s_impl_best_int_post:List (Nat×LSpec):=[]
noncomputable def t_impl_best_int_post:Code:=(cR (cR (cR (cR ((bodyOf Tryz.f136))))))
def V_impl_best_int_post (firstv somev:Option Addr) (w:World) (R:Exit→List Value→World→Prop):Prop :=
 (∃(x:Int),
 CellsX [] w firstv 0 [.int .i64 x] ∧
 (∃(x1:Bool),
 CellsX [] w somev 0 [.bool x1] ∧
 (∀wr,ExtX [] w wr→R .ret [.int .i64 x,.bool x1] wr)))
theorem v_impl_best_int_post (l:Option Nat) (firstv:Option Addr) (somev:Option Addr) (w:World) (R:Exit→List Value→World→Prop):evC (c_impl_best_int_post l) s_impl_best_int_post t_impl_best_int_post (fragSt [(6,.pointer firstv),(7,.pointer somev)]) w (fragK [4,5] R)=V_impl_best_int_post firstv somev w R:=by kernel_rfl
theorem g_impl_best_int_post (l:Option Nat) (firstv:Option Addr) (somev:Option Addr) {w:World} {R:Exit→List Value→World→Prop} {Q:Exit→Act→World→Prop} {a:Act} (hn:a.tmps.size=22) (hin:insOk [(6,.pointer firstv),(7,.pointer somev)] a) (hvc:V_impl_best_int_post firstv somev w R) (hQ:∀e vs a1 w1,R e vs w1→FrO (dstsC t_impl_best_int_post) [4,5] a a1 vs→Q e a1 w1):t_impl_best_int_post.wpIn (fnc l) 0 Tryz.prog Q a w :=
 fragC (C:=c_impl_best_int_post l) (env _ _ _ _ _) hn hin (by rw [v_impl_best_int_post]; exact hvc) hQ
end Go.Proofs.YtajdcjidpolloaaGreatDoor
namespace Go.Proofs.YtajdcjidpolloaaGreatDoor
open Go.RowKit
set_option linter.unusedVariables false
set_option linter.unusedSimpArgs false
set_option maxRecDepth 10000
theorem k_szIntS {o:Option Addr} {n c:Nat} {left:Int} {w:World} {bs:List Nat} (hn:n≤maxLen) (hl:0≤left) (hl2:left≤1048576):PureX bs Tryz.prog fn_laws_szIntS #[.slice o n c,.int .i64 left] w (.int .i64 (szN n left)) :=
 p_laws_szIntS o n c left fun wr hx=>by
  have:=maxLen_le
  exact ⟨⟨by omega,by omega⟩,fun h=>by rw [szN,if_pos (of_decide_eq_true h)],fun h=>by rw [szN,if_neg (of_decide_eq_false h)]⟩
theorem k_eqIntS {a b:List Int} {aO bO:Option Addr} {aC bC:Nat} {w:World} {bs:List Nat} (ha:RdI bs w aO a) (hb:RdI bs w bO b) (ha9:a.length≤maxLen):PureX bs Tryz.prog fn_laws_eqIntS #[.slice aO a.length aC,.slice bO b.length bC] w (.bool (decide (a=b))) :=
 p_laws_eqIntS aO a.length aC bO b.length bC fun wr hx=>by
  have ha:=(ha.ext hx).less (cs:=[]) (by simp)
  have hb:=(hb.ext hx).less (cs:=[]) (by simp)
  refine ⟨fun h => ?_,fun h => ?_⟩
  ·have h:a.length≠b.length:=by simpa [Int.ofNat_inj] using h
   rw [decide_eq_false fun e=>h (by rw [e])]
  ·have hl:a.length=b.length:=by simpa [Int.ofNat_inj] using h
   refine loop1 a.length 0 rfl (fun k=>k≤a.length∧∀j:Nat,j<k→gi a (j:Int)=gi b (j:Int)) ⟨Nat.zero_le _,fun j hj=>absurd hj (Nat.not_lt_zero j)⟩ fun k ⟨hk,hI⟩=>⟨fun hlt => ?_,fun hge => ?_⟩
   ·have hlt:=of_decide_eq_true hlt
    refine ⟨ha.ix encI_c (by omega) hlt,_,ha k (by omega) hlt,hb.ix encI_c (by omega) (by omega),_,hb k (by omega) (by omega),fun hne => ?_,fun heq=>⟨inR_nat hlt ha9,loop1_next (by omega) ?_⟩⟩
    ·have hne:gi a (k:Int)≠gi b (k:Int):=by simpa using hne
     rw [decide_eq_false fun e=>hne (by rw [e])]
    ·have heq:gi a (k:Int)=gi b (k:Int):=by simpa using heq
     exact ⟨by omega,fun j hj=>by
      by_cases hjk:j<k
      ·exact hI j hjk
      ·have:j=k:=by omega
       subst this; exact heq⟩
   ·have hge:=of_decide_eq_false hge
    have hk:k=a.length:=by omega
    subst hk
    rw [decide_eq_true (gi_ext hl hI)]
theorem k_toIntS {l:List Int} {o:Option Addr} {c:Nat} {w:World} (h:RdI [] w o l) (hl:l.length≤1048576) :
  Calls Tryz.prog fn_laws_toIntS #[.slice o l.length c] w fun e w'=>∃o' c',e = .returned (.slice o' l.length c')∧Own encI 1 ty_int w.heap.size w' o' c' l∧ExtX [] w w':=by
 refine (e_laws_toIntS o l.length c (R:=fun v w'=>∃o' c',v = .slice o' l.length c'∧Own encI 1 ty_int w.heap.size w' o' c' l∧ExtX [] w w') ?_).mono fun e w' ⟨v,he,o',c',hv,h1,h2⟩=>⟨o',c',by rw [he,hv],h1,h2⟩
 have hm:=maxLen_big
 refine fun wr hx _=>⟨_,_,_,_,run_mk elt_Int u_sl_int l.length (by omega) (by omega) wr,kept_nil,?_⟩
 refine loop1w l.length 0 rfl (fun k w1=>k≤l.length∧Own encI 1 ty_int wr.heap.size w1 (some ⟨wr.heap.size,0,none⟩) l.length (l.take k++List.replicate (l.length - k) 0)∧ExtX [] wr w1) (fun w1 hx1 _=>⟨Nat.zero_le _,by simpa using (own_made (enc:=encI) elt_Int.len ty_int l.length 0 wr).ext0 hx1,(ext_alloc wr _).trans hx1⟩) fun k w1 _ ⟨hk,hO,hX⟩=>⟨fun hlt => ?_,fun hge => ?_⟩
 ·have hlt:=of_decide_eq_true hlt
  have hr:=(h.ext hx).ext hX
  have hlen:(l.take k++List.replicate (l.length - k) 0).length=l.length:=by simp; omega
  have hi:((k:Int))<((l.take k++List.replicate (l.length - k) 0).length:Int):=by rw [hlen]; exact hlt
  refine ⟨hr.ix encI_c (by omega) hlt,_,hr k (by omega) hlt,by have:=hO.ix (i:=(k:Int)) (by omega) hi; rwa [hlen] at this,hO.wr elt_Int.len (by simp) (by omega) hi (j:=0) (by omega),inR_nat hlt (by omega),fun w2 hx2 _=>loop1w_next (by omega) ⟨by omega,?_,?_⟩⟩
  ·have:=(hO.sto elt_Int.len (i:=(k:Int)) (by omega) hi (j:=0) (vs:=encI (gi l k)) (x:=gi l k) (by rw [List.take_zero,List.nil_append,List.drop_eq_nil_iff.2 (by rw [Nat.zero_add,elt_Int.len,elt_Int.len]; exact Nat.le_refl _),List.append_nil]) (by rw [Nat.zero_add,elt_Int.len]; exact Nat.le_refl _)).ext0 hx2
   rwa [Int.toNat_natCast,fill_step l k (by omega)] at this
  ·exact (hO.stoB _ _ hX (Nat.le_refl _)).trans hx2
 ·have hge:=of_decide_eq_false hge
  have hk:k=l.length:=by omega
  subst hk
  simp only [List.take_length,Nat.sub_self,List.replicate_zero,List.append_nil] at hO
  exact fun w2 hx2=>⟨_,_,rfl,(hO.ext0 hx2).mono hx.size,(hx.trans hX).trans hx2⟩
theorem k_szBoolS {o:Option Addr} {n c:Nat} {left:Int} {w:World} {bs:List Nat} (hn:n≤maxLen) (hl:0≤left) (hl2:left≤1048576):PureX bs Tryz.prog fn_laws_szBoolS #[.slice o n c,.int .i64 left] w (.int .i64 (szN n left)) :=
 p_laws_szBoolS o n c left fun wr hx=>by
  have:=maxLen_le
  exact ⟨⟨by omega,by omega⟩,fun h=>by rw [szN,if_pos (of_decide_eq_true h)],fun h=>by rw [szN,if_neg (of_decide_eq_false h)]⟩
theorem k_eqBoolS {a b:List Bool} {aO bO:Option Addr} {aC bC:Nat} {w:World} {bs:List Nat} (ha:RdB bs w aO a) (hb:RdB bs w bO b) (ha9:a.length≤maxLen):PureX bs Tryz.prog fn_laws_eqBoolS #[.slice aO a.length aC,.slice bO b.length bC] w (.bool (decide (a=b))) :=
 p_laws_eqBoolS aO a.length aC bO b.length bC fun wr hx=>by
  have ha:=(ha.ext hx).less (cs:=[]) (by simp)
  have hb:=(hb.ext hx).less (cs:=[]) (by simp)
  refine ⟨fun h => ?_,fun h => ?_⟩
  ·have h:a.length≠b.length:=by simpa [Int.ofNat_inj] using h
   rw [decide_eq_false fun e=>h (by rw [e])]
  ·have hl:a.length=b.length:=by simpa [Int.ofNat_inj] using h
   refine loop1 a.length 0 rfl (fun k=>k≤a.length∧∀j:Nat,j<k→gi a (j:Int)=gi b (j:Int)) ⟨Nat.zero_le _,fun j hj=>absurd hj (Nat.not_lt_zero j)⟩ fun k ⟨hk,hI⟩=>⟨fun hlt => ?_,fun hge => ?_⟩
   ·have hlt:=of_decide_eq_true hlt
    refine ⟨ha.ix encB_c (by omega) hlt,_,ha k (by omega) hlt,hb.ix encB_c (by omega) (by omega),_,hb k (by omega) (by omega),fun hne => ?_,fun heq=>⟨inR_nat hlt ha9,loop1_next (by omega) ?_⟩⟩
    ·have hne:gi a (k:Int)≠gi b (k:Int):=by simpa using hne
     rw [decide_eq_false fun e=>hne (by rw [e])]
    ·have heq:gi a (k:Int)=gi b (k:Int):=by simpa using heq
     exact ⟨by omega,fun j hj=>by
      by_cases hjk:j<k
      ·exact hI j hjk
      ·have:j=k:=by omega
       subst this; exact heq⟩
   ·have hge:=of_decide_eq_false hge
    have hk:k=a.length:=by omega
    subst hk
    rw [decide_eq_true (gi_ext hl hI)]
theorem k_toBoolS {l:List Bool} {o:Option Addr} {c:Nat} {w:World} (h:RdB [] w o l) (hl:l.length≤1048576) :
  Calls Tryz.prog fn_laws_toBoolS #[.slice o l.length c] w fun e w'=>∃o' c',e = .returned (.slice o' l.length c')∧Own encB 1 ty_bool w.heap.size w' o' c' l∧ExtX [] w w':=by
 refine (e_laws_toBoolS o l.length c (R:=fun v w'=>∃o' c',v = .slice o' l.length c'∧Own encB 1 ty_bool w.heap.size w' o' c' l∧ExtX [] w w') ?_).mono fun e w' ⟨v,he,o',c',hv,h1,h2⟩=>⟨o',c',by rw [he,hv],h1,h2⟩
 have hm:=maxLen_big
 refine fun wr hx _=>⟨_,_,_,_,run_mk elt_Bool u_sl_bool l.length (by omega) (by omega) wr,kept_nil,?_⟩
 refine loop1w l.length 0 rfl (fun k w1=>k≤l.length∧Own encB 1 ty_bool wr.heap.size w1 (some ⟨wr.heap.size,0,none⟩) l.length (l.take k++List.replicate (l.length - k) false)∧ExtX [] wr w1) (fun w1 hx1 _=>⟨Nat.zero_le _,by simpa using (own_made (enc:=encB) elt_Bool.len ty_bool l.length false wr).ext0 hx1,(ext_alloc wr _).trans hx1⟩) fun k w1 _ ⟨hk,hO,hX⟩=>⟨fun hlt => ?_,fun hge => ?_⟩
 ·have hlt:=of_decide_eq_true hlt
  have hr:=(h.ext hx).ext hX
  have hlen:(l.take k++List.replicate (l.length - k) false).length=l.length:=by simp; omega
  have hi:((k:Int))<((l.take k++List.replicate (l.length - k) false).length:Int):=by rw [hlen]; exact hlt
  refine ⟨hr.ix encB_c (by omega) hlt,_,hr k (by omega) hlt,by have:=hO.ix (i:=(k:Int)) (by omega) hi; rwa [hlen] at this,hO.wr elt_Bool.len (by simp) (by omega) hi (j:=0) (by omega),inR_nat hlt (by omega),fun w2 hx2 _=>loop1w_next (by omega) ⟨by omega,?_,?_⟩⟩
  ·have:=(hO.sto elt_Bool.len (i:=(k:Int)) (by omega) hi (j:=0) (vs:=encB (gi l k)) (x:=gi l k) (by rw [List.take_zero,List.nil_append,List.drop_eq_nil_iff.2 (by rw [Nat.zero_add,elt_Bool.len,elt_Bool.len]; exact Nat.le_refl _),List.append_nil]) (by rw [Nat.zero_add,elt_Bool.len]; exact Nat.le_refl _)).ext0 hx2
   rwa [Int.toNat_natCast,fill_step l k (by omega)] at this
  ·exact (hO.stoB _ _ hX (Nat.le_refl _)).trans hx2
 ·have hge:=of_decide_eq_false hge
  have hk:k=l.length:=by omega
  subst hk
  simp only [List.take_length,Nat.sub_self,List.replicate_zero,List.append_nil] at hO
  exact fun w2 hx2=>⟨_,_,rfl,(hO.ext0 hx2).mono hx.size,(hx.trans hX).trans hx2⟩
theorem elt_Shelf:Elt Tryz.prog encS 5 ty_impl_Shelf 40 (⟨0,false,0,0,0⟩:Shf):=elt_of (by kernel_rfl) fun _=>rfl
theorem u_sl_impl_Shelf:Tryz.prog.underlying ty_sl_impl_Shelf=some (.slice ty_impl_Shelf):=by kernel_rfl
theorem k_szShelfS {o:Option Addr} {n c:Nat} {left:Int} {w:World} {bs:List Nat} (hn:n≤maxLen) (hl:0≤left) (hl2:left≤1048576):PureX bs Tryz.prog fn_laws_szShelfS #[.slice o n c,.int .i64 left] w (.int .i64 (szN n left)) :=
 p_laws_szShelfS o n c left fun wr hx=>by
  have:=maxLen_le
  exact ⟨⟨by omega,by omega⟩,fun h=>by rw [szN,if_pos (of_decide_eq_true h)],fun h=>by rw [szN,if_neg (of_decide_eq_false h)]⟩
theorem k_eqShelf {a b:Shf} {w:World} {bs:List Nat}:PureX bs Tryz.prog fn_laws_eqShelf #[.agg (encS a).toArray,.agg (encS b).toArray] w (.bool (decide (a=b))) :=
 p_laws_eqShelf a.floor a.on a.v a.w a.sum b.floor b.on b.v b.w b.sum fun wr hx=>by
  cases a; cases b
  intro _ _ _ _
  repeat' (apply And.intro <;> intro h)
  all_goals (congr 1; simp_all)
theorem k_toShelf {a:Shf} {w:World} {bs:List Nat}:PureX bs Tryz.prog fn_laws_toShelf #[.agg (encS a).toArray] w (.agg (encS a).toArray) :=
 p_laws_toShelf a.floor a.on a.v a.w a.sum fun wr hx=>by
  intro _ _ _ _ _ _
  rfl
theorem k_eqShelfS {a b:List Shf} {aO bO:Option Addr} {aC bC:Nat} {w:World} {bs:List Nat} (ha:RdS bs w aO a) (hb:RdS bs w bO b) (ha9:a.length≤maxLen):PureX bs Tryz.prog fn_laws_eqShelfS #[.slice aO a.length aC,.slice bO b.length bC] w (.bool (decide (a=b))) :=
 p_laws_eqShelfS aO a.length aC bO b.length bC fun wr hx=>by
  have ha:=(ha.ext hx).less (cs:=[]) (by simp)
  have hb:=(hb.ext hx).less (cs:=[]) (by simp)
  refine ⟨fun h => ?_,fun h => ?_⟩
  ·have h:a.length≠b.length:=by simpa [Int.ofNat_inj] using h
   rw [decide_eq_false fun e=>h (by rw [e])]
  ·have hl:a.length=b.length:=by simpa [Int.ofNat_inj] using h
   refine loop1 a.length 0 rfl (fun k=>k≤a.length∧∀j:Nat,j<k→gi a (j:Int)=gi b (j:Int)) ⟨Nat.zero_le _,fun j hj=>absurd hj (Nat.not_lt_zero j)⟩ fun k ⟨hk,hI⟩=>⟨fun hlt => ?_,fun hge => ?_⟩
   ·have hlt:=of_decide_eq_true hlt
    refine ⟨ha.ix encS_c (by omega) hlt,_,_,_,_,_,ha k (by omega) hlt,hb.ix encS_c (by omega) (by omega),_,_,_,_,_,hb k (by omega) (by omega),_,k_eqShelf (a:=gi a k) (b:=gi b k),fun hne => ?_,fun heq=>⟨inR_nat hlt ha9,loop1_next (by omega) ?_⟩⟩
    ·have hne:gi a (k:Int)≠gi b (k:Int):=by simpa using hne
     rw [decide_eq_false fun e=>hne (by rw [e])]
    ·have heq:gi a (k:Int)=gi b (k:Int):=by simpa using heq
     exact ⟨by omega,fun j hj=>by
      by_cases hjk:j<k
      ·exact hI j hjk
      ·have:j=k:=by omega
       subst this; exact heq⟩
   ·have hge:=of_decide_eq_false hge
    have hk:k=a.length:=by omega
    subst hk
    rw [decide_eq_true (gi_ext hl hI)]
theorem k_toShelfS {l:List Shf} {o:Option Addr} {c:Nat} {w:World} (h:RdS [] w o l) (hl:l.length≤1048576) :
  Calls Tryz.prog fn_laws_toShelfS #[.slice o l.length c] w fun e w'=>∃o' c',e = .returned (.slice o' l.length c')∧Own encS 5 ty_impl_Shelf w.heap.size w' o' c' l∧ExtX [] w w':=by
 refine (e_laws_toShelfS o l.length c (R:=fun v w'=>∃o' c',v = .slice o' l.length c'∧Own encS 5 ty_impl_Shelf w.heap.size w' o' c' l∧ExtX [] w w') ?_).mono fun e w' ⟨v,he,o',c',hv,h1,h2⟩=>⟨o',c',by rw [he,hv],h1,h2⟩
 have hm:=maxLen_big
 refine fun wr hx _=>⟨_,_,_,_,run_mk elt_Shelf u_sl_impl_Shelf l.length (by omega) (by omega) wr,kept_nil,?_⟩
 refine loop1w l.length 0 rfl (fun k w1=>k≤l.length∧Own encS 5 ty_impl_Shelf wr.heap.size w1 (some ⟨wr.heap.size,0,none⟩) l.length (l.take k++List.replicate (l.length - k) (⟨0,false,0,0,0⟩:Shf))∧ExtX [] wr w1) (fun w1 hx1 _=>⟨Nat.zero_le _,by simpa using (own_made (enc:=encS) elt_Shelf.len ty_impl_Shelf l.length (⟨0,false,0,0,0⟩:Shf) wr).ext0 hx1,(ext_alloc wr _).trans hx1⟩) fun k w1 _ ⟨hk,hO,hX⟩=>⟨fun hlt => ?_,fun hge => ?_⟩
 ·have hlt:=of_decide_eq_true hlt
  have hr:=(h.ext hx).ext hX
  have hlen:(l.take k++List.replicate (l.length - k) (⟨0,false,0,0,0⟩:Shf)).length=l.length:=by simp; omega
  have hi:((k:Int))<((l.take k++List.replicate (l.length - k) (⟨0,false,0,0,0⟩:Shf)).length:Int):=by rw [hlen]; exact hlt
  refine ⟨hr.ix encS_c (by omega) hlt,_,_,_,_,_,hr k (by omega) hlt,_,_,_,_,_,(k_toShelf (a:=gi l k)),by have:=hO.ix (i:=(k:Int)) (by omega) hi; rwa [hlen] at this,hO.wr elt_Shelf.len (by simp) (by omega) hi (j:=0) (by omega),inR_nat hlt (by omega),fun w2 hx2 _=>loop1w_next (by omega) ⟨by omega,?_,?_⟩⟩
  ·have:=(hO.sto elt_Shelf.len (i:=(k:Int)) (by omega) hi (j:=0) (vs:=encS (gi l k)) (x:=gi l k) (by rw [List.take_zero,List.nil_append,List.drop_eq_nil_iff.2 (by rw [Nat.zero_add,elt_Shelf.len,elt_Shelf.len]; exact Nat.le_refl _),List.append_nil]) (by rw [Nat.zero_add,elt_Shelf.len]; exact Nat.le_refl _)).ext0 hx2
   rwa [Int.toNat_natCast,fill_step l k (by omega)] at this
  ·exact (hO.stoB _ _ hX (Nat.le_refl _)).trans hx2
 ·have hge:=of_decide_eq_false hge
  have hk:k=l.length:=by omega
  subst hk
  simp only [List.take_length,Nat.sub_self,List.replicate_zero,List.append_nil] at hO
  exact fun w2 hx2=>⟨_,_,rfl,(hO.ext0 hx2).mono hx.size,(hx.trans hX).trans hx2⟩
end Go.Proofs.YtajdcjidpolloaaGreatDoor
namespace Go.Proofs.YtajdcjidpolloaaGreatDoor
open Go.RowKit
set_option linter.unusedVariables false
set_option linter.unusedSimpArgs false
set_option maxRecDepth 10000
def encBd (b:Bnd) (m:MG):List Value:=[.int .i64 b.quota,.int .i64 b.pool,.int .i64 b.spent,.slice m.lO b.locals.length m.lC,.slice m.dO b.dry.length m.dC]
structure SmG (g:Grp):Prop where
 nm:g.name.size≤1048576
 lo:g.band.locals.length≤1048576
 dr:g.band.dry.length≤1048576
 sh:g.shelves.length≤1048576
def szBd (b:Bnd) (left:Int):Int:=if szN b.locals.length left<0 then -1 else if szN b.dry.length (szN b.locals.length left)<0 then -1 else szN b.dry.length (szN b.locals.length left)
theorem szN_le {n:Nat} {left:Int} (h:0≤left):szN n left≤left:=by unfold szN; split <;> omega
theorem k_szBand {b:Bnd} {m:MG} {left:Int} {w:World} {bs:List Nat} (h1:b.locals.length≤maxLen) (h2:b.dry.length≤maxLen) (hl:0≤left) (hl2:left≤1048576):PureX bs Tryz.prog fn_laws_szBand #[.agg (encBd b m).toArray,.int .i64 left] w (.int .i64 (szBd b left)) :=
 p_laws_szBand b.quota b.pool b.spent m.lO b.locals.length m.lC m.dO b.dry.length m.dC left fun wr hx=>by
  intro _ _
  have hn:=szN_le (n:=b.locals.length) hl
  refine ⟨_,k_szIntS h1 hl hl2,fun h => ?_,fun h => ?_⟩
  ·have h:=of_decide_eq_true h
   rw [szBd,if_pos h]
  ·have h:=of_decide_eq_false h
   refine ⟨_,k_szBoolS h2 (by omega) (by omega),fun h' => ?_,fun h' => ?_⟩
   ·rw [szBd,if_neg h,if_pos (of_decide_eq_true h')]
   ·rw [szBd,if_neg h,if_neg (of_decide_eq_false h')]
theorem szBd_nn {b:Bnd} {left:Int} (hl:0≤left) (h:0≤szBd b left):szBd b left≤left∧(b.locals.length:Int)≤left∧(b.dry.length:Int)≤left:=by
 unfold szBd at h ⊢
 split at h
 ·omega
 ·split at h
  ·omega
  ·rename_i h1 h2
   rw [if_neg h1,if_neg h2]
   have a:=szN_nn (n:=b.locals.length) (left:=left) (by omega)
   have c:=szN_nn (n:=b.dry.length) h
   omega
def szGp (g:Grp) (left:Int):Int :=
 if left - (g.name.size:Int)<0 then -1 else if szBd g.band (left - (g.name.size:Int))<0 then -1 else if szN g.shelves.length (szBd g.band (left - (g.name.size:Int)))<0 then -1 else szN g.shelves.length (szBd g.band (left - (g.name.size:Int)))
theorem szGp_nn {g:Grp} {left:Int} (hl2:left≤1048576) (h:0≤szGp g left):szGp g left≤left∧SmG g:=by
 unfold szGp at h ⊢
 split at h
 ·omega
 ·split at h
  ·omega
  ·split at h
   ·omega
   ·rename_i h1 h2 h3
    rw [if_neg h1,if_neg h2,if_neg h3]
    have hb:=szBd_nn (b:=g.band) (left:=left - (g.name.size:Int)) (by omega) (by omega)
    have hs:=szN_nn h
    exact ⟨by omega,by omega,by omega,by omega,by omega⟩
theorem k_szGroup {g:Grp} {m:MG} {left:Int} {w:World} {bs:List Nat} (hf:FitG g) (hl:0≤left) (hl2:left≤1048576) :
  PureX bs Tryz.prog fn_laws_szGroup #[.agg (encG g m).toArray,.int .i64 left] w (.int .i64 (szGp g left)) :=
 p_laws_szGroup g.used g.parent g.name g.weight g.cpus g.period g.next g.sum g.band.quota g.band.pool g.band.spent m.lO g.band.locals.length m.lC m.dO g.band.dry.length m.dC m.sO g.shelves.length m.sC left fun wr hx=>by
  have hm:=maxLen_le
  have hnm:=hf.nm
  intro _ _
  refine ⟨⟨by omega,by omega⟩,fun h=>by rw [szGp,if_pos (of_decide_eq_true h)],fun h => ?_⟩
  have h:=of_decide_eq_false h
  refine ⟨_,k_szBand (m:=m) hf.lo hf.dr (by omega) (by omega),fun h2=>by rw [szGp,if_neg h,if_pos (of_decide_eq_true h2)],fun h2 => ?_⟩
  have h2:=of_decide_eq_false h2
  have hb:=szBd_nn (b:=g.band) (left:=left - (g.name.size:Int)) (by omega) (by omega)
  exact ⟨_,k_szShelfS hf.sh (by omega) (by omega),fun h3=>by rw [szGp,if_neg h,if_neg h2,if_pos (of_decide_eq_true h3)],fun h3=>by rw [szGp,if_neg h,if_neg h2,if_neg (of_decide_eq_false h3)]⟩
def szGs:List Grp→Int→Int
 | [],x=>x
 | g::r,x=>if szGp g x<0 then -1 else szGs r (szGp g x)
theorem szGs_nn:∀{gs:List Grp} {x:Int},x≤1048576→0≤szGs gs x→szGs gs x≤x∧∀g∈gs,SmG g
 | [],x,_,h=>⟨Int.le_refl _,fun g hg=>by cases hg⟩
 | g::r,x,hx,h=>by
  simp only [szGs] at h ⊢
  split at h
  ·omega
  ·rename_i h1
   rw [if_neg h1]
   obtain ⟨a,b⟩:=szGp_nn (g:=g) hx (by omega)
   obtain ⟨c,d⟩:=szGs_nn (gs:=r) (x:=szGp g x) (by omega) h
   exact ⟨by omega,fun y hy=>by
    rcases List.mem_cons.1 hy with rfl | hy
    ·exact b
    ·exact d y hy⟩
def szGS (gs:List Grp) (left:Int):Int:=if left - (gs.length:Int)<0 then -1 else szGs gs (left - (gs.length:Int))
theorem szGS_nn {gs:List Grp} {left:Int} (hl2:left≤1048576) (h:0≤szGS gs left):szGS gs left≤left∧gs.length≤1048576∧∀i:Int,0≤i→i<(gs.length:Int)→SmG (gi gs i):=by
 unfold szGS at h ⊢
 split at h
 ·omega
 ·rename_i h1
  rw [if_neg h1]
  obtain ⟨a,b⟩:=szGs_nn (gs:=gs) (x:=left - (gs.length:Int)) (by omega) h
  exact ⟨by omega,by omega,fun i h0 hi=>b _ (gi_mem h0 hi)⟩
theorem k_szGroupS {gs:List Grp} {ms:Nat→MG} {o:Option Addr} {c:Nat} {left:Int} {w:World} (h:RdG [] w o gs ms) (hf:∀i:Int,0≤i→i<(gs.length:Int)→FitG (gi gs i)) (hl:0≤left) (hl2:left≤1048576) (hm:gs.length≤maxLen) :
  PureX [] Tryz.prog fn_laws_szGroupS #[.slice o gs.length c,.int .i64 left] w (.int .i64 (szGS gs left)) :=
 p_laws_szGroupS o gs.length c left fun wr hx=>by
  have hml:=maxLen_le
  have h:=h.ext hx
  refine ⟨⟨by omega,by omega⟩,fun h1=>by rw [szGS,if_pos (of_decide_eq_true h1)],fun h1 => ?_⟩
  have h1:=of_decide_eq_false h1
  refine loop2 gs.length 0 rfl (fun x k=>k≤gs.length∧0≤x∧x≤left∧szGs (gs.drop k) x=szGS gs left) ⟨Nat.zero_le _,by omega,by omega,by rw [szGS,if_neg h1]; rfl⟩ fun x k ⟨hk,hx0,hx1,he⟩=>⟨fun hlt => ?_,fun hge => ?_⟩
  ·have hlt:=of_decide_eq_true hlt
   have hd:gs.drop k=gi gs (k:Int)::gs.drop (k+1):=by rw [List.drop_eq_getElem_cons (by omega),gi_lt (by omega)]
   rw [hd] at he
   simp only [szGs] at he
   refine ⟨h.ix (by omega) hlt,_,_,_,_,_,_,_,_,_,_,_,_,_,_,_,_,_,_,_,_,h.cells k (by omega) hlt,_,k_szGroup (m:=ms k) (hf k (by omega) hlt) hx0 (by omega),fun h2 => ?_,fun h2 => ?_⟩
   ·rw [if_pos (of_decide_eq_true h2)] at he
    rw [←he]
   ·have h2:=of_decide_eq_false h2
    rw [if_neg h2] at he
    have:=(szGp_nn (g:=gi gs (k:Int)) (left:=x) (by omega) (by omega)).1
    exact ⟨inR_nat hlt hm,loop2_next (by omega) ⟨by omega,by omega,by omega,he⟩⟩
  ·have hge:=of_decide_eq_false hge
   have hk:k=gs.length:=by omega
   subst hk
   rw [List.drop_length] at he
   rw [←he]; rfl
theorem strEq_iff {a b:ByteArray}:strEq a b=true↔a=b:=by
 unfold strEq
 rw [beq_iff_eq]
 constructor
 ·intro h
  have h1:∀x:ByteArray,x.toList=x.data.toList:=fun x=>by
   have key:∀(n i:Nat) (r:List UInt8),n=x.size - i→ByteArray.toList.loop x i r=r.reverse++x.data.toList.drop i:=by
    intro n
    induction n with
    | zero =>
     intro i r hn
     unfold ByteArray.toList.loop
     rw [if_neg (by omega),List.drop_eq_nil_iff.2 (by simp only [Array.length_toList]; show x.size≤i; omega),List.append_nil]
    | succ n ih =>
     intro i r hn
     unfold ByteArray.toList.loop
     have hi:i<x.data.toList.length:=by simp only [Array.length_toList]; show i<x.size; omega
     rw [if_pos (by omega),ih (i+1) _ (by omega),List.reverse_cons,List.append_assoc,List.singleton_append,List.drop_eq_getElem_cons hi]
     have:x.get! i=x.data.toList[i]:=by
      have hi':i<x.data.size:=by simpa using hi
      simp [ByteArray.get!,getElem!_pos x.data i hi']
     rw [this]
   have:=key _ 0 [] rfl
   simpa [ByteArray.toList] using this
  rw [h1,h1] at h
  cases a; cases b
  simp only at h
  congr 1
  exact Array.ext' h
 ·rintro rfl; rfl
theorem strEq_eq (a b:ByteArray):strEq a b=decide (a=b):=by
 cases h:strEq a b with
 | true=>rw [decide_eq_true (strEq_iff.1 h)]
 | false=>rw [decide_eq_false fun e=>by rw [strEq_iff.2 e] at h; cases h]
theorem k_eqBand {a b:Bnd} {m n:MG} {w:World} {bs:List Nat} (h1:RdI bs w m.lO a.locals) (h2:RdB bs w m.dO a.dry) (k1:RdI bs w n.lO b.locals) (k2:RdB bs w n.dO b.dry) (l1:a.locals.length≤maxLen) (l2:a.dry.length≤maxLen) :
  PureX bs Tryz.prog fn_laws_eqBand #[.agg (encBd a m).toArray,.agg (encBd b n).toArray] w (.bool (decide (a=b))) :=
 p_laws_eqBand a.quota a.pool a.spent m.lO a.locals.length m.lC m.dO a.dry.length m.dC b.quota b.pool b.spent n.lO b.locals.length n.lC n.dO b.dry.length n.dC fun wr hx=>by
  have h1:=(h1.ext hx).less (cs:=[]) (by simp)
  have h2:=(h2.ext hx).less (cs:=[]) (by simp)
  have k1:=(k1.ext hx).less (cs:=[]) (by simp)
  have k2:=(k2.ext hx).less (cs:=[]) (by simp)
  cases a; cases b
  intro _ _ _ _
  refine ⟨fun q => ?_,fun q1=>⟨fun q => ?_,fun q2=>⟨fun q => ?_,fun q3=>⟨_,k_eqIntS h1 k1 l1,fun q => ?_,fun q4=>⟨_,k_eqBoolS h2 k2 l2,fun q => ?_,fun q5 => ?_⟩⟩⟩⟩⟩ <;> (congr 1; simp_all)
theorem k_eqGroup {a b:Grp} {m n:MG} {w:World} {bs:List Nat} (h1:RdI bs w m.lO a.band.locals) (h2:RdB bs w m.dO a.band.dry) (h3:RdS bs w m.sO a.shelves) (k1:RdI bs w n.lO b.band.locals) (k2:RdB bs w n.dO b.band.dry) (k3:RdS bs w n.sO b.shelves)
  (l1:a.band.locals.length≤maxLen) (l2:a.band.dry.length≤maxLen) (l3:a.shelves.length≤maxLen) :
  PureX bs Tryz.prog fn_laws_eqGroup #[.agg (encG a m).toArray,.agg (encG b n).toArray] w (.bool (decide (a=b))) :=
 p_laws_eqGroup a.used a.parent a.name a.weight a.cpus a.period a.next a.sum a.band.quota a.band.pool a.band.spent m.lO a.band.locals.length m.lC m.dO a.band.dry.length m.dC m.sO a.shelves.length m.sC
  b.used b.parent b.name b.weight b.cpus b.period b.next b.sum b.band.quota b.band.pool b.band.spent n.lO b.band.locals.length n.lC n.dO b.band.dry.length n.dC n.sO b.shelves.length n.sC fun wr hx=>by
  have h1:=(h1.ext hx).less (cs:=[]) (by simp)
  have h2:=(h2.ext hx).less (cs:=[]) (by simp)
  have h3:=(h3.ext hx).less (cs:=[]) (by simp)
  have k1:=(k1.ext hx).less (cs:=[]) (by simp)
  have k2:=(k2.ext hx).less (cs:=[]) (by simp)
  have k3:=(k3.ext hx).less (cs:=[]) (by simp)
  cases a; cases b
  intro _ _ _ _
  simp only [strEq_eq]
  refine ⟨fun q => ?_,fun q1=>⟨fun q => ?_,fun q2=>⟨fun q => ?_,fun q3=>⟨fun q => ?_,fun q4=>⟨fun q => ?_,fun q5=>⟨fun q => ?_,fun q6=>⟨fun q => ?_,fun q7=>⟨fun q => ?_,fun q8=>⟨_,k_eqBand h1 h2 k1 k2 l1 l2,fun q => ?_,fun q9=>⟨_,k_eqShelfS h3 k3 l3,fun q => ?_,fun q10 => ?_⟩⟩⟩⟩⟩⟩⟩⟩⟩⟩ <;> (congr 1; simp_all)
theorem k_eqGroupS {a b:List Grp} {am bm:Nat→MG} {aO bO:Option Addr} {aC bC:Nat} {w:World} {bs:List Nat} (ha:RdG bs w aO a am) (hb:RdG bs w bO b bm) (hs:∀i:Int,0≤i→i<(a.length:Int)→SmG (gi a i)) (ha9:a.length≤maxLen) :
  PureX bs Tryz.prog fn_laws_eqGroupS #[.slice aO a.length aC,.slice bO b.length bC] w (.bool (decide (a=b))) :=
 p_laws_eqGroupS aO a.length aC bO b.length bC fun wr hx=>by
  have ha:=(ha.ext hx).less (cs:=[]) (by simp)
  have hb:=(hb.ext hx).less (cs:=[]) (by simp)
  have hm:=maxLen_big
  refine ⟨fun h => ?_,fun h => ?_⟩
  ·have h:a.length≠b.length:=by simpa [Int.ofNat_inj] using h
   rw [decide_eq_false fun e=>h (by rw [e])]
  ·have hl:a.length=b.length:=by simpa [Int.ofNat_inj] using h
   refine loop1 a.length 0 rfl (fun k=>k≤a.length∧∀j:Nat,j<k→gi a (j:Int)=gi b (j:Int)) ⟨Nat.zero_le _,fun j hj=>absurd hj (Nat.not_lt_zero j)⟩ fun k ⟨hk,hI⟩=>⟨fun hlt => ?_,fun hge => ?_⟩
   ·have hlt:=of_decide_eq_true hlt
    have h9:=hs k (by omega) hlt
    have hlt':(k:Int)<(b.length:Int):=by omega
    refine ⟨ha.ix (by omega) hlt,_,_,_,_,_,_,_,_,_,_,_,_,_,_,_,_,_,_,_,_,ha.cells k (by omega) hlt,hb.ix (by omega) hlt',_,_,_,_,_,_,_,_,_,_,_,_,_,_,_,_,_,_,_,_,hb.cells k (by omega) hlt',_,
     k_eqGroup (a:=gi a k) (b:=gi b k) (ha.locals k (by omega) hlt) (ha.dry k (by omega) hlt) (ha.shelves k (by omega) hlt) (hb.locals k (by omega) hlt') (hb.dry k (by omega) hlt') (hb.shelves k (by omega) hlt') (by have:=h9.lo; omega) (by have:=h9.dr; omega) (by have:=h9.sh; omega),fun hne => ?_,fun heq=>⟨inR_nat hlt ha9,loop1_next (by omega) ?_⟩⟩
    ·have hne:gi a (k:Int)≠gi b (k:Int):=by simpa using hne
     rw [decide_eq_false fun e=>hne (by rw [e])]
    ·have heq:gi a (k:Int)=gi b (k:Int):=by simpa using heq
     exact ⟨by omega,fun j hj=>by
      by_cases hjk:j<k
      ·exact hI j hjk
      ·have:j=k:=by omega
       subst this; exact heq⟩
   ·have hge:=of_decide_eq_false hge
    have hk:k=a.length:=by omega
    subst hk
    rw [decide_eq_true (gi_ext hl hI)]
def encP (p:Grp×MG):List Value:=encG p.1 p.2
def zeroG:Grp×MG:=(⟨false,0,ByteArray.empty,0,0,0,0,0,⟨0,0,0,[],[]⟩,[]⟩,⟨none,0,none,0,none,0⟩)
theorem elt_Group:Elt Tryz.prog encP 14 ty_impl_Group 168 zeroG:=elt_of (by kernel_rfl) fun _=>rfl
theorem u_sl_impl_Group:Tryz.prog.underlying ty_sl_impl_Group=some (.slice ty_impl_Group):=by kernel_rfl
def grpBlks (m:MG):List Nat:=blkOf m.lO++blkOf m.dO++blkOf m.sO
structure OwnM (base:Nat) (w:World) (p:Grp×MG):Prop where
 loc:Own encI 1 ty_int base w p.2.lO p.2.lC p.1.band.locals
 dry:Own encB 1 ty_bool base w p.2.dO p.2.dC p.1.band.dry
 shl:Own encS 5 ty_impl_Shelf base w p.2.sO p.2.sC p.1.shelves
theorem OwnM.ext {base:Nat} {w w':World} {p:Grp×MG} {bs:List Nat} (h:OwnM base w p) (hx:ExtX bs w w') (hd:∀b∈grpBlks p.2,b∉bs):OwnM base w' p :=
 ⟨h.loc.ext hx fun b hb=>hd b (by simp [grpBlks,hb]),h.dry.ext hx fun b hb=>hd b (by simp [grpBlks,hb]),h.shl.ext hx fun b hb=>hd b (by simp [grpBlks,hb])⟩
theorem OwnM.ext0 {base:Nat} {w w':World} {p:Grp×MG} (h:OwnM base w p) (hx:ExtX [] w w'):OwnM base w' p:=h.ext hx (by simp)
theorem OwnM.mono {base base':Nat} {w:World} {p:Grp×MG} (h:OwnM base w p) (hb:base'≤base):OwnM base' w p:=⟨h.loc.mono hb,h.dry.mono hb,h.shl.mono hb⟩
theorem OwnM.lt {base:Nat} {w:World} {p:Grp×MG} (h:OwnM base w p):∀b∈grpBlks p.2,base≤b∧b<w.heap.size:=by
 intro b hb
 simp only [grpBlks,List.mem_append] at hb
 rcases hb with (hb | hb) | hb
 ·exact h.loc.lt b hb
 ·exact h.dry.lt b hb
 ·exact h.shl.lt b hb
theorem OwnM.zero (base:Nat) (w:World):OwnM base w zeroG:=⟨.inl ⟨rfl,rfl,rfl⟩,.inl ⟨rfl,rfl,rfl⟩,.inl ⟨rfl,rfl,rfl⟩⟩
structure OwnG (base:Nat) (w:World) (o:Option Addr) (cap:Nat) (ps:List (Grp×MG)):Prop where
 row:Own encP 14 ty_impl_Group base w o cap ps
 each:∀i:Int,0≤i→i<(ps.length:Int)→OwnM base w (gi ps i)
 dj:∀i j:Int,0≤i→i<(ps.length:Int)→0≤j→j<(ps.length:Int)→i≠j→∀b∈grpBlks (gi ps i).2,b∉grpBlks (gi ps j).2
theorem OwnG.ext0 {base:Nat} {w w':World} {o:Option Addr} {cap:Nat} {ps:List (Grp×MG)} (h:OwnG base w o cap ps) (hx:ExtX [] w w'):OwnG base w' o cap ps :=
 ⟨h.row.ext0 hx,fun i a b=>(h.each i a b).ext0 hx,h.dj⟩
theorem OwnG.mono {base base':Nat} {w:World} {o:Option Addr} {cap:Nat} {ps:List (Grp×MG)} (h:OwnG base w o cap ps) (hb:base'≤base):OwnG base' w o cap ps :=
 ⟨h.row.mono hb,fun i a b=>(h.each i a b).mono hb,h.dj⟩
theorem not_own_row {base:Nat} {w:World} {o:Option Addr} {cap:Nat} {ps:List (Grp×MG)} (h:Own encP 14 ty_impl_Group base w o cap ps) {base':Nat} {p:Grp×MG} (hp:OwnM base' w p):∀b∈grpBlks p.2,b∉blkOf o:=by
 intro b hb hx
 simp only [grpBlks,List.mem_append] at hb
 rcases hb with (hb | hb) | hb
 ·exact hp.loc.ty_ne h (by decide) b hb hx
 ·exact hp.dry.ty_ne h (by decide) b hb hx
 ·exact hp.shl.ty_ne h (by decide) b hb hx
theorem OwnG.put {base:Nat} {w:World} {o:Option Addr} {cap:Nat} {ps:List (Grp×MG)} (h:OwnG base w o cap ps) {i:Int} (h0:0≤i) (hi:i<(ps.length:Int)) {p:Grp×MG} (hp:OwnM base w p)
  (hd:∀j:Int,0≤j→j<(ps.length:Int)→i≠j→∀b∈grpBlks (gi ps j).2,b∉grpBlks p.2):OwnG base (sto w o (Int.toNat i*14) (encP p)) o cap (ps.set i.toNat p):=by
 have hx:=h.row.stoX (Int.toNat i*14) (encP p)
 have hlen:(ps.set i.toNat p).length=ps.length:=List.length_set
 refine ⟨?_,fun j hj hjl => ?_,fun j k hj hjl hk hkl hjk b hb hb' => ?_⟩
 ·have:=h.row.sto elt_Group.len h0 hi (j:=0) (vs:=encP p) (x:=p) (by rw [List.take_zero,List.nil_append,List.drop_eq_nil_iff.2 (by rw [Nat.zero_add,elt_Group.len,elt_Group.len]; exact Nat.le_refl _),List.append_nil]) (by rw [Nat.zero_add,elt_Group.len]; exact Nat.le_refl _)
  exact this
 ·rw [hlen] at hjl
  rw [gi_set _ _ h0 hi hj]
  split
  ·exact hp.ext hx (not_own_row h.row hp)
  ·exact (h.each j hj hjl).ext hx (not_own_row h.row (h.each j hj hjl))
 ·rw [hlen] at hjl hkl
  rw [gi_set _ _ h0 hi hj] at hb
  rw [gi_set _ _ h0 hi hk] at hb'
  by_cases e1:i=j
  ·rw [if_pos e1] at hb
   by_cases e2:i=k
   ·omega
   ·rw [if_neg e2] at hb'
    exact hd k hk hkl e2 b hb' hb
  ·rw [if_neg e1] at hb
   by_cases e2:i=k
   ·rw [if_pos e2] at hb'
    exact hd j hj hjl e1 b hb hb'
   ·rw [if_neg e2] at hb'
    exact h.dj j k hj hjl hk hkl hjk b hb hb'
theorem k_toBand {b:Bnd} {m:MG} {w:World} (h1:RdI [] w m.lO b.locals) (h2:RdB [] w m.dO b.dry) (l1:b.locals.length≤1048576) (l2:b.dry.length≤1048576) :
  Calls Tryz.prog fn_laws_toBand #[.agg (encBd b m).toArray] w fun e w'=>∃lO lC dO dC,e = .returned (.agg (encBd b ⟨lO,lC,dO,dC,none,0⟩).toArray)∧Own encI 1 ty_int w.heap.size w' lO lC b.locals∧Own encB 1 ty_bool w.heap.size w' dO dC b.dry∧(∀x∈blkOf lO,x∉blkOf dO)∧ExtX [] w w':=by
 refine (e_laws_toBand b.quota b.pool b.spent m.lO b.locals.length m.lC m.dO b.dry.length m.dC (R:=fun v w'=>∃lO lC dO dC,v = .agg (encBd b ⟨lO,lC,dO,dC,none,0⟩).toArray∧Own encI 1 ty_int w.heap.size w' lO lC b.locals∧Own encB 1 ty_bool w.heap.size w' dO dC b.dry∧(∀x∈blkOf lO,x∉blkOf dO)∧ExtX [] w w') ?_).mono fun e w' ⟨v,he,lO,lC,dO,dC,hv,h⟩=>⟨lO,lC,dO,dC,by rw [he,hv],h⟩
 intro b0 hb0 b1 hb1 b2 hb2 wr hx hs
 refine (k_toIntS (h1.ext hx) l1).mono fun e w1 ⟨lO,lC,he,hO1,hx1⟩=>⟨_,_,_,he,kept_of hx1 hs,fun wr1 hy1 hs1 => ?_⟩
 have hbs:∀x∈[b0,b1,b2],w.heap.size≤x∨x∈([]:List Nat):=fun x hm=>by
  simp only [List.mem_cons,List.not_mem_nil,or_false] at hm
  rcases hm with rfl | rfl | rfl <;> exact .inl (by assumption)
 have g1:ExtX [] w wr1:=(hx.trans hx1).fresh hy1 hbs
 refine (k_toBoolS (h2.ext g1) l2).mono fun e w2 ⟨dO,dC,he2,hO2,hx2⟩=>⟨_,_,_,he2,kept_of hx2 hs1,fun wr2 hy2=>⟨lO,lC,dO,dC,rfl,?_,?_,?_,(g1.trans hx2).fresh hy2 hbs⟩⟩
 ·have hw:∀x∈blkOf lO,x∉[b0,b1,b2]:=fun x hm hm'=>by
   have:=(hO1.lt x hm).1
   have:=hs x hm'
   omega
  exact (((hO1.ext hy1 hw).ext0 hx2).ext hy2 hw).mono hx.size
 ·have hw:∀x∈blkOf dO,x∉[b0,b1,b2]:=fun x hm hm'=>by
   have:=(hO2.lt x hm).1
   have:=hs1 x hm'
   omega
  exact (hO2.ext hy2 hw).mono g1.size
 ·intro x hm hm'
  have:=(hO1.lt x hm).2
  have:=hy1.size
  have:=(hO2.lt x hm').1
  omega
theorem k_toGroup {g:Grp} {m:MG} {w:World} (h1:RdI [] w m.lO g.band.locals) (h2:RdB [] w m.dO g.band.dry) (h3:RdS [] w m.sO g.shelves) (hs:SmG g) :
  Calls Tryz.prog fn_laws_toGroup #[.agg (encG g m).toArray] w fun e w'=>∃m',e = .returned (.agg (encG g m').toArray)∧OwnM w.heap.size w' (g,m')∧ExtX [] w w':=by
 refine (e_laws_toGroup g.used g.parent g.name g.weight g.cpus g.period g.next g.sum g.band.quota g.band.pool g.band.spent m.lO g.band.locals.length m.lC m.dO g.band.dry.length m.dC m.sO g.shelves.length m.sC (R:=fun v w'=>∃m',v = .agg (encG g m').toArray∧OwnM w.heap.size w' (g,m')∧ExtX [] w w') ?_).mono fun e w' ⟨v,he,m',hv,h⟩=>⟨m',by rw [he,hv],h⟩
 intro b0 hb0 b1 hb1 b2 hb2 wr hx hs0
 refine (k_toBand (m:=m) (h1.ext hx) (h2.ext hx) hs.lo hs.dr).mono fun e w1 ⟨lO,lC,dO,dC,he,hO1,hO2,_,hx1⟩=>⟨_,_,_,_,_,_,_,_,_,he,kept_of hx1 hs0,fun wr1 hy1 hs1 => ?_⟩
 have hbs:∀x∈[b0,b1,b2],w.heap.size≤x∨x∈([]:List Nat):=fun x hm=>by
  simp only [List.mem_cons,List.not_mem_nil,or_false] at hm
  rcases hm with rfl | rfl | rfl <;> exact .inl (by assumption)
 have g1:ExtX [] w wr1:=(hx.trans hx1).fresh hy1 hbs
 refine (k_toShelfS (h3.ext g1) hs.sh).mono fun e w2 ⟨sO,sC,he2,hO3,hx2⟩=>⟨_,_,_,he2,kept_of hx2 hs1,fun wr2 hy2=>⟨⟨lO,lC,dO,dC,sO,sC⟩,rfl,⟨?_,?_,?_⟩,(g1.trans hx2).fresh hy2 hbs⟩⟩
 ·have hw:∀x∈blkOf lO,x∉[b0,b1,b2]:=fun x hm hm'=>by
   have:=(hO1.lt x hm).1
   have:=hs0 x hm'
   omega
  exact (((hO1.ext hy1 hw).ext0 hx2).ext hy2 hw).mono hx.size
 ·have hw:∀x∈blkOf dO,x∉[b0,b1,b2]:=fun x hm hm'=>by
   have:=(hO2.lt x hm).1
   have:=hs0 x hm'
   omega
  exact (((hO2.ext hy1 hw).ext0 hx2).ext hy2 hw).mono hx.size
 ·have hw:∀x∈blkOf sO,x∉[b0,b1,b2]:=fun x hm hm'=>by
   have:=(hO3.lt x hm).1
   have:=hs1 x hm'
   omega
  exact (hO3.ext hy2 hw).mono g1.size
theorem k_toGroupS {gs:List Grp} {ms:Nat→MG} {o:Option Addr} {c:Nat} {w:World} (h:RdG [] w o gs ms) (hs:∀i:Int,0≤i→i<(gs.length:Int)→SmG (gi gs i)) (hl:gs.length≤1048576) :
  Calls Tryz.prog fn_laws_toGroupS #[.slice o gs.length c] w fun e w'=>∃o' c' ps,e = .returned (.slice o' gs.length c')∧ps.map (·.1)=gs∧OwnG w.heap.size w' o' c' ps∧ExtX [] w w':=by
 refine (e_laws_toGroupS o gs.length c (R:=fun v w'=>∃o' c' ps,v = .slice o' gs.length c'∧ps.map (·.1)=gs∧OwnG w.heap.size w' o' c' ps∧ExtX [] w w') ?_).mono fun e w' ⟨v,he,o',c',ps,hv,h⟩=>⟨o',c',ps,by rw [he,hv],h⟩
 have hm:=maxLen_big
 refine fun wr hx _=>⟨_,_,_,_,run_mk elt_Group u_sl_impl_Group gs.length (by omega) (by omega) wr,kept_nil,?_⟩
 refine loop1w gs.length 0 rfl (fun k w1=>k≤gs.length∧ExtX [] wr w1∧∃ps:List (Grp×MG),ps.length=gs.length∧(∀j:Nat,j<k→(gi ps (j:Int)).1=gi gs (j:Int))∧OwnG wr.heap.size w1 (some ⟨wr.heap.size,0,none⟩) gs.length ps) (fun w1 hx1 _=>⟨Nat.zero_le _,(ext_alloc wr _).trans hx1,List.replicate gs.length zeroG,by simp,fun j hj=>absurd hj (Nat.not_lt_zero j),?_⟩) fun k w1 _ ⟨hk,hX,ps,hpl,hpe,hO⟩=>⟨fun hlt => ?_,fun hge => ?_⟩
 ·have hz:∀i:Int,0≤i→i<((List.replicate gs.length zeroG).length:Int)→gi (List.replicate gs.length zeroG) i=zeroG:=fun i h0 hi=>by
   have:=gi_mem h0 hi
   exact List.eq_of_mem_replicate this
  refine ⟨(own_made (enc:=encP) elt_Group.len ty_impl_Group gs.length zeroG wr).ext0 hx1,fun i h0 hi=>by rw [hz i h0 hi]; exact OwnM.zero _ _,fun i j h0 hi hj hjl _ b hb => ?_⟩
  rw [hz i h0 hi] at hb
  cases hb
 ·have hlt:=of_decide_eq_true hlt
  have hr:=(h.ext hx).ext hX
  have hi:(k:Int)<(ps.length:Int):=by omega
  refine ⟨hr.ix (by omega) hlt,_,_,_,_,_,_,_,_,_,_,_,_,_,_,_,_,_,_,_,_,hr.cells k (by omega) hlt,fun w2 hx2 _ => ?_⟩
  have hr2:=hr.ext hx2
  refine (k_toGroup (hr2.locals k (by omega) hlt) (hr2.dry k (by omega) hlt) (hr2.shelves k (by omega) hlt) (hs k (by omega) hlt)).mono fun e w3 ⟨m',he,hM,hx3⟩ => ?_
  have hO3:=hO.ext0 (hx2.trans hx3)
  have hb:wr.heap.size≤w2.heap.size:=(hX.trans hx2).size
  have hdj:∀j:Int,0≤j→j<(ps.length:Int)→(k:Int)≠j→∀b∈grpBlks (gi ps j).2,b∉grpBlks m':=fun j hj hjl _ b hb hb'=>by
   have h1:=((hO.each j hj hjl).ext0 hx2).lt b hb
   have h2:=hM.lt b hb'
   omega
  have hput:=hO3.put (i:=(k:Int)) (by omega) hi (p:=(gi gs (k:Int),m')) (hM.mono hb) hdj
  refine ⟨_,_,_,_,_,_,_,_,_,_,_,_,_,_,_,_,_,_,_,_,he,kept_nil,by have:=hO.row.ix (i:=(k:Int)) (by omega) hi; rwa [hpl] at this,hO3.row.wr elt_Group.len (by simp) (by omega) hi (j:=0) (n:=14) (by omega),inR_nat hlt (by omega),fun w4 hx4 _=>loop1w_next (by omega) ⟨by omega,?_,ps.set k (gi gs (k:Int),m'),by rw [List.length_set]; exact hpl,fun j hj => ?_,hput.ext0 hx4⟩⟩
  ·exact (hO3.row.stoB _ _ ((hX.trans hx2).trans hx3) (Nat.le_refl _)).trans hx4
  ·have:=gi_set ps (gi gs (k:Int),m') (i:=(k:Int)) (by omega) hi (j:=(j:Int)) (by omega)
   rw [Int.toNat_natCast] at this
   rw [this]
   by_cases hjk:(k:Int)=(j:Int)
   ·have:k=j:=by omega
    subst this; rw [if_pos rfl]
   ·rw [if_neg hjk]; exact hpe j (by omega)
 ·have hge:=of_decide_eq_false hge
  have hk:k=gs.length:=by omega
  subst hk
  refine fun w2 hx2=>⟨_,_,ps,rfl,gi_ext (by simpa using hpl) fun j hj => ?_,(hO.ext0 hx2).mono hx.size,(hx.trans hX).trans hx2⟩
  rw [List.length_map] at hj
  rw [gi_map _ _ (by omega) (by omega)]
  exact hpe j (by omega)
end Go.Proofs.YtajdcjidpolloaaGreatDoor
namespace Go.Proofs.YtajdcjidpolloaaGreatDoor
open Go.RowKit
set_option linter.unusedVariables false
set_option linter.unusedSimpArgs false
set_option maxRecDepth 10000
theorem inR64 {z:Int} (h1 : -9223372036854775808≤z) (h2:z≤9223372036854775807):InR .i64 z:=⟨h1,h2⟩
def stp (w:Int):Int:=Int.tdiv 232792560 w
def inB (n a b:Int):Bool:=decide (n≥a)&&decide (n≤b)
theorem inB_t {n a b:Int}:inB n a b=true↔a≤n∧n≤b:=by simp [inB]
theorem inB_f {n a b:Int}:inB n a b=false↔¬(a≤n∧n≤b):=by rw [←inB_t]; simp
def vstep (n w:Int):Int:=if inB n 0 100000000&&inB w 1 20 then n*stp w else 0
def lagMost (w:Int):Int:=vstep 149 w
theorem stp_fin:∀k:Fin 20,stp ((k.val:Int)+1)*((k.val:Int)+1)=232792560:=by decide
theorem stp_mul {w:Int} (h1:1≤w) (h2:w≤20):stp w*w=232792560:=by
 have:=stp_fin ⟨(w - 1).toNat,by omega⟩
 have e:(((w - 1).toNat:Nat):Int)+1=w:=by omega
 simp only [e] at this
 exact this
theorem stp_lo {w:Int} (h1:1≤w) (h2:w≤20):11639628≤stp w∧stp w≤232792560:=by
 have h:=stp_mul h1 h2
 have hp:0≤stp w:=by
  rcases Int.lt_or_le (stp w) 0 with hn | hn
  ·have:=Int.mul_neg_of_neg_of_pos hn (show 0<w by omega)
   omega
  ·exact hn
 constructor
 ·have:=Int.mul_le_mul_of_nonneg_left h2 hp
  omega
 ·have:=Int.mul_le_mul_of_nonneg_left h1 hp
  omega
theorem vstep_in {n w:Int} (h1:0≤n) (h2:n≤100000000) (h3:1≤w) (h4:w≤20):vstep n w=n*stp w:=by
 unfold vstep
 rw [if_pos]
 rw [Bool.and_eq_true,inB_t,inB_t]; exact ⟨⟨h1,h2⟩,h3,h4⟩
theorem vstep_out {n w:Int} (h:¬(0≤n∧n≤100000000∧1≤w∧w≤20)):vstep n w=0:=by
 unfold vstep
 rw [if_neg]
 rw [Bool.and_eq_true,inB_t,inB_t]; omega
theorem mul_stp {n w:Int} (h1:0≤n) (h2:n≤100000000) (h3:1≤w) (h4:w≤20):0≤n*stp w∧n*stp w≤23279256000000000:=by
 have hs:=stp_lo h3 h4
 refine ⟨Int.mul_nonneg h1 (by omega),?_⟩
 calc n*stp w≤100000000*stp w:=Int.mul_le_mul_of_nonneg_right h2 (by omega)
  _≤100000000*232792560:=Int.mul_le_mul_of_nonneg_left hs.2 (by decide)
  _=23279256000000000:=rfl
theorem k_impl_inRange {n a b:Int} {w:World} {bs:List Nat}:PureX bs Tryz.prog fn_impl_inRange #[.int .i64 n,.int .i64 a,.int .i64 b] w (.bool (inB n a b)) :=
 p_impl_inRange n a b fun wr hx=>by unfold V_impl_inRange; rfl
theorem k_spec_l1In {n a b:Int} {w:World} {bs:List Nat}:PureX bs Tryz.prog fn_spec_l1In #[.int .i64 n,.int .i64 a,.int .i64 b] w (.bool (inB n a b)) :=
 p_spec_l1In n a b fun wr hx=>by unfold V_spec_l1In; rfl
theorem k_impl_weightOk {n:Int} {w:World} {bs:List Nat}:PureX bs Tryz.prog fn_impl_weightOk #[.int .i64 n] w (.bool (inB n 1 20)) :=
 p_impl_weightOk n fun wr hx=>⟨_,k_impl_inRange,rfl⟩
theorem k_spec_l1Weight {n:Int} {w:World} {bs:List Nat}:PureX bs Tryz.prog fn_spec_l1Weight #[.int .i64 n] w (.bool (inB n 1 20)) :=
 p_spec_l1Weight n fun wr hx=>⟨_,k_spec_l1In,rfl⟩
theorem k_impl_niceOk {n:Int} {w:World} {bs:List Nat}:PureX bs Tryz.prog fn_impl_niceOk #[.int .i64 n] w (.bool (inB n (-10) 9)) :=
 p_impl_niceOk n fun wr hx=>⟨_,k_impl_inRange,rfl⟩
def wsC (k j:Nat):Int:=if j≤k then stp (j:Int) else 0
def wsT (k:Nat):List Value:=[.int .i64 ((k:Int)+1),.int .i64 0,.int .i64 (wsC k 1),.int .i64 (wsC k 2),.int .i64 (wsC k 3),.int .i64 (wsC k 4),.int .i64 (wsC k 5),.int .i64 (wsC k 6),.int .i64 (wsC k 7),
 .int .i64 (wsC k 8),.int .i64 (wsC k 9),.int .i64 (wsC k 10),.int .i64 (wsC k 11),.int .i64 (wsC k 12),.int .i64 (wsC k 13),.int .i64 (wsC k 14),.int .i64 (wsC k 15),.int .i64 (wsC k 16),.int .i64 (wsC k 17),.int .i64 (wsC k 18),.int .i64 (wsC k 19),.int .i64 (wsC k 20)]
theorem k_impl_weightSteps {w:World} {bs:List Nat}:PureX bs Tryz.prog fn_impl_weightSteps #[] w (.agg #[.int .i64 0,.int .i64 (wsC 20 1),.int .i64 (wsC 20 2),.int .i64 (wsC 20 3),.int .i64 (wsC 20 4),.int .i64 (wsC 20 5),.int .i64 (wsC 20 6),.int .i64 (wsC 20 7),
 .int .i64 (wsC 20 8),.int .i64 (wsC 20 9),.int .i64 (wsC 20 10),.int .i64 (wsC 20 11),.int .i64 (wsC 20 12),.int .i64 (wsC 20 13),.int .i64 (wsC 20 14),.int .i64 (wsC 20 15),.int .i64 (wsC 20 16),.int .i64 (wsC 20 17),.int .i64 (wsC 20 18),.int .i64 (wsC 20 19),.int .i64 (wsC 20 20)]) :=
 p_impl_weightSteps fun wr hx=>by
  intro _ _ _ _
  refine ⟨fun vs=>∃k:Nat,k≤20∧vs=wsT k,fun vs=>match vs with
   | .int _ i::_=>(21 - i).toNat
   | _=>0,⟨0,by omega,rfl⟩,?_⟩
  rintro i l l1 l2 l3 l4 l5 l6 l7 l8 l9 l10 l11 l12 l13 l14 l15 l16 l17 l18 l19 l20 ⟨k,hk,he⟩
  simp only [wsT,List.cons.injEq,Value.int.injEq,true_and,and_true] at he
  obtain ⟨rfl,rfl,rfl,rfl,rfl,rfl,rfl,rfl,rfl,rfl,rfl,rfl,rfl,rfl,rfl,rfl,rfl,rfl,rfl,rfl,rfl,rfl⟩:=he
  constructor
  ·intro h
   have h:=of_decide_eq_true h
   refine ⟨⟨by omega,?_⟩,⟨by omega,by omega⟩,by omega,?_⟩
   ·have:=stp_lo (w:=(k:Int)+1) (by omega) (by omega)
    exact inR64 (by unfold stp at this; omega) (by unfold stp at this; omega)
   ·refine ⟨_,_,_,_,_,_,_,_,_,_,_,_,_,_,_,_,_,_,_,_,_,?_,inR64 (by omega) (by omega),⟨k+1,by omega,rfl⟩,?_⟩
    ·have:k=0∨k=1∨k=2∨k=3∨k=4∨k=5∨k=6∨k=7∨k=8∨k=9∨k=10∨k=11∨k=12∨k=13∨k=14∨k=15∨k=16∨k=17∨k=18∨k=19:=by omega
     rcases this with rfl | rfl | rfl | rfl | rfl | rfl | rfl | rfl | rfl | rfl | rfl | rfl | rfl | rfl | rfl | rfl | rfl | rfl | rfl | rfl <;> rfl
    ·show (21 - (((k:Int)+1)+1)).toNat<(21 - ((k:Int)+1)).toNat
     omega
  ·intro h
   have h:=of_decide_eq_false h
   have hk:k=20:=by omega
   subst hk
   rfl
theorem ws_get {k:Int} (h1:1≤k) (h2:k≤20):(#[.int .i64 0,.int .i64 (wsC 20 1),.int .i64 (wsC 20 2),.int .i64 (wsC 20 3),.int .i64 (wsC 20 4),.int .i64 (wsC 20 5),.int .i64 (wsC 20 6),.int .i64 (wsC 20 7),
 .int .i64 (wsC 20 8),.int .i64 (wsC 20 9),.int .i64 (wsC 20 10),.int .i64 (wsC 20 11),.int .i64 (wsC 20 12),.int .i64 (wsC 20 13),.int .i64 (wsC 20 14),.int .i64 (wsC 20 15),.int .i64 (wsC 20 16),.int .i64 (wsC 20 17),.int .i64 (wsC 20 18),.int .i64 (wsC 20 19),.int .i64 (wsC 20 20)]:Array Value)[Int.toNat k]? = some (.int .i64 (stp k)):=by
 have:k=1∨k=2∨k=3∨k=4∨k=5∨k=6∨k=7∨k=8∨k=9∨k=10∨k=11∨k=12∨k=13∨k=14∨k=15∨k=16∨k=17∨k=18∨k=19∨k=20:=by omega
 rcases this with rfl | rfl | rfl | rfl | rfl | rfl | rfl | rfl | rfl | rfl | rfl | rfl | rfl | rfl | rfl | rfl | rfl | rfl | rfl | rfl <;> rfl
theorem k_impl_VirtualStep {n k:Int} {w:World} {bs:List Nat}:PureX bs Tryz.prog fn_impl_VirtualStep #[.int .i64 n,.int .i64 k] w (.int .i64 (vstep n k)) :=
 p_impl_VirtualStep n k fun wr hx=>by
  refine ⟨_,k_impl_inRange,_,fun _=>k_impl_weightOk,fun h => ?_,fun h => ?_⟩
  ·congr 1; unfold vstep; rw [if_neg]; intro h2; simp only [Bool.and_eq_true] at h2; simp [h2] at h
  ·have h2:inB n 0 100000000=true∧inB k 1 20=true:=by simpa using h
   rw [inB_t,inB_t] at h2
   have hm:=mul_stp h2.1.1 h2.1.2 h2.2.1 h2.2.2
   refine ⟨_,_,_,_,_,_,_,_,_,_,_,_,_,_,_,_,_,_,_,_,_,k_impl_weightSteps,stp k,⟨by omega,by omega,ws_get h2.2.1 h2.2.2⟩,inR64 (by omega) (by omega),?_⟩
   rw [vstep_in h2.1.1 h2.1.2 h2.2.1 h2.2.2]
theorem k_impl_LagMost {k:Int} {w:World} {bs:List Nat}:PureX bs Tryz.prog fn_impl_LagMost #[.int .i64 k] w (.int .i64 (lagMost k)) :=
 p_impl_LagMost k fun wr hx=>⟨_,k_impl_VirtualStep,rfl⟩
end Go.Proofs.YtajdcjidpolloaaGreatDoor
namespace Go.Proofs.YtajdcjidpolloaaGreatDoor
open Go.RowKit
set_option linter.unusedVariables false
set_option linter.unusedSimpArgs false
set_option maxRecDepth 10000
def fileN (s:ByteArray):Bool:=(((((strEq s (⟨[119,101,105,103,104,116].toArray⟩))||(strEq s (⟨[109,97,120].toArray⟩)))||(strEq s (⟨[99,112,117,115].toArray⟩)))||(strEq s (⟨[112,114,111,99,115].toArray⟩)))||(strEq s (⟨[115,116,97,116].toArray⟩)))
def okc (x:Int):Bool:=(((decide (x≥97))&&(decide (x≤122)))||((decide (x≥48))&&(decide (x≤57))))
def nameOk (s:ByteArray):Bool:=inB (s.size:Int) 1 8 && !fileN s&&(List.range s.size).all fun i=>okc (strAt s (i:Int))
theorem nameOk_iff {s:ByteArray}:nameOk s=true↔(1≤s.size∧s.size≤8)∧fileN s=false∧∀i:Nat,i<s.size→okc (strAt s (i:Int))=true:=by
 unfold nameOk
 simp only [Bool.and_eq_true,inB_t,Bool.not_eq_true',List.all_eq_true,List.mem_range]
 constructor
 ·rintro ⟨⟨h1,h2⟩,h3⟩; exact ⟨⟨by omega,by omega⟩,h2,h3⟩
 ·rintro ⟨⟨h0,h1⟩,h2,h3⟩; exact ⟨⟨⟨by omega,by omega⟩,h2⟩,h3⟩
theorem nameOk_no {s:ByteArray} (h:¬((1≤s.size∧s.size≤8)∧fileN s=false∧∀i:Nat,i<s.size→okc (strAt s (i:Int))=true)):nameOk s=false:=by
 cases hn:nameOk s with
 | false=>rfl
 | true=>exact absurd (nameOk_iff.1 hn) h
theorem k_spec_l6File {s:ByteArray} {w:World} {bs:List Nat}:PureX bs Tryz.prog fn_spec_l6File #[.string s] w (.bool (fileN s)) :=
 p_spec_l6File s fun wr hx=>rfl
theorem k_spec_NameOk {s:ByteArray} {w:World} {bs:List Nat}:PureX bs Tryz.prog fn_spec_NameOk #[.string s] w (.bool (nameOk s)) :=
 p_spec_NameOk s fun wr hx=>by
  refine ⟨_,k_spec_l1In,fileN s,fun _=>k_spec_l6File,fun h => ?_,fun h => ?_⟩
  ·rw [nameOk_no]
   rintro ⟨h1,h2,_⟩
   rw [h2,inB_t.2 (by omega)] at h
   cases h
  ·have h:inB (s.size:Int) 1 8=true∧fileN s=false:=by simpa using h
   have h1:=inB_t.1 h.1
   refine loop1 s.size 0 rfl (fun k=>k≤s.size∧∀j:Nat,j<k→okc (strAt s (j:Int))=true) ⟨Nat.zero_le _,fun j hj=>absurd hj (Nat.not_lt_zero j)⟩ fun k ⟨hk,hI⟩=>⟨fun hlt => ?_,fun hge => ?_⟩
   ·have hlt:=of_decide_eq_true hlt
    have hr:0≤(k:Int)∧(k:Int)<(s.size:Int):=⟨by omega,hlt⟩
    refine ⟨hr,fun _=>hr,fun _=>hr,fun _ _=>hr,fun hno => ?_,fun hyes=>⟨⟨by omega,by omega⟩,loop1_next (by omega) ⟨by omega,fun j hj => ?_⟩⟩⟩
    ·rw [nameOk_no]
     rintro ⟨_,_,h3⟩
     have:=h3 k (by omega)
     unfold okc at this
     rw [this] at hno
     cases hno
    ·by_cases hjk:j<k
     ·exact hI j hjk
     ·have:j=k:=by omega
      subst this
      unfold okc
      rw [Bool.not_eq_false'] at hyes
      exact hyes
   ·have hge:=of_decide_eq_false hge
    have hk:k=s.size:=by omega
    subst hk
    rw [nameOk_iff.2 ⟨⟨by omega,by omega⟩,h.2,hI⟩]
def usedD (gs:List Grp) (g:Int):Bool:=(decide (g≥0)&&decide (g<(gs.length:Int)))&&(gi gs g).used
theorem usedD_iff {gs:List Grp} {g:Int}:usedD gs g=true↔0≤g∧g<(gs.length:Int)∧(gi gs g).used=true:=by
 unfold usedD
 simp [and_assoc]
def dep:Nat→List Grp→Int→Int
 | 0,_,g=>if g=0 then 0 else -1
 | f+1,gs,g=>if g=0 then 0 else if dep f gs (gi gs g).parent<0 then -1 else dep f gs (gi gs g).parent+1
def l6dep:Nat→List Grp→Int→Int→Int
 | 0,_,_,_ => -1
 | f+1,gs,g,n=>if usedD gs g=false then -1 else if g=0 then n else l6dep f gs (gi gs g).parent (n+1)
theorem dep_range (gs:List Grp):∀(f:Nat) (g:Int),-1≤dep f gs g∧dep f gs g≤f
 | 0,g=>by simp only [dep]; split <;> omega
 | f+1,g=>by
  have:=dep_range gs f (gi gs g).parent
  simp only [dep]
  split
  ·omega
  ·split <;> omega
theorem dep_more (gs:List Grp):∀(f f':Nat) (g:Int),0≤dep f gs g→dep f gs g≤f'→dep f' gs g=dep f gs g
 | 0,f',g,h,_=>by
  simp only [dep] at h ⊢
  split at h
  ·rename_i hg
   cases f' <;> simp [dep,hg]
  ·omega
 | f+1,f',g,h,hle=>by
  simp only [dep] at h hle ⊢
  by_cases hg:g=0
  ·rw [if_pos hg]
   cases f' <;> simp [dep,hg]
  ·rw [if_neg hg] at h hle ⊢
   by_cases hd:dep f gs (gi gs g).parent<0
   ·rw [if_pos hd] at h; omega
   ·rw [if_neg hd] at hle ⊢
    cases f' with
    | zero=>omega
    | succ f' =>
     have:=dep_more gs f f' (gi gs g).parent (by omega) (by omega)
     simp only [dep]
     rw [if_neg hg,this,if_neg hd]
theorem dep_root (gs:List Grp) (f:Nat):dep f gs 0=0:=by cases f <;> simp [dep]
theorem dep_zero {gs:List Grp} {f:Nat} {g:Int} (h:dep f gs g=0):g=0:=by
 cases f with
 | zero=>simp only [dep] at h; split at h <;> first | assumption | omega
 | succ f =>
  simp only [dep] at h
  split at h
  ·assumption
  ·split at h <;> omega
structure TreeP (gs:List Grp):Prop where
 len:gs.length=8
 ru:(gi gs 0).used=true
 rp:(gi gs 0).parent = -1
 rn:(gi gs 0).name=⟨[].toArray⟩
 nm:∀g:Int,1≤g→g<8→(gi gs g).used=true→nameOk (gi gs g).name=true
 par:∀g:Int,1≤g→g<8→(gi gs g).used=true→usedD gs (gi gs g).parent=true
 dp:∀g:Int,1≤g→g<8→(gi gs g).used=true→0≤dep 3 gs g
 uniq:∀g h:Int,1≤h→h<g→g<8→(gi gs g).used=true→(gi gs h).used=true→¬((gi gs h).parent=(gi gs g).parent∧(gi gs h).name=(gi gs g).name)
noncomputable def treeB (gs:List Grp):Bool := @decide (TreeP gs) (Classical.propDecidable _)
theorem treeB_iff {gs:List Grp}:treeB gs=true↔TreeP gs := @decide_eq_true_iff _ (Classical.propDecidable _)
theorem treeB_no {gs:List Grp} (h:¬TreeP gs):treeB gs=false:=by
 cases hb:treeB gs with
 | false=>rfl
 | true=>exact absurd (treeB_iff.1 hb) h
theorem l6dep_eq {gs:List Grp} (hp:∀g:Int,g≠0→usedD gs g=true→usedD gs (gi gs g).parent=true):∀(f:Nat) (g n:Int),usedD gs g=true→l6dep (f+1) gs g n=if dep f gs g<0 then -1 else n+dep f gs g
 | 0,g,n,hu=>by
  simp only [l6dep,dep,hu]
  by_cases hg:g=0 <;> simp [hg]
 | f+1,g,n,hu=>by
  rw [l6dep]
  simp only [hu]
  by_cases hg:g=0
  ·simp [hg,dep]
  ·have ih:=l6dep_eq hp f (gi gs g).parent (n+1) (hp g hg hu)
   have hr:=dep_range gs f (gi gs g).parent
   simp only [dep,if_neg hg]
   rw [ih]
   by_cases hd:dep f gs (gi gs g).parent<0
   ·simp [hd]
   ·have h2:¬(dep f gs (gi gs g).parent+1<0):=by omega
    simp [hd,h2]; omega
theorem l6dep_par {gs:List Grp} {f:Nat} {g n:Int} (hg:g≠0) (h:l6dep (f+1) gs g n≠-1):f≠0∧usedD gs (gi gs g).parent=true:=by
 rw [l6dep] at h
 by_cases hu:usedD gs g=false
 ·rw [if_pos hu] at h; exact absurd rfl h
 ·rw [if_neg hu,if_neg hg] at h
  cases f with
  | zero=>exact absurd rfl h
  | succ f =>
   rw [l6dep] at h
   by_cases hp:usedD gs (gi gs g).parent=false
   ·rw [if_pos hp] at h; exact absurd rfl h
   ·exact ⟨by omega,by simpa using hp⟩
structure TreeS (gs:List Grp) (k:Int):Prop where
 each:∀g:Int,1≤g→g<k→(gi gs g).used=true→nameOk (gi gs g).name=true∧inB (l6dep 9 gs g 0) 1 3=true∧∀h:Int,1≤h→h<g→(gi gs h).used=true→¬((gi gs h).parent=(gi gs g).parent∧(gi gs h).name=(gi gs g).name)
theorem tree_of_S {gs:List Grp} (hl:gs.length=8) (ru:(gi gs 0).used=true) (rp:(gi gs 0).parent = -1) (rn:(gi gs 0).name=⟨[].toArray⟩) (h:TreeS gs 8):TreeP gs:=by
 have par:∀g:Int,1≤g→g<8→(gi gs g).used=true→usedD gs (gi gs g).parent=true:=fun g h1 h2 hu=>by
  have:=inB_t.1 (h.each g h1 h2 hu).2.1
  exact (l6dep_par (f:=8) (n:=0) (by omega) (by show l6dep 9 gs g 0≠-1; omega)).2
 have hp:∀g:Int,g≠0→usedD gs g=true→usedD gs (gi gs g).parent=true:=fun g hg hu=>by
  obtain ⟨a,b,c⟩:=usedD_iff.1 hu
  exact par g (by omega) (by omega) c
 refine ⟨hl,ru,rp,rn,fun g h1 h2 hu=>(h.each g h1 h2 hu).1,par,fun g h1 h2 hu => ?_,fun g k h1 h2 h3 hu hk=>(h.each g (by omega) h3 hu).2.2 k h1 h2 hk⟩
 have h9:=inB_t.1 (h.each g h1 h2 hu).2.1
 rw [l6dep_eq hp 8 g 0 (usedD_iff.2 ⟨by omega,by omega,hu⟩)] at h9
 split at h9
 ·omega
 ·rename_i hd
  have:=dep_more gs 8 3 g (by omega) (by omega)
  omega
theorem S_of_tree {gs:List Grp} (h:TreeP gs):TreeS gs 8:=by
 have hp:∀g:Int,g≠0→usedD gs g=true→usedD gs (gi gs g).parent=true:=fun g hg hu=>by
  obtain ⟨a,b,c⟩:=usedD_iff.1 hu
  have:=h.len
  exact h.par g (by omega) (by omega) c
 refine ⟨fun g h1 h2 hu=>⟨h.nm g h1 h2 hu,?_,fun k h3 h4 hk=>h.uniq g k h3 h4 h2 hu hk⟩⟩
 have hl:=h.len
 rw [l6dep_eq hp 8 g 0 (usedD_iff.2 ⟨by omega,by omega,hu⟩)]
 have h3:=h.dp g h1 h2 hu
 have hr:=dep_range gs 3 g
 have:=dep_more gs 3 8 g h3 (by omega)
 rw [this,if_neg (by omega)]
 have hz:dep 3 gs g≠0:=fun e=>by have:=dep_zero e; omega
 exact inB_t.2 (by omega)
section
variable {gs:List Grp} {ms:Nat→MG} {o:Option Addr} {c:Nat} {w:World} {bs:List Nat}
theorem RdG.used (h:RdG bs w o gs ms) {i:Int} (h0:0≤i) (h1:i<(gs.length:Int)):CellsX bs w o (Int.toNat i*14+0) [.bool (gi gs i).used]:=(h.cells i h0 h1).get 0 _ rfl
theorem RdG.parent (h:RdG bs w o gs ms) {i:Int} (h0:0≤i) (h1:i<(gs.length:Int)):CellsX bs w o (Int.toNat i*14+1) [.int .i64 (gi gs i).parent]:=(h.cells i h0 h1).get 1 _ rfl
theorem RdG.name (h:RdG bs w o gs ms) {i:Int} (h0:0≤i) (h1:i<(gs.length:Int)):CellsX bs w o (Int.toNat i*14+2) [.string (gi gs i).name]:=(h.cells i h0 h1).get 2 _ rfl
theorem k_spec_l6Used {g:Int} (h:RdG bs w o gs ms):PureX bs Tryz.prog fn_spec_l6Used #[.slice o gs.length c,.int .i64 g] w (.bool (usedD gs g)) :=
 p_spec_l6Used o gs.length c g fun wr hx=>by
  have h:=(h.ext hx).less (cs:=[]) (by simp)
  refine ⟨fun q => ?_,(gi gs g).used,fun q => ?_,rfl⟩
  ·have q:0≤g∧g<(gs.length:Int):=by simpa using q
   exact h.ix q.1 q.2
  ·have q:0≤g∧g<(gs.length:Int):=by simpa using q
   exact h.used q.1 q.2
theorem k_spec_l6Depth {g:Int} (h:RdG bs w o gs ms) (hl:gs.length<maxLen):PureX bs Tryz.prog fn_spec_l6Depth #[.slice o gs.length c,.int .i64 g] w (.int .i64 (l6dep (gs.length+1) gs g 0)) :=
 p_spec_l6Depth o gs.length c g fun wr hx=>by
  have h:=(h.ext hx).less (cs:=[]) (by simp)
  refine loop2 (gs.length+1) 0 rfl (fun x k=>k≤gs.length+1∧l6dep (gs.length+1 - k) gs x k=l6dep (gs.length+1) gs g 0) ⟨by omega,rfl⟩ fun x k ⟨hk,he⟩=>⟨fun hlt => ?_,fun hge => ?_⟩
  ·have hlt:=of_decide_eq_true hlt
   have hf:gs.length+1 - k=(gs.length - k)+1:=by omega
   rw [hf,l6dep] at he
   refine ⟨_,k_spec_l6Used h,fun hu => ?_,fun hu => ?_⟩
   ·have hu:usedD gs x=false:=by simpa using hu
    rw [if_pos hu] at he
    rw [←he]
   ·have hu:usedD gs x=true:=by simpa using hu
    rw [if_neg (by simp [hu])] at he
    obtain ⟨u1,u2,u3⟩:=usedD_iff.1 hu
    refine ⟨fun hz => ?_,fun hz => ?_⟩
    ·rw [if_pos (by simpa using hz)] at he
     rw [←he]
    ·rw [if_neg (by simpa using hz)] at he
     have hm:=maxLen_le
     refine ⟨h.ix u1 u2,_,h.parent u1 u2,⟨by omega,by omega⟩,loop2_next (by omega) ⟨by omega,?_⟩⟩
     rw [←he,show gs.length+1 - (k+1)=gs.length - k by omega]
     rfl
  ·have hge:=of_decide_eq_false hge
   have:gs.length+1 - k=0:=by omega
   rw [this] at he
   rw [←he]; rfl
theorem k_spec_TreeOk (h:RdG bs w o gs ms) (hl:gs.length≤maxLen):PureX bs Tryz.prog fn_spec_TreeOk #[.slice o gs.length c] w (.bool (treeB gs)) :=
 p_spec_TreeOk o gs.length c fun wr hx=>by
  have h:=(h.ext hx).less (cs:=[]) (by simp)
  have l8:((((gs.length:Nat):Int) != 8)=false)→gs.length=8:=fun q=>by have:=(bne_eq_false_iff_eq).1 q; omega
  have i0:∀q:(((gs.length:Nat):Int) != 8)=false,(0:Int)<(gs.length:Int):=fun q=>by have:=l8 q; omega
  refine ⟨fun q=>h.ix (Int.le_refl _) (i0 q),(gi gs 0).used,fun q=>h.used (Int.le_refl _) (i0 q),fun q => ?_,(gi gs 0).parent,fun q => ?_,fun q => ?_,(gi gs 0).name,fun q => ?_,fun q => ?_,fun q => ?_⟩
  ·simp only [Bool.or_eq_false_iff] at q; exact h.ix (Int.le_refl _) (i0 q.1)
  ·simp only [Bool.or_eq_false_iff] at q; exact h.parent (Int.le_refl _) (i0 q.1)
  ·simp only [Bool.or_eq_false_iff] at q; exact h.ix (Int.le_refl _) (i0 q.1.1)
  ·simp only [Bool.or_eq_false_iff] at q; exact h.name (Int.le_refl _) (i0 q.1.1)
  ·rw [treeB_no]
   intro ht
   have e:((gs.length:Nat):Int)=8:=by have:=ht.len; omega
   rw [e,ht.ru,ht.rp,ht.rn,strEq_eq] at q
   simp at q
  ·simp only [Bool.or_eq_false_iff,Bool.not_eq_false',bne_eq_false_iff_eq,strEq_iff] at q
   obtain ⟨⟨⟨q1,ru⟩,rp⟩,rn⟩:=q
   have hl8:gs.length=8:=by omega
   refine loop1 8 1 rfl (fun k=>1≤k∧k≤8∧TreeS gs k) ⟨Nat.le_refl _,by omega,⟨fun g h1 h2=>by omega⟩⟩ fun k ⟨hk1,hk,hS⟩=>⟨fun hlt => ?_,fun hge => ?_⟩
   ·have hlt:=of_decide_eq_true hlt
    have hk0:(0:Int)≤(k:Int):=by omega
    have step:((gi gs (k:Int)).used=true→nameOk (gi gs (k:Int)).name=true∧inB (l6dep 9 gs (k:Int) 0) 1 3=true∧∀h:Int,1≤h→h<(k:Int)→(gi gs h).used=true→¬((gi gs h).parent=(gi gs (k:Int)).parent∧(gi gs h).name=(gi gs (k:Int)).name))→TreeS gs ((k+1:Nat):Int):=fun hst=>⟨fun g h1 h2 hu=>by
     by_cases hgk:g<(k:Int)
     ·exact hS.each g h1 hgk hu
     ·have:g=(k:Int):=by omega
      subst this; exact hst hu⟩
    refine ⟨h.ix hk0 hlt,_,h.used hk0 hlt,fun hu=>⟨⟨by omega,by omega⟩,loop1_next (by omega) ⟨by omega,by omega,step fun hu'=>by rw [hu'] at hu; cases hu⟩⟩,fun hu => ?_⟩
    have hu:(gi gs (k:Int)).used=true:=by simpa using hu
    refine ⟨h.ix hk0 hlt,_,h.name hk0 hlt,_,k_spec_NameOk,l6dep 9 gs (k:Int) 0,fun _ => ?_,inB (l6dep 9 gs (k:Int) 0) 1 3,fun _=>k_spec_l1In,fun q => ?_,fun q => ?_⟩
    ·have:=k_spec_l6Depth (c:=c) (g:=(k:Int)) h (by rw [hl8]; simp [maxLen])
     rwa [hl8] at this ⊢
    ·rw [treeB_no]
     intro ht
     have:=(S_of_tree ht).each (k:Int) (by omega) (by omega) hu
     rw [this.1,this.2.1] at q
     cases q
    ·simp only [Bool.or_eq_false_iff,Bool.not_eq_false'] at q
     refine loop1 k 1 rfl (fun j=>1≤j∧j≤k∧∀h:Int,1≤h→h<(j:Int)→(gi gs h).used=true→¬((gi gs h).parent=(gi gs (k:Int)).parent∧(gi gs h).name=(gi gs (k:Int)).name)) ⟨Nat.le_refl _,hk1,fun g h1 h2=>by omega⟩ fun j ⟨hj1,hjk,hJ⟩=>⟨fun hlt2 => ?_,fun hge2 => ?_⟩
     ·have hlt2:=of_decide_eq_true hlt2
      have hj0:(0:Int)≤(j:Int):=by omega
      have hjl:(j:Int)<(gs.length:Int):=by omega
      refine ⟨h.ix hj0 hjl,_,h.used hj0 hjl,fun _=>h.ix hj0 hjl,_,fun _=>h.parent hj0 hjl,fun _=>h.ix hk0 hlt,_,fun _=>h.parent hk0 hlt,fun _=>h.ix hj0 hjl,_,fun _=>h.name hj0 hjl,fun _=>h.ix hk0 hlt,_,fun _=>h.name hk0 hlt,fun hs => ?_,fun hs=>⟨⟨by omega,by omega⟩,loop1_next (by omega) ⟨by omega,by omega,fun g h1 h2 hg => ?_⟩⟩⟩
      ·rw [treeB_no]
       intro ht
       simp only [Bool.and_eq_true,beq_iff_eq,strEq_iff] at hs
       exact ht.uniq (k:Int) (j:Int) (by omega) hlt2 (by omega) hu hs.1.1 ⟨hs.1.2,hs.2⟩
      ·by_cases hgj:g<(j:Int)
       ·exact hJ g h1 hgj hg
       ·have:g=(j:Int):=by omega
        subst this
        rintro ⟨e1,e2⟩
        rw [hg,e1,e2,strEq_eq] at hs
        simp at hs
     ·have hge2:=of_decide_eq_false hge2
      have:j=k:=by omega
      subst this
      exact ⟨⟨by omega,by omega⟩,loop1_next (by omega) ⟨by omega,by omega,step fun _=>⟨q.1,q.2,hJ⟩⟩⟩
   ·have hge:=of_decide_eq_false hge
    have:k=8:=by omega
    subst this
    rw [treeB_iff.2 (tree_of_S hl8 ru rp rn hS)]
theorem climb {gs:List Grp} (ht:TreeP gs) {h:Int} (hu:usedD gs h=true) (hz:h≠0):usedD gs (gi gs h).parent=true∧0≤h∧h<(gs.length:Int)∧∃d:Nat,dep 3 gs h=(d:Int)+1∧dep 3 gs (gi gs h).parent=(d:Int)∧d<3:=by
 obtain ⟨a,b,u⟩:=usedD_iff.1 hu
 have hl:=ht.len
 have h1:1≤h:=by omega
 have hd:=ht.dp h h1 (by omega) u
 refine ⟨ht.par h h1 (by omega) u,a,b,?_⟩
 have hr:=dep_range gs 2 (gi gs h).parent
 have e:dep 3 gs h=if dep 2 gs (gi gs h).parent<0 then -1 else dep 2 gs (gi gs h).parent+1:=by simp only [dep,if_neg hz]
 rw [e] at hd ⊢
 split at hd
 ·omega
 ·rename_i hn
  rw [if_neg hn]
  have:=dep_more gs 2 3 (gi gs h).parent (by omega) (by omega)
  exact ⟨(dep 2 gs (gi gs h).parent).toNat,by omega,by omega,by omega⟩
end
end Go.Proofs.YtajdcjidpolloaaGreatDoor
namespace Go.Proofs.YtajdcjidpolloaaGreatDoor
open Go.RowKit
set_option linter.unusedVariables false
set_option linter.unusedSimpArgs false
set_option maxRecDepth 10000
theorem get_strAt {s:ByteArray} {i:Nat} (h:i<s.size):((s.get! i).toNat:Int)=strAt s (i:Int):=by
 have hi:i<s.data.size:=h
 unfold strAt
 rw [Int.toNat_natCast]
 simp [ByteArray.get!,getElem!_pos s.data i hi,Array.getD,h]
theorem decode_lo {s:ByteArray} {i:Nat} (h:(s.get! i).toNat<128):Utf8.decode s i=((s.get! i).toNat,1):=by
 simp only [Utf8.decode,Nat.add_zero]
 rw [if_pos h]
end Go.Proofs.YtajdcjidpolloaaGreatDoor
