/- Part 8 of what the law FnExactCpuBalance needs: the engine, the functions' propositions, the contracts. -/
import Derived.Test.YtajdcjidpolloaaGreatDoorFnExactCpuBalancePg
namespace Go.Proofs.YtajdcjidpolloaaGreatDoor
open Go.RowKit
set_option linter.unusedVariables false
set_option maxRecDepth 100000
set_option maxHeartbeats 1600000
def ztv (aO:Option Addr) (aL aC:Nat) (k:Int) (w:World) (R:Value→World→Prop):Prop :=
 (∃(aa:List Value→World→Prop) (mu:List Value→World→Nat),(∀wr,ExtX [] w wr→(∀bq∈([]:List Nat),bq<wr.heap.size)→aa [.int .i64 k,.int .i64 0] wr) ∧
 ∀(k1 i:Int) wv,(∀bq∈([]:List Nat),bq<wv.heap.size)→aa [.int .i64 k1,.int .i64 i] wv →
 ((decide (i<(aL:Int)))=true →
 Ix aO aL i ∧
 WrX [] wv aO (Int.toNat i*5+0) 1 ∧
 InR .i64 (k1+1) ∧
 (3:Int)≠0 ∧
 Ix aO aL i ∧
 WrX [] (sto wv aO (Int.toNat i*5+0) [.int .i64 k1]) aO (Int.toNat i*5+1) 1 ∧
 InR .i64 ((k1+1)+1) ∧
 Ix aO aL i ∧
 WrX [] (sto (sto wv aO (Int.toNat i*5+0) [.int .i64 k1]) aO (Int.toNat i*5+1) [.bool ((Int.tmod (k1+1) 3)==0)]) aO (Int.toNat i*5+2) 1 ∧
 InR .i64 (((k1+1)+1)+1) ∧
 Ix aO aL i ∧
 WrX [] (sto (sto (sto wv aO (Int.toNat i*5+0) [.int .i64 k1]) aO (Int.toNat i*5+1) [.bool ((Int.tmod (k1+1) 3)==0)]) aO (Int.toNat i*5+2) [.int .i64 ((k1+1)+1)]) aO (Int.toNat i*5+3) 1 ∧
 InR .i64 ((((k1+1)+1)+1)+1) ∧
 Ix aO aL i ∧
 WrX [] (sto (sto (sto (sto wv aO (Int.toNat i*5+0) [.int .i64 k1]) aO (Int.toNat i*5+1) [.bool ((Int.tmod (k1+1) 3)==0)]) aO (Int.toNat i*5+2) [.int .i64 ((k1+1)+1)]) aO (Int.toNat i*5+3) [.int .i64 (((k1+1)+1)+1)]) aO (Int.toNat i*5+4) 1 ∧
 InR .i64 (((((k1+1)+1)+1)+1)+1) ∧
 InR .i64 (i+1) ∧
 (∀ba,ExtX [] (sto (sto (sto (sto (sto wv aO (Int.toNat i*5+0) [.int .i64 k1]) aO (Int.toNat i*5+1) [.bool ((Int.tmod (k1+1) 3)==0)]) aO (Int.toNat i*5+2) [.int .i64 ((k1+1)+1)]) aO (Int.toNat i*5+3) [.int .i64 (((k1+1)+1)+1)]) aO (Int.toNat i*5+4) [.int .i64 ((((k1+1)+1)+1)+1)]) ba→(∀bq∈([]:List Nat),bq<ba.heap.size)→aa [.int .i64 (((((k1+1)+1)+1)+1)+1),.int .i64 (i+1)] ba∧mu [.int .i64 (((((k1+1)+1)+1)+1)+1),.int .i64 (i+1)] ba<mu [.int .i64 k1,.int .i64 i] wv)) ∧
 ((decide (i<(aL:Int)))=false →
 (∀ca,ExtX [] wv ca→R (.int .i64 k1) ca)))
theorem zt6 (aO aL aC k):EfV (ztv aO aL aC k) zhg #[.slice aO aL aC,.int .i64 k]:=eV [] false [(2,⟨[(1,.int .i64),(5,.int .i64)],[],[0],[],[]⟩)] Tryz.func123 (by kernel_rfl) (by kernel_rfl)
def ztu (aO:Option Addr) (aL aC:Nat) (k:Int) (w:World) (R:Value→World→Prop):Prop :=
 (∃(aa:List Value→World→Prop) (mu:List Value→World→Nat),(∀wr,ExtX [] w wr→(∀bq∈([]:List Nat),bq<wr.heap.size)→aa [.int .i64 k,.int .i64 0] wr) ∧
 ∀(k1 i:Int) wv,(∀bq∈([]:List Nat),bq<wv.heap.size)→aa [.int .i64 k1,.int .i64 i] wv →
 ((decide (i<(aL:Int)))=true →
 (3:Int)≠0 ∧
 Ix aO aL i ∧
 WrX [] wv aO (Int.toNat i*14+0) 1 ∧
 InR .i64 (k1+1) ∧
 Ix aO aL i ∧
 WrX [] (sto wv aO (Int.toNat i*14+0) [.bool ((Int.tmod k1 3)==0)]) aO (Int.toNat i*14+1) 1 ∧
 InR .i64 ((k1+1)+1) ∧
 (∃(ba:ByteArray),
 zab [] Tryz.prog zgf #[.int .i64 ((k1+1)+1)] (sto (sto wv aO (Int.toNat i*14+0) [.bool ((Int.tmod k1 3)==0)]) aO (Int.toNat i*14+1) [.int .i64 (k1+1)]) (.string ba) ∧
 Ix aO aL i ∧
 WrX [] (sto (sto wv aO (Int.toNat i*14+0) [.bool ((Int.tmod k1 3)==0)]) aO (Int.toNat i*14+1) [.int .i64 (k1+1)]) aO (Int.toNat i*14+2) 1 ∧
 InR .i64 (((k1+1)+1)+1) ∧
 Ix aO aL i ∧
 WrX [] (sto (sto (sto wv aO (Int.toNat i*14+0) [.bool ((Int.tmod k1 3)==0)]) aO (Int.toNat i*14+1) [.int .i64 (k1+1)]) aO (Int.toNat i*14+2) [.string ba]) aO (Int.toNat i*14+3) 1 ∧
 InR .i64 ((((k1+1)+1)+1)+1) ∧
 Ix aO aL i ∧
 WrX [] (sto (sto (sto (sto wv aO (Int.toNat i*14+0) [.bool ((Int.tmod k1 3)==0)]) aO (Int.toNat i*14+1) [.int .i64 (k1+1)]) aO (Int.toNat i*14+2) [.string ba]) aO (Int.toNat i*14+3) [.int .i64 (((k1+1)+1)+1)]) aO (Int.toNat i*14+4) 1 ∧
 InR .i64 (((((k1+1)+1)+1)+1)+1) ∧
 Ix aO aL i ∧
 WrX [] (sto (sto (sto (sto (sto wv aO (Int.toNat i*14+0) [.bool ((Int.tmod k1 3)==0)]) aO (Int.toNat i*14+1) [.int .i64 (k1+1)]) aO (Int.toNat i*14+2) [.string ba]) aO (Int.toNat i*14+3) [.int .i64 (((k1+1)+1)+1)]) aO (Int.toNat i*14+4) [.int .i64 ((((k1+1)+1)+1)+1)]) aO (Int.toNat i*14+5) 1 ∧
 InR .i64 ((((((k1+1)+1)+1)+1)+1)+1) ∧
 Ix aO aL i ∧
 WrX [] (sto (sto (sto (sto (sto (sto wv aO (Int.toNat i*14+0) [.bool ((Int.tmod k1 3)==0)]) aO (Int.toNat i*14+1) [.int .i64 (k1+1)]) aO (Int.toNat i*14+2) [.string ba]) aO (Int.toNat i*14+3) [.int .i64 (((k1+1)+1)+1)]) aO (Int.toNat i*14+4) [.int .i64 ((((k1+1)+1)+1)+1)]) aO (Int.toNat i*14+5) [.int .i64 (((((k1+1)+1)+1)+1)+1)]) aO (Int.toNat i*14+6) 1 ∧
 InR .i64 (((((((k1+1)+1)+1)+1)+1)+1)+1) ∧
 Ix aO aL i ∧
 WrX [] (sto (sto (sto (sto (sto (sto (sto wv aO (Int.toNat i*14+0) [.bool ((Int.tmod k1 3)==0)]) aO (Int.toNat i*14+1) [.int .i64 (k1+1)]) aO (Int.toNat i*14+2) [.string ba]) aO (Int.toNat i*14+3) [.int .i64 (((k1+1)+1)+1)]) aO (Int.toNat i*14+4) [.int .i64 ((((k1+1)+1)+1)+1)]) aO (Int.toNat i*14+5) [.int .i64 (((((k1+1)+1)+1)+1)+1)]) aO (Int.toNat i*14+6) [.int .i64 ((((((k1+1)+1)+1)+1)+1)+1)]) aO (Int.toNat i*14+7) 1 ∧
 InR .i64 ((((((((k1+1)+1)+1)+1)+1)+1)+1)+1) ∧
 Ix aO aL i ∧
 WrX [] (sto (sto (sto (sto (sto (sto (sto (sto wv aO (Int.toNat i*14+0) [.bool ((Int.tmod k1 3)==0)]) aO (Int.toNat i*14+1) [.int .i64 (k1+1)]) aO (Int.toNat i*14+2) [.string ba]) aO (Int.toNat i*14+3) [.int .i64 (((k1+1)+1)+1)]) aO (Int.toNat i*14+4) [.int .i64 ((((k1+1)+1)+1)+1)]) aO (Int.toNat i*14+5) [.int .i64 (((((k1+1)+1)+1)+1)+1)]) aO (Int.toNat i*14+6) [.int .i64 ((((((k1+1)+1)+1)+1)+1)+1)]) aO (Int.toNat i*14+7) [.int .i64 (((((((k1+1)+1)+1)+1)+1)+1)+1)]) aO (Int.toNat i*14+8+0) 1 ∧
 InR .i64 (((((((((k1+1)+1)+1)+1)+1)+1)+1)+1)+1) ∧
 Ix aO aL i ∧
 WrX [] (sto (sto (sto (sto (sto (sto (sto (sto (sto wv aO (Int.toNat i*14+0) [.bool ((Int.tmod k1 3)==0)]) aO (Int.toNat i*14+1) [.int .i64 (k1+1)]) aO (Int.toNat i*14+2) [.string ba]) aO (Int.toNat i*14+3) [.int .i64 (((k1+1)+1)+1)]) aO (Int.toNat i*14+4) [.int .i64 ((((k1+1)+1)+1)+1)]) aO (Int.toNat i*14+5) [.int .i64 (((((k1+1)+1)+1)+1)+1)]) aO (Int.toNat i*14+6) [.int .i64 ((((((k1+1)+1)+1)+1)+1)+1)]) aO (Int.toNat i*14+7) [.int .i64 (((((((k1+1)+1)+1)+1)+1)+1)+1)]) aO (Int.toNat i*14+8+0) [.int .i64 ((((((((k1+1)+1)+1)+1)+1)+1)+1)+1)]) aO (Int.toNat i*14+8+1) 1 ∧
 InR .i64 ((((((((((k1+1)+1)+1)+1)+1)+1)+1)+1)+1)+1) ∧
 Ix aO aL i ∧
 WrX [] (sto (sto (sto (sto (sto (sto (sto (sto (sto (sto wv aO (Int.toNat i*14+0) [.bool ((Int.tmod k1 3)==0)]) aO (Int.toNat i*14+1) [.int .i64 (k1+1)]) aO (Int.toNat i*14+2) [.string ba]) aO (Int.toNat i*14+3) [.int .i64 (((k1+1)+1)+1)]) aO (Int.toNat i*14+4) [.int .i64 ((((k1+1)+1)+1)+1)]) aO (Int.toNat i*14+5) [.int .i64 (((((k1+1)+1)+1)+1)+1)]) aO (Int.toNat i*14+6) [.int .i64 ((((((k1+1)+1)+1)+1)+1)+1)]) aO (Int.toNat i*14+7) [.int .i64 (((((((k1+1)+1)+1)+1)+1)+1)+1)]) aO (Int.toNat i*14+8+0) [.int .i64 ((((((((k1+1)+1)+1)+1)+1)+1)+1)+1)]) aO (Int.toNat i*14+8+1) [.int .i64 (((((((((k1+1)+1)+1)+1)+1)+1)+1)+1)+1)]) aO (Int.toNat i*14+8+2) 1 ∧
 InR .i64 (((((((((((k1+1)+1)+1)+1)+1)+1)+1)+1)+1)+1)+1) ∧
 Ix aO aL i ∧
 (∃ca da ea,
 zaa [] (sto (sto (sto (sto (sto (sto (sto (sto (sto (sto (sto wv aO (Int.toNat i*14+0) [.bool ((Int.tmod k1 3)==0)]) aO (Int.toNat i*14+1) [.int .i64 (k1+1)]) aO (Int.toNat i*14+2) [.string ba]) aO (Int.toNat i*14+3) [.int .i64 (((k1+1)+1)+1)]) aO (Int.toNat i*14+4) [.int .i64 ((((k1+1)+1)+1)+1)]) aO (Int.toNat i*14+5) [.int .i64 (((((k1+1)+1)+1)+1)+1)]) aO (Int.toNat i*14+6) [.int .i64 ((((((k1+1)+1)+1)+1)+1)+1)]) aO (Int.toNat i*14+7) [.int .i64 (((((((k1+1)+1)+1)+1)+1)+1)+1)]) aO (Int.toNat i*14+8+0) [.int .i64 ((((((((k1+1)+1)+1)+1)+1)+1)+1)+1)]) aO (Int.toNat i*14+8+1) [.int .i64 (((((((((k1+1)+1)+1)+1)+1)+1)+1)+1)+1)]) aO (Int.toNat i*14+8+2) [.int .i64 ((((((((((k1+1)+1)+1)+1)+1)+1)+1)+1)+1)+1)]) aO (Int.toNat i*14+8+3) [.slice ca da ea] ∧
 (∀fa,ExtX [] (sto (sto (sto (sto (sto (sto (sto (sto (sto (sto (sto wv aO (Int.toNat i*14+0) [.bool ((Int.tmod k1 3)==0)]) aO (Int.toNat i*14+1) [.int .i64 (k1+1)]) aO (Int.toNat i*14+2) [.string ba]) aO (Int.toNat i*14+3) [.int .i64 (((k1+1)+1)+1)]) aO (Int.toNat i*14+4) [.int .i64 ((((k1+1)+1)+1)+1)]) aO (Int.toNat i*14+5) [.int .i64 (((((k1+1)+1)+1)+1)+1)]) aO (Int.toNat i*14+6) [.int .i64 ((((((k1+1)+1)+1)+1)+1)+1)]) aO (Int.toNat i*14+7) [.int .i64 (((((((k1+1)+1)+1)+1)+1)+1)+1)]) aO (Int.toNat i*14+8+0) [.int .i64 ((((((((k1+1)+1)+1)+1)+1)+1)+1)+1)]) aO (Int.toNat i*14+8+1) [.int .i64 (((((((((k1+1)+1)+1)+1)+1)+1)+1)+1)+1)]) aO (Int.toNat i*14+8+2) [.int .i64 ((((((((((k1+1)+1)+1)+1)+1)+1)+1)+1)+1)+1)]) fa→(∀bq∈([]:List Nat),bq<fa.heap.size) →
 Calls Tryz.prog zi9 #[.slice ca da ea,.int .i64 (((((((((((k1+1)+1)+1)+1)+1)+1)+1)+1)+1)+1)+1)] fa fun e ga =>
 (∃ha,
 e = .returned (.int .i64 ha)∧Kept [] fa ga ∧
 Ix aO aL i ∧
 (∃ia ja ka,
 zaa [] ga aO (Int.toNat i*14+8+4) [.slice ia ja ka] ∧
 (∀la,ExtX [] ga la→(∀bq∈([]:List Nat),bq<la.heap.size) →
 Calls Tryz.prog zic #[.slice ia ja ka,.int .i64 ha] la fun e1 ma =>
 (∃na,
 e1 = .returned (.int .i64 na)∧Kept [] la ma ∧
 Ix aO aL i ∧
 (∃oa pa qa,
 zaa [] ma aO (Int.toNat i*14+13) [.slice oa pa qa] ∧
 (∀ra,ExtX [] ma ra→(∀bq∈([]:List Nat),bq<ra.heap.size) →
 Calls Tryz.prog zhg #[.slice oa pa qa,.int .i64 na] ra fun e2 sa =>
 (∃ta,
 e2 = .returned (.int .i64 ta)∧Kept [] ra sa ∧
 InR .i64 (i+1) ∧
 (∀ua,ExtX [] sa ua→(∀bq∈([]:List Nat),bq<ua.heap.size)→aa [.int .i64 ta,.int .i64 (i+1)] ua∧mu [.int .i64 ta,.int .i64 (i+1)] ua<mu [.int .i64 k1,.int .i64 i] wv)))))))))))) ∧
 ((decide (i<(aL:Int)))=false →
 (∀va,ExtX [] wv va→R (.int .i64 k1) va)))
theorem zt5 (aO aL aC k):EfV (ztu aO aL aC k) zhf #[.slice aO aL aC,.int .i64 k]:=eV [] false [(2,⟨[(1,.int .i64),(5,.int .i64)],[],[0],[],[]⟩)] Tryz.func50 (by kernel_rfl) (by kernel_rfl)
def zv7 (a0:Int) (ia:Option Addr) (ja ka:Nat) (la:Option Addr) (ma na:Nat) (oa:Option Addr) (pa qa:Nat) (k:Int) (w:World) (R:Value→World→Prop):Prop :=
 (∀b,w.heap.size≤b →
 (∀wr,ExtX [] w wr→(∀bq∈([b]:List Nat),bq<wr.heap.size) →
 Calls Tryz.prog zi8 #[.slice ia ja ka,.int .i64 k] wr fun e wv =>
 (∃aa,
 e = .returned (.int .i64 aa)∧Kept [b] wr wv ∧
 (∀ba,ExtX [b] wv ba→(∀bq∈([b]:List Nat),bq<ba.heap.size) →
 Calls Tryz.prog zid #[.slice la ma na,.int .i64 aa] ba fun e1 ca =>
 (∃da,
 e1 = .returned (.int .i64 da)∧Kept [b] ba ca ∧
 (∀ea,ExtX [b] ca ea→(∀bq∈([b]:List Nat),bq<ea.heap.size) →
 Calls Tryz.prog zhf #[.slice oa pa qa,.int .i64 da] ea fun e2 fa =>
 (∃ga,
 e2 = .returned (.int .i64 ga)∧Kept [b] ea fa ∧
 (∀ha,ExtX [b] fa ha→R (.int .i64 ga) ha))))))))
theorem zwk (a0 a1O a1L a1C a2O a2L a2C a3O a3L a3C k):EfV (zv7 a0 a1O a1L a1C a2O a2L a2C a3O a3L a3C k) zfg #[.agg #[.int .i64 a0,.slice a1O a1L a1C,.slice a2O a2L a2C,.slice a3O a3L a3C],.int .i64 k]:=eV [] false [] Tryz.func13 (by kernel_rfl) (by kernel_rfl)
def zx3 (aO:Option Addr) (aL aC:Nat) (k:Int) (w:World) (R:Value→World→Prop):Prop :=
 (∃(aa:List Value→Prop) (mu:List Value→Nat),aa [.int .i64 k,.int .i64 0] ∧
 ∀(k1 i:Int),aa [.int .i64 k1,.int .i64 i] →
 ((decide (i<(aL:Int)))=true →
 Ix aO aL i ∧
 (∃up,
 zaa [] w aO (Int.toNat i*5+0) [.bool up] ∧
 (3:Int)≠0 ∧
 ((!(up==((Int.tmod k1 3)==0)))=true →
 R (.int .i64 (-1)) w) ∧
 ((!(up==((Int.tmod k1 3)==0)))=false →
 InR .i64 (k1+1) ∧
 Ix aO aL i ∧
 (∃ba,
 zaa [] w aO (Int.toNat i*5+1) [.int .i64 ba] ∧
 ((ba != (k1+1))=true →
 R (.int .i64 (-1)) w) ∧
 ((ba != (k1+1))=false →
 InR .i64 ((k1+1)+1) ∧
 Ix aO aL i ∧
 (∃ca,
 zaa [] w aO (Int.toNat i*5+2) [.int .i64 ca] ∧
 ((ca != ((k1+1)+1))=true →
 R (.int .i64 (-1)) w) ∧
 ((ca != ((k1+1)+1))=false →
 InR .i64 (((k1+1)+1)+1) ∧
 Ix aO aL i ∧
 (∃da,
 zaa [] w aO (Int.toNat i*5+3) [.int .i64 da] ∧
 ((da != (((k1+1)+1)+1))=true →
 R (.int .i64 (-1)) w) ∧
 ((da != (((k1+1)+1)+1))=false →
 InR .i64 ((((k1+1)+1)+1)+1) ∧
 Ix aO aL i ∧
 (∃ea,
 zaa [] w aO (Int.toNat i*5+4) [.int .i64 ea] ∧
 ((ea != ((((k1+1)+1)+1)+1))=true →
 R (.int .i64 (-1)) w) ∧
 ((ea != ((((k1+1)+1)+1)+1))=false →
 InR .i64 (((((k1+1)+1)+1)+1)+1) ∧
 InR .i64 (i+1) ∧
 aa [.int .i64 (((((k1+1)+1)+1)+1)+1),.int .i64 (i+1)]∧mu [.int .i64 (((((k1+1)+1)+1)+1)+1),.int .i64 (i+1)]<mu [.int .i64 k1,.int .i64 i]))))))))))) ∧
 ((decide (i<(aL:Int)))=false →
 R (.int .i64 k1) w))
theorem z0m (aO aL aC k):PuV (zx3 aO aL aC k) zi6 #[.slice aO aL aC,.int .i64 k]:=pV [] false [(2,⟨[(1,.int .i64),(5,.int .i64)],[],[0],[],[]⟩)] Tryz.func51 (by kernel_rfl) (by kernel_rfl)
def zv3 (aO:Option Addr) (aL aC:Nat) (k:Int) (w:World) (R:Value→World→Prop):Prop :=
 (∃(aa:List Value→Prop) (mu:List Value→Nat),aa [.int .i64 k,.int .i64 0] ∧
 ∀(k1 i:Int),aa [.int .i64 k1,.int .i64 i] →
 ((decide (i<(aL:Int)))=true →
 Ix aO aL i ∧
 (∃ba,
 zaa [] w aO (Int.toNat i*9+0) [.int .i64 ba] ∧
 ((ba != k1)=true →
 R (.int .i64 (-1)) w) ∧
 ((ba != k1)=false →
 InR .i64 (k1+1) ∧
 Ix aO aL i ∧
 (∃ca,
 zaa [] w aO (Int.toNat i*9+1) [.int .i64 ca] ∧
 ((ca != (k1+1))=true →
 R (.int .i64 (-1)) w) ∧
 ((ca != (k1+1))=false →
 InR .i64 ((k1+1)+1) ∧
 Ix aO aL i ∧
 (∃da,
 zaa [] w aO (Int.toNat i*9+2) [.int .i64 da] ∧
 ((da != ((k1+1)+1))=true →
 R (.int .i64 (-1)) w) ∧
 ((da != ((k1+1)+1))=false →
 InR .i64 (((k1+1)+1)+1) ∧
 Ix aO aL i ∧
 (∃ea,
 zaa [] w aO (Int.toNat i*9+3) [.int .i64 ea] ∧
 ((ea != (((k1+1)+1)+1))=true →
 R (.int .i64 (-1)) w) ∧
 ((ea != (((k1+1)+1)+1))=false →
 InR .i64 ((((k1+1)+1)+1)+1) ∧
 Ix aO aL i ∧
 (∃fa,
 zaa [] w aO (Int.toNat i*9+4) [.int .i64 fa] ∧
 ((fa != ((((k1+1)+1)+1)+1))=true →
 R (.int .i64 (-1)) w) ∧
 ((fa != ((((k1+1)+1)+1)+1))=false →
 InR .i64 (((((k1+1)+1)+1)+1)+1) ∧
 Ix aO aL i ∧
 (∃v,
 zaa [] w aO (Int.toNat i*9+5) [.int .i64 v] ∧
 ((v != (((((k1+1)+1)+1)+1)+1))=true →
 R (.int .i64 (-1)) w) ∧
 ((v != (((((k1+1)+1)+1)+1)+1))=false →
 InR .i64 ((((((k1+1)+1)+1)+1)+1)+1) ∧
 Ix aO aL i ∧
 (∃ga,
 zaa [] w aO (Int.toNat i*9+6) [.int .i64 ga] ∧
 ((ga != ((((((k1+1)+1)+1)+1)+1)+1))=true →
 R (.int .i64 (-1)) w) ∧
 ((ga != ((((((k1+1)+1)+1)+1)+1)+1))=false →
 InR .i64 (((((((k1+1)+1)+1)+1)+1)+1)+1) ∧
 Ix aO aL i ∧
 (∃ha,
 zaa [] w aO (Int.toNat i*9+7) [.int .i64 ha] ∧
 ((ha != (((((((k1+1)+1)+1)+1)+1)+1)+1))=true →
 R (.int .i64 (-1)) w) ∧
 ((ha != (((((((k1+1)+1)+1)+1)+1)+1)+1))=false →
 InR .i64 ((((((((k1+1)+1)+1)+1)+1)+1)+1)+1) ∧
 Ix aO aL i ∧
 (∃ia,
 zaa [] w aO (Int.toNat i*9+8) [.int .i64 ia] ∧
 ((ia != ((((((((k1+1)+1)+1)+1)+1)+1)+1)+1))=true →
 R (.int .i64 (-1)) w) ∧
 ((ia != ((((((((k1+1)+1)+1)+1)+1)+1)+1)+1))=false →
 InR .i64 (((((((((k1+1)+1)+1)+1)+1)+1)+1)+1)+1) ∧
 InR .i64 (i+1) ∧
 aa [.int .i64 (((((((((k1+1)+1)+1)+1)+1)+1)+1)+1)+1),.int .i64 (i+1)]∧mu [.int .i64 (((((((((k1+1)+1)+1)+1)+1)+1)+1)+1)+1),.int .i64 (i+1)]<mu [.int .i64 k1,.int .i64 i]))))))))))))))))))) ∧
 ((decide (i<(aL:Int)))=false →
 R (.int .i64 k1) w))
theorem zw2 (aO aL aC k):PuV (zv3 aO aL aC k) zib #[.slice aO aL aC,.int .i64 k]:=pV [] false [(2,⟨[(1,.int .i64),(5,.int .i64)],[],[0],[],[]⟩)] Tryz.func52 (by kernel_rfl) (by kernel_rfl)
def zx4 (aO:Option Addr) (aL aC:Nat) (k:Int) (w:World) (R:Value→World→Prop):Prop :=
 (∃(aa:List Value→Prop) (mu:List Value→Nat),aa [.int .i64 k,.int .i64 0] ∧
 ∀(k1 i:Int),aa [.int .i64 k1,.int .i64 i] →
 ((decide (i<(aL:Int)))=true →
 Ix aO aL i ∧
 (∃x,
 zaa [] w aO (Int.toNat i*1) [.int .i64 x] ∧
 ((x != k1)=true →
 R (.int .i64 (-1)) w) ∧
 ((x != k1)=false →
 InR .i64 (k1+1) ∧
 InR .i64 (i+1) ∧
 aa [.int .i64 (k1+1),.int .i64 (i+1)]∧mu [.int .i64 (k1+1),.int .i64 (i+1)]<mu [.int .i64 k1,.int .i64 i]))) ∧
 ((decide (i<(aL:Int)))=false →
 R (.int .i64 k1) w))
theorem z0n (aO aL aC k):PuV (zx4 aO aL aC k) zi7 #[.slice aO aL aC,.int .i64 k]:=pV [] false [(2,⟨[(1,.int .i64),(5,.int .i64)],[],[0],[],[]⟩)] Tryz.func124 (by kernel_rfl) (by kernel_rfl)
def zv2 (aO:Option Addr) (aL aC:Nat) (k:Int) (w:World) (R:Value→World→Prop):Prop :=
 (∃(aa:List Value→Prop) (mu:List Value→Nat),aa [.int .i64 k,.int .i64 0] ∧
 ∀(k1 i:Int),aa [.int .i64 k1,.int .i64 i] →
 ((decide (i<(aL:Int)))=true →
 Ix aO aL i ∧
 (∃x,
 zaa [] w aO (Int.toNat i*1) [.bool x] ∧
 (3:Int)≠0 ∧
 ((!(x==((Int.tmod k1 3)==0)))=true →
 R (.int .i64 (-1)) w) ∧
 ((!(x==((Int.tmod k1 3)==0)))=false →
 InR .i64 (k1+1) ∧
 InR .i64 (i+1) ∧
 aa [.int .i64 (k1+1),.int .i64 (i+1)]∧mu [.int .i64 (k1+1),.int .i64 (i+1)]<mu [.int .i64 k1,.int .i64 i]))) ∧
 ((decide (i<(aL:Int)))=false →
 R (.int .i64 k1) w))
theorem zw1 (aO aL aC k):PuV (zv2 aO aL aC k) zia #[.slice aO aL aC,.int .i64 k]:=pV [] false [(2,⟨[(1,.int .i64),(5,.int .i64)],[],[0],[],[]⟩)] Tryz.func125 (by kernel_rfl) (by kernel_rfl)
def ztt (aO:Option Addr) (aL aC:Nat) (k:Int) (w:World) (R:Value→World→Prop):Prop :=
 (∃(aa:List Value→Prop) (mu:List Value→Nat),aa [.int .i64 k,.int .i64 0] ∧
 ∀(k1 i:Int),aa [.int .i64 k1,.int .i64 i] →
 ((decide (i<(aL:Int)))=true →
 Ix aO aL i ∧
 (∃ba,
 zaa [] w aO (Int.toNat i*5+0) [.int .i64 ba] ∧
 ((ba != k1)=true →
 R (.int .i64 (-1)) w) ∧
 ((ba != k1)=false →
 InR .i64 (k1+1) ∧
 Ix aO aL i ∧
 (∃ca,
 zaa [] w aO (Int.toNat i*5+1) [.bool ca] ∧
 (3:Int)≠0 ∧
 ((!(ca==((Int.tmod (k1+1) 3)==0)))=true →
 R (.int .i64 (-1)) w) ∧
 ((!(ca==((Int.tmod (k1+1) 3)==0)))=false →
 InR .i64 ((k1+1)+1) ∧
 Ix aO aL i ∧
 (∃v,
 zaa [] w aO (Int.toNat i*5+2) [.int .i64 v] ∧
 ((v != ((k1+1)+1))=true →
 R (.int .i64 (-1)) w) ∧
 ((v != ((k1+1)+1))=false →
 InR .i64 (((k1+1)+1)+1) ∧
 Ix aO aL i ∧
 (∃wv,
 zaa [] w aO (Int.toNat i*5+3) [.int .i64 wv] ∧
 ((wv != (((k1+1)+1)+1))=true →
 R (.int .i64 (-1)) w) ∧
 ((wv != (((k1+1)+1)+1))=false →
 InR .i64 ((((k1+1)+1)+1)+1) ∧
 Ix aO aL i ∧
 (∃da,
 zaa [] w aO (Int.toNat i*5+4) [.int .i64 da] ∧
 ((da != ((((k1+1)+1)+1)+1))=true →
 R (.int .i64 (-1)) w) ∧
 ((da != ((((k1+1)+1)+1)+1))=false →
 InR .i64 (((((k1+1)+1)+1)+1)+1) ∧
 InR .i64 (i+1) ∧
 aa [.int .i64 (((((k1+1)+1)+1)+1)+1),.int .i64 (i+1)]∧mu [.int .i64 (((((k1+1)+1)+1)+1)+1),.int .i64 (i+1)]<mu [.int .i64 k1,.int .i64 i]))))))))))) ∧
 ((decide (i<(aL:Int)))=false →
 R (.int .i64 k1) w))
theorem zut (aO aL aC k):PuV (ztt aO aL aC k) zhe #[.slice aO aL aC,.int .i64 k]:=pV [] false [(2,⟨[(1,.int .i64),(5,.int .i64)],[],[0],[],[]⟩)] Tryz.func126 (by kernel_rfl) (by kernel_rfl)
def zts (aO:Option Addr) (aL aC:Nat) (k:Int) (w:World) (R:Value→World→Prop):Prop :=
 (∃(aa:List Value→Prop) (mu:List Value→Nat),aa [.int .i64 k,.int .i64 0] ∧
 ∀(k1 i:Int),aa [.int .i64 k1,.int .i64 i] →
 ((decide (i<(aL:Int)))=true →
 Ix aO aL i ∧
 (∃ba,
 zaa [] w aO (Int.toNat i*14+0) [.bool ba] ∧
 (3:Int)≠0 ∧
 ((!(ba==((Int.tmod k1 3)==0)))=true →
 R (.int .i64 (-1)) w) ∧
 ((!(ba==((Int.tmod k1 3)==0)))=false →
 InR .i64 (k1+1) ∧
 Ix aO aL i ∧
 (∃ca,
 zaa [] w aO (Int.toNat i*14+1) [.int .i64 ca] ∧
 ((ca != (k1+1))=true →
 R (.int .i64 (-1)) w) ∧
 ((ca != (k1+1))=false →
 InR .i64 ((k1+1)+1) ∧
 Ix aO aL i ∧
 (∃(da:ByteArray),
 zaa [] w aO (Int.toNat i*14+2) [.string da] ∧
 (∃(ea:ByteArray),
 zab [] Tryz.prog zgf #[.int .i64 ((k1+1)+1)] w (.string ea) ∧
 ((!zcf da ea)=true →
 R (.int .i64 (-1)) w) ∧
 ((!zcf da ea)=false →
 InR .i64 (((k1+1)+1)+1) ∧
 Ix aO aL i ∧
 (∃fa,
 zaa [] w aO (Int.toNat i*14+3) [.int .i64 fa] ∧
 ((fa != (((k1+1)+1)+1))=true →
 R (.int .i64 (-1)) w) ∧
 ((fa != (((k1+1)+1)+1))=false →
 InR .i64 ((((k1+1)+1)+1)+1) ∧
 Ix aO aL i ∧
 (∃ga,
 zaa [] w aO (Int.toNat i*14+4) [.int .i64 ga] ∧
 ((ga != ((((k1+1)+1)+1)+1))=true →
 R (.int .i64 (-1)) w) ∧
 ((ga != ((((k1+1)+1)+1)+1))=false →
 InR .i64 (((((k1+1)+1)+1)+1)+1) ∧
 Ix aO aL i ∧
 (∃ha,
 zaa [] w aO (Int.toNat i*14+5) [.int .i64 ha] ∧
 ((ha != (((((k1+1)+1)+1)+1)+1))=true →
 R (.int .i64 (-1)) w) ∧
 ((ha != (((((k1+1)+1)+1)+1)+1))=false →
 InR .i64 ((((((k1+1)+1)+1)+1)+1)+1) ∧
 Ix aO aL i ∧
 (∃ia,
 zaa [] w aO (Int.toNat i*14+6) [.int .i64 ia] ∧
 ((ia != ((((((k1+1)+1)+1)+1)+1)+1))=true →
 R (.int .i64 (-1)) w) ∧
 ((ia != ((((((k1+1)+1)+1)+1)+1)+1))=false →
 InR .i64 (((((((k1+1)+1)+1)+1)+1)+1)+1) ∧
 Ix aO aL i ∧
 (∃ja,
 zaa [] w aO (Int.toNat i*14+7) [.int .i64 ja] ∧
 ((ja != (((((((k1+1)+1)+1)+1)+1)+1)+1))=true →
 R (.int .i64 (-1)) w) ∧
 ((ja != (((((((k1+1)+1)+1)+1)+1)+1)+1))=false →
 InR .i64 ((((((((k1+1)+1)+1)+1)+1)+1)+1)+1) ∧
 Ix aO aL i ∧
 (∃ka,
 zaa [] w aO (Int.toNat i*14+8+0) [.int .i64 ka] ∧
 ((ka != ((((((((k1+1)+1)+1)+1)+1)+1)+1)+1))=true →
 R (.int .i64 (-1)) w) ∧
 ((ka != ((((((((k1+1)+1)+1)+1)+1)+1)+1)+1))=false →
 InR .i64 (((((((((k1+1)+1)+1)+1)+1)+1)+1)+1)+1) ∧
 Ix aO aL i ∧
 (∃la,
 zaa [] w aO (Int.toNat i*14+8+1) [.int .i64 la] ∧
 ((la != (((((((((k1+1)+1)+1)+1)+1)+1)+1)+1)+1))=true →
 R (.int .i64 (-1)) w) ∧
 ((la != (((((((((k1+1)+1)+1)+1)+1)+1)+1)+1)+1))=false →
 InR .i64 ((((((((((k1+1)+1)+1)+1)+1)+1)+1)+1)+1)+1) ∧
 Ix aO aL i ∧
 (∃ma,
 zaa [] w aO (Int.toNat i*14+8+2) [.int .i64 ma] ∧
 ((ma != ((((((((((k1+1)+1)+1)+1)+1)+1)+1)+1)+1)+1))=true →
 R (.int .i64 (-1)) w) ∧
 ((ma != ((((((((((k1+1)+1)+1)+1)+1)+1)+1)+1)+1)+1))=false →
 InR .i64 (((((((((((k1+1)+1)+1)+1)+1)+1)+1)+1)+1)+1)+1) ∧
 Ix aO aL i ∧
 (∃na oa pa,
 zaa [] w aO (Int.toNat i*14+8+3) [.slice na oa pa] ∧
 (∃qa,
 zab [] Tryz.prog zi7 #[.slice na oa pa,.int .i64 (((((((((((k1+1)+1)+1)+1)+1)+1)+1)+1)+1)+1)+1)] w (.int .i64 qa) ∧
 ((decide (qa<0))=true →
 R (.int .i64 (-1)) w) ∧
 ((decide (qa<0))=false →
 Ix aO aL i ∧
 (∃ra sa ta,
 zaa [] w aO (Int.toNat i*14+8+4) [.slice ra sa ta] ∧
 (∃ua,
 zab [] Tryz.prog zia #[.slice ra sa ta,.int .i64 qa] w (.int .i64 ua) ∧
 ((decide (ua<0))=true →
 R (.int .i64 (-1)) w) ∧
 ((decide (ua<0))=false →
 Ix aO aL i ∧
 (∃va wa xa,
 zaa [] w aO (Int.toNat i*14+13) [.slice va wa xa] ∧
 (∃ya,
 zab [] Tryz.prog zhe #[.slice va wa xa,.int .i64 ua] w (.int .i64 ya) ∧
 ((decide (ya<0))=true →
 R (.int .i64 (-1)) w) ∧
 ((decide (ya<0))=false →
 InR .i64 (i+1) ∧
 aa [.int .i64 ya,.int .i64 (i+1)]∧mu [.int .i64 ya,.int .i64 (i+1)]<mu [.int .i64 k1,.int .i64 i]))))))))))))))))))))))))))))))))) ∧
 ((decide (i<(aL:Int)))=false →
 R (.int .i64 k1) w))
theorem zus (aO aL aC k):PuV (zts aO aL aC k) zhd #[.slice aO aL aC,.int .i64 k]:=pV [] false [(2,⟨[(1,.int .i64),(5,.int .i64)],[],[0],[],[]⟩)] Tryz.func53 (by kernel_rfl) (by kernel_rfl)
def zv4 (a0:Int) (da:Option Addr) (ea fa:Nat) (ga:Option Addr) (ha ia:Nat) (ja:Option Addr) (ka la:Nat) (k:Int) (w:World) (R:Value→World→Prop):Prop :=
 (∀b,w.heap.size≤b →
 (∃aa,
 zab [] Tryz.prog zi6 #[.slice da ea fa,.int .i64 k] w (.int .i64 aa) ∧
 ((decide (aa<0))=true →
 R (.int .i64 (-1)) w) ∧
 ((decide (aa<0))=false →
 (∃ba,
 zab [] Tryz.prog zib #[.slice ga ha ia,.int .i64 aa] w (.int .i64 ba) ∧
 ((decide (ba<0))=true →
 R (.int .i64 (-1)) w) ∧
 ((decide (ba<0))=false →
 (∃ca,
 zab [] Tryz.prog zhd #[.slice ja ka la,.int .i64 ba] w (.int .i64 ca) ∧
 ((decide (ca<0))=true →
 R (.int .i64 (-1)) w) ∧
 ((decide (ca<0))=false →
 R (.int .i64 ca) w)))))))
theorem zw3 (a0 a1O a1L a1C a2O a2L a2C a3O a3L a3C k):PuV (zv4 a0 a1O a1L a1C a2O a2L a2C a3O a3L a3C k) zff #[.agg #[.int .i64 a0,.slice a1O a1L a1C,.slice a2O a2L a2C,.slice a3O a3L a3C],.int .i64 k]:=pV [] false [] Tryz.func14 (by kernel_rfl) (by kernel_rfl)
def zv8 (lO:Option Addr) (lL lC:Nat) (g h:Int) (w:World) (R:Value→World→Prop):Prop :=
 (∃aa,
 zab [] Tryz.prog zis #[.slice lO lL lC] w (.bool aa) ∧
 (∃ba,
 ((!aa)=false→zab [] Tryz.prog zeu #[.slice lO lL lC,.int .i64 g] w (.bool ba)) ∧
 (∃ca,
 (((!aa)||(!ba))=false→zab [] Tryz.prog zeu #[.slice lO lL lC,.int .i64 h] w (.bool ca)) ∧
 ((((!aa)||(!ba))||(!ca))=true →
 R (.bool false) w) ∧
 ((((!aa)||(!ba))||(!ca))=false →
 (∃(da:List Value→Prop) (mu:List Value→Nat),da [.int .i64 h] ∧
 ∀(h1:Int),da [.int .i64 h1] →
 ((h1 != g)=true →
 ((h1==0)=true →
 R (.bool false) w) ∧
 ((h1==0)=false →
 Ix lO lL h1 ∧
 (∃ea,
 zaa [] w lO (Int.toNat h1*14+1) [.int .i64 ea] ∧
 da [.int .i64 ea]∧mu [.int .i64 ea]<mu [.int .i64 h1]))) ∧
 ((h1 != g)=false →
 R (.bool true) w))))))
theorem zw4 (lO lL lC g h):PuV (zv8 lO lL lC g h) zd2 #[.slice lO lL lC,.int .i64 g,.int .i64 h]:=pV [] false [(3,⟨[(2,.int .i64)],[],[0,1],[],[]⟩)] Tryz.func142 (by kernel_rfl) (by kernel_rfl)
def zwa (w0:Int) (wb:Option Addr) (xb yb:Nat) (zb:Option Addr) (ac bc:Nat) (cc:Option Addr) (dc ec:Nat) (g c fc:Int) (w:World) (R:Value→World→Prop):Prop :=
 (∀b,w.heap.size≤b →
 (∀b1,w.heap.size≤b1 →
 Ix cc dc g ∧
 (∃aa ba ca,
 zaa [] w cc (Int.toNat g*14+13) [.slice aa ba ca] ∧
 Ix aa ba c ∧
 (∃x0 x1 x2 x3 x4,
 zaa [] w aa (Int.toNat c*5) [.int .i64 x0,.bool x1,.int .i64 x2,.int .i64 x3,.int .i64 x4] ∧
 (∀b2,w.heap.size≤b2 →
 ((x3==fc)=true →
 (∀wr,ExtX [] w wr→R (.agg #[.int .i64 w0,.slice wb xb yb,.slice zb ac bc,.slice cc dc ec]) wr)) ∧
 ((x3==fc)=false →
 (x1=true →
 Ix cc dc g ∧
 (∃da,
 zaa [] w cc (Int.toNat g*14+1) [.int .i64 da] ∧
 Ix cc dc da ∧
 (∃ea fa ga,
 zaa [] w cc (Int.toNat da*14+13) [.slice ea fa ga] ∧
 Ix ea fa c ∧
 (∃ha,
 zaa [] w ea (Int.toNat c*5+0) [.int .i64 ha] ∧
 InR .i64 (x2 - ha) ∧
 (∃ia,
 zab [] Tryz.prog zf7 #[.int .i64 (x2 - ha),.int .i64 fc] w (.int .i64 ia) ∧
 InR .i64 (ha+ia) ∧
 Ix cc dc g ∧
 (∃ja ka la,
 zaa [] w cc (Int.toNat g*14+13) [.slice ja ka la] ∧
 Ix ja ka c ∧
 WrX [] w ja (Int.toNat c*5) 5 ∧
 Ix wb xb c ∧
 (∃ma,
 zaa [] (sto w ja (Int.toNat c*5) [.int .i64 x0,.bool x1,.int .i64 (ha+ia),.int .i64 fc,.int .i64 x4]) wb (Int.toNat c*5+1) [.int .i64 ma] ∧
 ((decide (ma≥0))=true→Ix zb ac ma) ∧
 (∃na,
 ((decide (ma≥0))=true→zaa [] (sto w ja (Int.toNat c*5) [.int .i64 x0,.bool x1,.int .i64 (ha+ia),.int .i64 fc,.int .i64 x4]) zb (Int.toNat ma*9+1) [.int .i64 na]) ∧
 (∃oa,
 ((decide (ma≥0))=true→zab [] Tryz.prog zd2 #[.slice cc dc ec,.int .i64 g,.int .i64 na] (sto w ja (Int.toNat c*5) [.int .i64 x0,.bool x1,.int .i64 (ha+ia),.int .i64 fc,.int .i64 x4]) (.bool oa)) ∧
 (((decide (ma≥0))&&oa)=true →
 (∀pa,ExtX [] (sto w ja (Int.toNat c*5) [.int .i64 x0,.bool x1,.int .i64 (ha+ia),.int .i64 fc,.int .i64 x4]) pa→(∀bq∈([b,b1,b2]:List Nat),bq<pa.heap.size) →
 Calls Tryz.prog zfi #[.agg #[.int .i64 w0,.slice wb xb yb,.slice zb ac bc,.slice cc dc ec],.int .i64 c] pa fun e wv =>
 (∃qa ra sa ta ua va wa xa ya za,
 e = .returned (.agg #[.int .i64 qa,.slice ra sa ta,.slice ua va wa,.slice xa ya za])∧Kept [b,b1,b2] pa wv ∧
 (∀ab,ExtX [b,b1,b2] wv ab→R (.agg #[.int .i64 qa,.slice ra sa ta,.slice ua va wa,.slice xa ya za]) ab)))) ∧
 (((decide (ma≥0))&&oa)=false →
 (∀bb,ExtX [] (sto w ja (Int.toNat c*5) [.int .i64 x0,.bool x1,.int .i64 (ha+ia),.int .i64 fc,.int .i64 x4]) bb→R (.agg #[.int .i64 w0,.slice wb xb yb,.slice zb ac bc,.slice cc dc ec]) bb))))))))))) ∧
 (x1=false →
 Ix cc dc g ∧
 (∃cb db eb,
 zaa [] w cc (Int.toNat g*14+13) [.slice cb db eb] ∧
 Ix cb db c ∧
 WrX [] w cb (Int.toNat c*5) 5 ∧
 Ix wb xb c ∧
 (∃fb,
 zaa [] (sto w cb (Int.toNat c*5) [.int .i64 x0,.bool x1,.int .i64 x2,.int .i64 fc,.int .i64 x4]) wb (Int.toNat c*5+1) [.int .i64 fb] ∧
 ((decide (fb≥0))=true→Ix zb ac fb) ∧
 (∃gb,
 ((decide (fb≥0))=true→zaa [] (sto w cb (Int.toNat c*5) [.int .i64 x0,.bool x1,.int .i64 x2,.int .i64 fc,.int .i64 x4]) zb (Int.toNat fb*9+1) [.int .i64 gb]) ∧
 (∃hb,
 ((decide (fb≥0))=true→zab [] Tryz.prog zd2 #[.slice cc dc ec,.int .i64 g,.int .i64 gb] (sto w cb (Int.toNat c*5) [.int .i64 x0,.bool x1,.int .i64 x2,.int .i64 fc,.int .i64 x4]) (.bool hb)) ∧
 (((decide (fb≥0))&&hb)=true →
 (∀ib,ExtX [] (sto w cb (Int.toNat c*5) [.int .i64 x0,.bool x1,.int .i64 x2,.int .i64 fc,.int .i64 x4]) ib→(∀bq∈([b,b1,b2]:List Nat),bq<ib.heap.size) →
 Calls Tryz.prog zfi #[.agg #[.int .i64 w0,.slice wb xb yb,.slice zb ac bc,.slice cc dc ec],.int .i64 c] ib fun e1 jb =>
 (∃kb lb mb nb ob pb qb rb sb tb,
 e1 = .returned (.agg #[.int .i64 kb,.slice lb mb nb,.slice ob pb qb,.slice rb sb tb])∧Kept [b,b1,b2] ib jb ∧
 (∀ub,ExtX [b,b1,b2] jb ub→R (.agg #[.int .i64 kb,.slice lb mb nb,.slice ob pb qb,.slice rb sb tb]) ub)))) ∧
 (((decide (fb≥0))&&hb)=false →
 (∀vb,ExtX [] (sto w cb (Int.toNat c*5) [.int .i64 x0,.bool x1,.int .i64 x2,.int .i64 fc,.int .i64 x4]) vb→R (.agg #[.int .i64 w0,.slice wb xb yb,.slice zb ac bc,.slice cc dc ec]) vb)))))))))))))
theorem zwl (w0 w1O w1L w1C w2O w2L w2C w3O w3L w3C g c weight):EfV (zwa w0 w1O w1L w1C w2O w2L w2C w3O w3L w3C g c weight) zif #[.agg #[.int .i64 w0,.slice w1O w1L w1C,.slice w2O w2L w2C,.slice w3O w3L w3C],.int .i64 g,.int .i64 c,.int .i64 weight]:=eV [] false [] Tryz.func68 (by kernel_rfl) (by kernel_rfl)
def zwb (w0:Int) (da:Option Addr) (ea fa:Nat) (ga:Option Addr) (ha ia:Nat) (ja:Option Addr) (ka la:Nat) (g c:Int) (w:World) (R:Value→World→Prop):Prop :=
 (∀b,w.heap.size≤b →
 (∃(aa:List Value→Prop) (mu:List Value→Nat),aa [.int .i64 0,.int .i64 0] ∧
 ∀(n t:Int),aa [.int .i64 n,.int .i64 t] →
 ((decide (t<(ha:Int)))=true →
 Ix ga ha t ∧
 (∃x0 x1 x2 x3 x4 x5 x6 x7 x8,
 zaa [] w ga (Int.toNat t*9) [.int .i64 x0,.int .i64 x1,.int .i64 x2,.int .i64 x3,.int .i64 x4,.int .i64 x5,.int .i64 x6,.int .i64 x7,.int .i64 x8] ∧
 (∀b1,w.heap.size≤b1 →
 (∃ba,
 (((x0==1)&&(x2==c))=true→zab [] Tryz.prog zd2 #[.slice ja ka la,.int .i64 g,.int .i64 x1] w (.bool ba)) ∧
 ((((x0==1)&&(x2==c))&&ba)=true →
 (∃ca,
 zab [] Tryz.prog zbr #[.int .i64 x3] w (.int .i64 ca) ∧
 InR .i64 (n+ca) ∧
 InR .i64 (t+1) ∧
 aa [.int .i64 (n+ca),.int .i64 (t+1)]∧mu [.int .i64 (n+ca),.int .i64 (t+1)]<mu [.int .i64 n,.int .i64 t])) ∧
 ((((x0==1)&&(x2==c))&&ba)=false →
 InR .i64 (t+1) ∧
 aa [.int .i64 n,.int .i64 (t+1)]∧mu [.int .i64 n,.int .i64 (t+1)]<mu [.int .i64 n,.int .i64 t]))))) ∧
 ((decide (t<(ha:Int)))=false →
 R (.int .i64 n) w)))
theorem zw6 (w0 w1O w1L w1C w2O w2L w2C w3O w3L w3C g c):PuV (zwb w0 w1O w1L w1C w2O w2L w2C w3O w3L w3C g c) zfh #[.agg #[.int .i64 w0,.slice w1O w1L w1C,.slice w2O w2L w2C,.slice w3O w3L w3C],.int .i64 g,.int .i64 c]:=pV [] false [(3,⟨[(7,.int .i64),(8,.int .i64)],[],[1,2,3],[],[]⟩)] Tryz.func143 (by kernel_rfl) (by kernel_rfl)
def zyf (w0:Int) (ha:Option Addr) (ia ja:Nat) (ka:Option Addr) (la ma:Nat) (na:Option Addr) (oa pa:Nat) (g c:Int) (w:World) (R:Value→World→Prop):Prop :=
 (∀b,w.heap.size≤b →
 (∃(aa:List Value→Prop) (mu:List Value→Nat),aa [.int .i64 0,.int .i64 0] ∧
 ∀(ba b1:Int),aa [.int .i64 ba,.int .i64 b1] →
 ((decide (b1<(ia:Int)))=true →
 (∃ca,
 zab [] Tryz.prog zfh #[.agg #[.int .i64 w0,.slice ha ia ja,.slice ka la ma,.slice na oa pa],.int .i64 g,.int .i64 b1] w (.int .i64 ca) ∧
 InR .i64 (ba+ca) ∧
 InR .i64 (b1+1) ∧
 aa [.int .i64 (ba+ca),.int .i64 (b1+1)]∧mu [.int .i64 (ba+ca),.int .i64 (b1+1)]<mu [.int .i64 ba,.int .i64 b1])) ∧
 ((decide (b1<(ia:Int)))=false →
 ((ba==0)=true →
 Ix na oa g ∧
 (∃da,
 zaa [] w na (Int.toNat g*14+3) [.int .i64 da] ∧
 R (.int .i64 da) w)) ∧
 ((ba==0)=false →
 Ix na oa g ∧
 (∃ea,
 zaa [] w na (Int.toNat g*14+3) [.int .i64 ea] ∧
 (∃fa,
 zab [] Tryz.prog zfh #[.agg #[.int .i64 w0,.slice ha ia ja,.slice ka la ma,.slice na oa pa],.int .i64 g,.int .i64 c] w (.int .i64 fa) ∧
 InR .i64 (ea*fa) ∧
 (ba≠0∧InR .i64 (Int.tdiv (ea*fa) ba)) ∧
 (∃ga,
 zab [] Tryz.prog zhm #[.int .i64 1,.int .i64 (Int.tdiv (ea*fa) ba)] w (.int .i64 ga) ∧
 R (.int .i64 ga) w)))))))
theorem z0r (w0 w1O w1L w1C w2O w2L w2C w3O w3L w3C g c):PuV (zyf w0 w1O w1L w1C w2O w2L w2C w3O w3L w3C g c) zjf #[.agg #[.int .i64 w0,.slice w1O w1L w1C,.slice w2O w2L w2C,.slice w3O w3L w3C],.int .i64 g,.int .i64 c]:=pV [] false [(3,⟨[(7,.int .i64),(8,.int .i64)],[],[1,2,3],[],[]⟩)] Tryz.func69 (by kernel_rfl) (by kernel_rfl)
def zqy (ca:Int) (w:World) (R:Value→World→Prop):Prop :=
 (∃aa,
 zab [] Tryz.prog zal #[.int .i64 ca,.int .i64 1,.int .i64 4] w (.bool aa) ∧
 ((!aa)=true →
 R (.int .i64 0) w) ∧
 ((!aa)=false →
 (∃(ba:List Value→Prop) (mu:List Value→Nat),ba [.int .i64 0] ∧
 ∀(n:Int),ba [.int .i64 n] →
 InR .u64 n ∧
 (0≤n∧InR .i64 (1*2 ^ (min (Int.toNat n) 64))) ∧
 ((decide (1*2 ^ (min (Int.toNat n) 64)<ca))=true →
 InR .i64 (n+1) ∧
 ba [.int .i64 (n+1)]∧mu [.int .i64 (n+1)]<mu [.int .i64 n]) ∧
 ((decide (1*2 ^ (min (Int.toNat n) 64)<ca))=false →
 R (.int .i64 n) w))))
theorem zri (cpus):PuV (zqy cpus) zdx #[.int .i64 cpus]:=pV [] false [(4,⟨[(3,.int .i64)],[],[0],[],[]⟩)] Tryz.func145 (by kernel_rfl) (by kernel_rfl)
def zyq (w0:Int) (na:Option Addr) (oa pa:Nat) (qa:Option Addr) (ra sa:Nat) (ta:Option Addr) (ua va:Nat) (t:Int) (w:World) (R:Value→World→Prop):Prop :=
 (∀b,w.heap.size≤b →
 Ix qa ra t ∧
 (∃aa,
 zaa [] w qa (Int.toNat t*9+1) [.int .i64 aa] ∧
 (∀b1 wb,ExtX [] w wb→w.heap.size≤b1→wb.heap[b1]? = some (Obj.cells ([.int .i64 aa]:List Value).toArray ty_int (0,0))→b1∉([b]:List Nat) →
 (∃(ba:List Value→World→Prop) (mu:List Value→World→Nat),(∀wr,ExtX [b] wb wr→(∀bq∈([b]:List Nat),bq<wr.heap.size)→ba [.int .i64 aa,.slice (some (Addr.mk b1 0 none)) 1 1] wr) ∧
 ∀(g:Int) (ca:Option Addr) (da ea:Nat) wv,(∀bq∈([b]:List Nat),bq<wv.heap.size)→ba [.int .i64 g,.slice ca da ea] wv →
 ((g != 0)=true →
 Ix ta ua g ∧
 (∃fa,
 zaa [b] wv ta (Int.toNat g*14+1) [.int .i64 fa] ∧
 (∀b2,wv.heap.size≤b2 →
 (∀ga,ExtX [b] wv ga→(∀bq∈([b,b2]:List Nat),bq<ga.heap.size)→ga.heap[b2]? = some (Obj.cells ([.int .i64 fa]:List Value).toArray ty_int (0,0)) →
 (∃ha ia ja,
 ∃ka,(builtin .append #[zax,zax] zax #[false,false] #[.slice ca da ea,.slice (some (Addr.mk b2 0 none)) 1 1]).run Tryz.prog ga = .ok (.value (.slice ha ia ja)) ka∧Kept [b,b2] ga ka ∧
 (∀la,ExtX [b,b2] ka la→(∀bq∈([b,b2]:List Nat),bq<la.heap.size)→ba [.int .i64 fa,.slice ha ia ja] la∧mu [.int .i64 fa,.slice ha ia ja] la<mu [.int .i64 g,.slice ca da ea] wv)))))) ∧
 ((g != 0)=false →
 (∀ma,ExtX [b] wv ma→R (.slice ca da ea) ma))))))
theorem zze (w0 w1O w1L w1C w2O w2L w2C w3O w3L w3C t):EfV (zyq w0 w1O w1L w1C w2O w2L w2C w3O w3L w3C t) zjj #[.agg #[.int .i64 w0,.slice w1O w1L w1C,.slice w2O w2L w2C,.slice w3O w3L w3C],.int .i64 t]:=eV [14] false [(3,⟨[(5,.int .i64),(6,.slice)],[],[2],[],[]⟩)] Tryz.func91 (by kernel_rfl) (by kernel_rfl)
def zye (w0:Int) (pa:Option Addr) (qa ra:Nat) (sa:Option Addr) (ta ua:Nat) (va:Option Addr) (wa xa:Nat) (t c:Int) (w:World) (R:Value→World→Prop):Prop :=
 (∀b,w.heap.size≤b →
 Ix sa ta t ∧
 (∃x0 x1 x2 x3 x4 x5 x6 x7 x8,
 zaa [] w sa (Int.toNat t*9) [.int .i64 x0,.int .i64 x1,.int .i64 x2,.int .i64 x3,.int .i64 x4,.int .i64 x5,.int .i64 x6,.int .i64 x7,.int .i64 x8] ∧
 (∀b1,w.heap.size≤b1 →
 (((x0 != 1)||(x2==c))=false→Ix pa qa x2) ∧
 (∃aa,
 (((x0 != 1)||(x2==c))=false→zaa [] w pa (Int.toNat x2*5+1) [.int .i64 aa]) ∧
 (∃ba,
 ((((x0 != 1)||(x2==c))||(aa==t))=false→zab [] Tryz.prog zcd #[.agg #[.int .i64 w0,.slice pa qa ra,.slice sa ta ua,.slice va wa xa],.int .i64 t] w (.bool ba)) ∧
 (∃ca,
 (((((x0 != 1)||(x2==c))||(aa==t))||(!ba))=false→zab [] Tryz.prog zhr #[.agg #[.int .i64 w0,.slice pa qa ra,.slice sa ta ua,.slice va wa xa],.int .i64 x1,.int .i64 x4] w (.int .i64 ca)) ∧
 (∃da,
 (((((x0 != 1)||(x2==c))||(aa==t))||(!ba))=false→zab [] Tryz.prog zc2 #[.int .i64 ca,.int .i64 c] w (.bool da)) ∧
 ((((((x0 != 1)||(x2==c))||(aa==t))||(!ba))||(!da))=true →
 (∀wr,ExtX [] w wr→R (.bool false) wr)) ∧
 ((((((x0 != 1)||(x2==c))||(aa==t))||(!ba))||(!da))=false →
 (∀ea,ExtX [] w ea→(∀bq∈([b,b1]:List Nat),bq<ea.heap.size) →
 Calls Tryz.prog zjj #[.agg #[.int .i64 w0,.slice pa qa ra,.slice sa ta ua,.slice va wa xa],.int .i64 t] ea fun e wv =>
 (∃fa ga ha,
 e = .returned (.slice fa ga ha)∧Kept [b,b1] ea wv ∧
 (∃(ia:List Value→World→Prop) (mu:List Value→World→Nat),(∀ja,ExtX [b,b1] wv ja→(∀bq∈([b,b1]:List Nat),bq<ja.heap.size)→ia [.int .i64 0] ja) ∧
 ∀(i:Int) ka,(∀bq∈([b,b1]:List Nat),bq<ka.heap.size)→ia [.int .i64 i] ka →
 ((decide (i<(ga:Int)))=true →
 Ix fa ga i ∧
 (∃x,
 zaa [b,b1] ka fa (Int.toNat i*1) [.int .i64 x] ∧
 (∃la,
 zab [b,b1] Tryz.prog zho #[.agg #[.int .i64 w0,.slice pa qa ra,.slice sa ta ua,.slice va wa xa],.int .i64 x,.int .i64 c] ka (.bool la) ∧
 (la=true →
 (∀ma,ExtX [b,b1] ka ma→R (.bool false) ma)) ∧
 (la=false →
 InR .i64 (i+1) ∧
 (∀na,ExtX [b,b1] ka na→(∀bq∈([b,b1]:List Nat),bq<na.heap.size)→ia [.int .i64 (i+1)] na∧mu [.int .i64 (i+1)] na<mu [.int .i64 i] ka))))) ∧
 ((decide (i<(ga:Int)))=false →
 (∀oa,ExtX [b,b1] ka oa→R (.bool true) oa)))))))))))))
theorem zzb (w0 w1O w1L w1C w2O w2L w2C w3O w3L w3C t c):EfV (zye w0 w1O w1L w1C w2O w2L w2C w3O w3L w3C t c) zgg #[.agg #[.int .i64 w0,.slice w1O w1L w1C,.slice w2O w2L w2C,.slice w3O w3L w3C],.int .i64 t,.int .i64 c]:=eV [] false [(6,⟨[(9,.int .i64)],[],[2,3,8],[],[]⟩)] Tryz.func148 (by kernel_rfl) (by kernel_rfl)
def z10 (w0:Int) (ga:Option Addr) (ha ia:Nat) (ja:Option Addr) (ka la:Nat) (ma:Option Addr) (na oa:Nat) (c:Int) (w:World) (R:Value→World→Prop):Prop :=
 (∀b,w.heap.size≤b →
 (∃(aa:List Value→Prop) (mu:List Value→Nat),aa [.int .i64 0,.int .i64 0] ∧
 ∀(n t:Int),aa [.int .i64 n,.int .i64 t] →
 ((decide (t<(ka:Int)))=true →
 Ix ja ka t ∧
 (∃ba,
 zaa [] w ja (Int.toNat t*9+0) [.int .i64 ba] ∧
 ((ba==1)=true→Ix ja ka t) ∧
 (∃ca,
 ((ba==1)=true→zaa [] w ja (Int.toNat t*9+2) [.int .i64 ca]) ∧
 (∃da,
 (((ba==1)&&(ca==c))=true→zab [] Tryz.prog zcd #[.agg #[.int .i64 w0,.slice ga ha ia,.slice ja ka la,.slice ma na oa],.int .i64 t] w (.bool da)) ∧
 ((((ba==1)&&(ca==c))&&da)=true →
 Ix ja ka t ∧
 (∃ea,
 zaa [] w ja (Int.toNat t*9+3) [.int .i64 ea] ∧
 (∃fa,
 zab [] Tryz.prog zbr #[.int .i64 ea] w (.int .i64 fa) ∧
 InR .i64 (n+fa) ∧
 InR .i64 (t+1) ∧
 aa [.int .i64 (n+fa),.int .i64 (t+1)]∧mu [.int .i64 (n+fa),.int .i64 (t+1)]<mu [.int .i64 n,.int .i64 t]))) ∧
 ((((ba==1)&&(ca==c))&&da)=false →
 InR .i64 (t+1) ∧
 aa [.int .i64 n,.int .i64 (t+1)]∧mu [.int .i64 n,.int .i64 (t+1)]<mu [.int .i64 n,.int .i64 t]))))) ∧
 ((decide (t<(ka:Int)))=false →
 R (.int .i64 n) w)))
theorem z3h (w0 w1O w1L w1C w2O w2L w2C w3O w3L w3C c):PuV (z10 w0 w1O w1L w1C w2O w2L w2C w3O w3L w3C c) zd3 #[.agg #[.int .i64 w0,.slice w1O w1L w1C,.slice w2O w2L w2C,.slice w3O w3L w3C],.int .i64 c]:=pV [] false [(3,⟨[(5,.int .i64),(6,.int .i64)],[],[1,2],[],[]⟩)] Tryz.func208 (by kernel_rfl) (by kernel_rfl)
def zty (w0:Int) (ka:Option Addr) (la ma:Nat) (na:Option Addr) (oa pa:Nat) (qa:Option Addr) (ra sa:Nat) (m c:Int) (w:World) (R:Value→World→Prop):Prop :=
 (∀b,w.heap.size≤b →
 (∃(aa:List Value→Prop) (mu:List Value→Nat),aa [.int .i64 (-1),.int .i64 0] ∧
 ∀(ba b1:Int),aa [.int .i64 ba,.int .i64 b1] →
 ((decide (b1<(la:Int)))=true →
 (∃ca,
 ((b1==c)=false→zab [] Tryz.prog zc2 #[.int .i64 m,.int .i64 b1] w (.bool ca)) ∧
 (∃da,
 ((decide (ba≥0))=true→(((b1==c)||(!ca))=false→zab [] Tryz.prog zd3 #[.agg #[.int .i64 w0,.slice ka la ma,.slice na oa pa,.slice qa ra sa],.int .i64 b1] w (.int .i64 da))) ∧
 (∃ea,
 ((decide (ba≥0))=true→(((b1==c)||(!ca))=false→zab [] Tryz.prog zd3 #[.agg #[.int .i64 w0,.slice ka la ma,.slice na oa pa,.slice qa ra sa],.int .i64 ba] w (.int .i64 ea))) ∧
 ((((b1==c)||(!ca))||((decide (ba≥0))&&(decide (da≤ea))))=true →
 InR .i64 (b1+1) ∧
 aa [.int .i64 ba,.int .i64 (b1+1)]∧mu [.int .i64 ba,.int .i64 (b1+1)]<mu [.int .i64 ba,.int .i64 b1]) ∧
 ((((b1==c)||(!ca))||((decide (ba≥0))&&(decide (da≤ea))))=false →
 (∃(fa:List Value→Prop) (ga:List Value→Nat),fa [.int .i64 ba,.int .i64 0] ∧
 ∀(ha t:Int),fa [.int .i64 ha,.int .i64 t] →
 ((decide (t<(oa:Int)))=true →
 Ix na oa t ∧
 (∃ia,
 zaa [] w na (Int.toNat t*9+2) [.int .i64 ia] ∧
 (∃ja,
 ((ia==b1)=true→zab [] Tryz.prog zgg #[.agg #[.int .i64 w0,.slice ka la ma,.slice na oa pa,.slice qa ra sa],.int .i64 t,.int .i64 c] w (.bool ja)) ∧
 (((ia==b1)&&ja)=true →
 InR .i64 (t+1) ∧
 fa [.int .i64 b1,.int .i64 (t+1)]∧ga [.int .i64 b1,.int .i64 (t+1)]<ga [.int .i64 ha,.int .i64 t]) ∧
 (((ia==b1)&&ja)=false →
 InR .i64 (t+1) ∧
 fa [.int .i64 ha,.int .i64 (t+1)]∧ga [.int .i64 ha,.int .i64 (t+1)]<ga [.int .i64 ha,.int .i64 t])))) ∧
 ((decide (t<(oa:Int)))=false →
 InR .i64 (b1+1) ∧
 aa [.int .i64 ha,.int .i64 (b1+1)]∧mu [.int .i64 ha,.int .i64 (b1+1)]<mu [.int .i64 ba,.int .i64 b1]))))))) ∧
 ((decide (b1<(la:Int)))=false →
 R (.int .i64 ba) w)))
theorem zuv (w0 w1O w1L w1C w2O w2L w2C w3O w3L w3C m c):PuV (zty w0 w1O w1L w1C w2O w2L w2C w3O w3L w3C m c) zhl #[.agg #[.int .i64 w0,.slice w1O w1L w1C,.slice w2O w2L w2C,.slice w3O w3L w3C],.int .i64 m,.int .i64 c]:=pV [] false [(3,⟨[(7,.int .i64),(8,.int .i64)],[],[1,2,3],[],[]⟩),(7,⟨[(7,.int .i64),(9,.int .i64)],[],[1,2,3,8],[],[]⟩)] Tryz.func146 (by kernel_rfl) (by kernel_rfl)
def ztx (fa ga ha:Int) (w:World) (R:Value→World→Prop):Prop :=
 (∃aa,
 zab [] Tryz.prog zal #[.int .i64 fa,.int .i64 1,.int .i64 4] w (.bool aa) ∧
 ((!aa)=false→InR .i64 (fa - 1)) ∧
 (∃ba,
 ((!aa)=false→zab [] Tryz.prog zal #[.int .i64 ga,.int .i64 0,.int .i64 (fa - 1)] w (.bool ba)) ∧
 (∃ca,
 (((!aa)||(!ba))=false→zab [] Tryz.prog zdx #[.int .i64 fa] w (.int .i64 ca)) ∧
 (((!aa)||(!ba))=false→InR .i64 (ca - 1)) ∧
 (∃da,
 (((!aa)||(!ba))=false→zab [] Tryz.prog zal #[.int .i64 ha,.int .i64 0,.int .i64 (ca - 1)] w (.bool da)) ∧
 ((((!aa)||(!ba))||(!da))=true →
 R (.int .i64 0) w) ∧
 ((((!aa)||(!ba))||(!da))=false →
 (∃(ea:List Value→Prop) (mu:List Value→Nat),ea [.int .i64 0,.int .i64 0] ∧
 ∀(m c:Int),ea [.int .i64 m,.int .i64 c] →
 ((decide (c<fa))=true →
 InR .i64 (ha+1) ∧
 InR .u64 (ha+1) ∧
 0≤ha+1 ∧
 InR .i64 (ha+1) ∧
 InR .u64 (ha+1) ∧
 0≤ha+1 ∧
 (((Int.fdiv c (2 ^ (min (Int.toNat (ha+1)) 64)))==(Int.fdiv ga (2 ^ (min (Int.toNat (ha+1)) 64))))=true →
 InR .u64 c ∧
 (0≤c∧InR .i64 (1*2 ^ (min (Int.toNat c) 64))) ∧
 InR .i64 (m+(1*2 ^ (min (Int.toNat c) 64))) ∧
 InR .i64 (c+1) ∧
 ea [.int .i64 (m+(1*2 ^ (min (Int.toNat c) 64))),.int .i64 (c+1)]∧mu [.int .i64 (m+(1*2 ^ (min (Int.toNat c) 64))),.int .i64 (c+1)]<mu [.int .i64 m,.int .i64 c]) ∧
 (((Int.fdiv c (2 ^ (min (Int.toNat (ha+1)) 64)))==(Int.fdiv ga (2 ^ (min (Int.toNat (ha+1)) 64))))=false →
 InR .i64 (c+1) ∧
 ea [.int .i64 m,.int .i64 (c+1)]∧mu [.int .i64 m,.int .i64 (c+1)]<mu [.int .i64 m,.int .i64 c])) ∧
 ((decide (c<fa))=false →
 R (.int .i64 m) w)))))))
theorem zuu (cpus cpu level):PuV (ztx cpus cpu level) zhi #[.int .i64 cpus,.int .i64 cpu,.int .i64 level]:=pV [] false [(5,⟨[(7,.int .i64),(8,.int .i64)],[],[0,1,2],[],[]⟩)] Tryz.func147 (by kernel_rfl) (by kernel_rfl)
def z1z (w0:Int) (ea:Option Addr) (fa ga:Nat) (ha:Option Addr) (ia ja:Nat) (ka:Option Addr) (la ma:Nat) (t na oa:Int) (w:World) (R:Value→World→Prop):Prop :=
 (∀b,w.heap.size≤b →
 (∃aa,
 zab [] Tryz.prog zd3 #[.agg #[.int .i64 w0,.slice ea fa ga,.slice ha ia ja,.slice ka la ma],.int .i64 oa] w (.int .i64 aa) ∧
 Ix ha ia t ∧
 (∃ba,
 zaa [] w ha (Int.toNat t*9+3) [.int .i64 ba] ∧
 (∃ca,
 zab [] Tryz.prog zbr #[.int .i64 ba] w (.int .i64 ca) ∧
 ((aa==0)=false→InR .i64 (aa+ca)) ∧
 (∃da,
 ((aa==0)=false→zab [] Tryz.prog zd3 #[.agg #[.int .i64 w0,.slice ea fa ga,.slice ha ia ja,.slice ka la ma],.int .i64 na] w (.int .i64 da)) ∧
 ((aa==0)=false→InR .i64 (da - ca)) ∧
 R (.bool ((aa==0)||(decide (aa+ca≤da - ca)))) w)))))
theorem z3g (w0 w1O w1L w1C w2O w2L w2C w3O w3L w3C t fromv tov):PuV (z1z w0 w1O w1L w1C w2O w2L w2C w3O w3L w3C t fromv tov) zk0 #[.agg #[.int .i64 w0,.slice w1O w1L w1C,.slice w2O w2L w2C,.slice w3O w3L w3C],.int .i64 t,.int .i64 fromv,.int .i64 tov]:=pV [] false [] Tryz.func149 (by kernel_rfl) (by kernel_rfl)
def z11 (w0:Int) (ja:Option Addr) (ka la:Nat) (ma:Option Addr) (na oa:Nat) (pa:Option Addr) (qa ra:Nat) (c:Int) (w:World) (R:Value→World→Prop):Prop :=
 (∀b,w.heap.size≤b →
 (∃(aa:List Value→Prop) (mu:List Value→Nat),aa [.int .i64 0] ∧
 ∀(k:Int),aa [.int .i64 k] →
 (∃ba,
 zab [] Tryz.prog zdx #[.int .i64 (ka:Int)] w (.int .i64 ba) ∧
 ((decide (k<ba))=true →
 (∃ca,
 zab [] Tryz.prog zhi #[.int .i64 (ka:Int),.int .i64 c,.int .i64 k] w (.int .i64 ca) ∧
 (∃da,
 zab [] Tryz.prog zhl #[.agg #[.int .i64 w0,.slice ja ka la,.slice ma na oa,.slice pa qa ra],.int .i64 ca,.int .i64 c] w (.int .i64 da) ∧
 ((decide (da<0))=true →
 InR .i64 (k+1) ∧
 aa [.int .i64 (k+1)]∧mu [.int .i64 (k+1)]<mu [.int .i64 k]) ∧
 ((decide (da<0))=false →
 (∃(ea:List Value→Prop) (fa:List Value→Nat),ea [.int .i64 0] ∧
 ∀(t:Int),ea [.int .i64 t] →
 ((decide (t<(na:Int)))=true →
 Ix ma na t ∧
 (∃ga,
 zaa [] w ma (Int.toNat t*9+2) [.int .i64 ga] ∧
 (∃ha,
 ((ga==da)=true→zab [] Tryz.prog zgg #[.agg #[.int .i64 w0,.slice ja ka la,.slice ma na oa,.slice pa qa ra],.int .i64 t,.int .i64 c] w (.bool ha)) ∧
 (∃ia,
 (((ga==da)&&ha)=true→zab [] Tryz.prog zk0 #[.agg #[.int .i64 w0,.slice ja ka la,.slice ma na oa,.slice pa qa ra],.int .i64 t,.int .i64 da,.int .i64 c] w (.bool ia)) ∧
 ((((ga==da)&&ha)&&ia)=true →
 R (.int .i64 t) w) ∧
 ((((ga==da)&&ha)&&ia)=false →
 InR .i64 (t+1) ∧
 ea [.int .i64 (t+1)]∧fa [.int .i64 (t+1)]<fa [.int .i64 t]))))) ∧
 ((decide (t<(na:Int)))=false →
 InR .i64 (k+1) ∧
 aa [.int .i64 (k+1)]∧mu [.int .i64 (k+1)]<mu [.int .i64 k])))))) ∧
 ((decide (k<ba))=false →
 R (.int .i64 (-1)) w))))
theorem z3i (w0 w1O w1L w1C w2O w2L w2C w3O w3L w3C c):PuV (z11 w0 w1O w1L w1C w2O w2L w2C w3O w3L w3C c) zk1 #[.agg #[.int .i64 w0,.slice w1O w1L w1C,.slice w2O w2L w2C,.slice w3O w3L w3C],.int .i64 c]:=pV [] false [(2,⟨[(5,.int .i64)],[],[1,2],[],[]⟩),(7,⟨[(7,.int .i64)],[],[1,2,5,6],[],[]⟩)] Tryz.func70 (by kernel_rfl) (by kernel_rfl)
def ztw (w0:Int) (gd:Option Addr) (hd id:Nat) (jd:Option Addr) (kd ld:Nat) (md:Option Addr) (nd od:Nat) (pd:Int) (w:World) (R:Value→World→Prop):Prop :=
 (∀b,w.heap.size≤b →
 (∀b1,w.heap.size≤b1 →
 (∀wr,ExtX [] w wr→(∀bq∈([b,b1]:List Nat),bq<wr.heap.size) →
 Calls Tryz.prog zje #[.agg #[.int .i64 w0,.slice gd hd id,.slice jd kd ld,.slice md nd od]] wr fun e wv =>
 (∃aa ba ca da ea fa ga ha ia ja ka,
 e = .returned (.tuple #[.agg #[.int .i64 aa,.slice ba ca da,.slice ea fa ga,.slice ha ia ja],.int .i64 ka])∧Kept [b,b1] wr wv ∧
 ((ka==1)=false→InR .i64 ((ca:Int) - 1)) ∧
 (∃la,
 ((ka==1)=false→zab [b,b1] Tryz.prog zal #[.int .i64 pd,.int .i64 0,.int .i64 ((ca:Int) - 1)] wv (.bool la)) ∧
 (((ka==1)||(!la))=true →
 (∀ma,ExtX [b,b1] wv ma→R (.tuple #[.agg #[.int .i64 aa,.slice ba ca da,.slice ea fa ga,.slice ha ia ja],.int .i64 1]) ma)) ∧
 (((ka==1)||(!la))=false →
 Ix ba ca pd ∧
 (∃up,
 zaa [b,b1] wv ba (Int.toNat pd*5+0) [.bool up] ∧
 ((!up)=true →
 (∀na,ExtX [b,b1] wv na→R (.tuple #[.agg #[.int .i64 aa,.slice ba ca da,.slice ea fa ga,.slice ha ia ja],.int .i64 6]) na)) ∧
 ((!up)=false →
 ((ka != 0)=true →
 (∀oa,ExtX [b,b1] wv oa→R (.tuple #[.agg #[.int .i64 aa,.slice ba ca da,.slice ea fa ga,.slice ha ia ja],.int .i64 ka]) oa)) ∧
 ((ka != 0)=false →
 (∃(pa:List Value→World→Prop) (qa:List Value→World→Nat),(∀ra,ExtX [b,b1] wv ra→(∀bq∈([b,b1]:List Nat),bq<ra.heap.size)→pa [.int .i64 1,.int .i64 aa,.slice ba ca da,.slice ea fa ga,.slice ha ia ja] ra) ∧
 ∀(g1 l:Int) (sa:Option Addr) (ta ua:Nat) (va:Option Addr) (wa xa:Nat) (ya:Option Addr) (za ab:Nat) bb,(∀bq∈([b,b1]:List Nat),bq<bb.heap.size)→pa [.int .i64 g1,.int .i64 l,.slice sa ta ua,.slice va wa xa,.slice ya za ab] bb →
 ((decide (g1<(za:Int)))=true →
 Ix ya za g1 ∧
 (∃cb,
 zaa [b,b1] bb ya (Int.toNat g1*14+0) [.bool cb] ∧
 (cb=true →
 (∃db,
 zab [b,b1] Tryz.prog zjf #[.agg #[.int .i64 l,.slice sa ta ua,.slice va wa xa,.slice ya za ab],.int .i64 g1,.int .i64 pd] bb (.int .i64 db) ∧
 (∀eb,ExtX [b,b1] bb eb→(∀bq∈([b,b1]:List Nat),bq<eb.heap.size) →
 Calls Tryz.prog zif #[.agg #[.int .i64 l,.slice sa ta ua,.slice va wa xa,.slice ya za ab],.int .i64 g1,.int .i64 pd,.int .i64 db] eb fun e2 fb =>
 (∃gb hb ib jb kb lb mb nb ob pb,
 e2 = .returned (.agg #[.int .i64 gb,.slice hb ib jb,.slice kb lb mb,.slice nb ob pb])∧Kept [b,b1] eb fb ∧
 InR .i64 (g1+1) ∧
 (∀qb,ExtX [b,b1] fb qb→(∀bq∈([b,b1]:List Nat),bq<qb.heap.size)→pa [.int .i64 (g1+1),.int .i64 gb,.slice hb ib jb,.slice kb lb mb,.slice nb ob pb] qb∧qa [.int .i64 (g1+1),.int .i64 gb,.slice hb ib jb,.slice kb lb mb,.slice nb ob pb] qb<qa [.int .i64 g1,.int .i64 l,.slice sa ta ua,.slice va wa xa,.slice ya za ab] bb))))) ∧
 (cb=false →
 InR .i64 (g1+1) ∧
 (∀rb,ExtX [b,b1] bb rb→(∀bq∈([b,b1]:List Nat),bq<rb.heap.size)→pa [.int .i64 (g1+1),.int .i64 l,.slice sa ta ua,.slice va wa xa,.slice ya za ab] rb∧qa [.int .i64 (g1+1),.int .i64 l,.slice sa ta ua,.slice va wa xa,.slice ya za ab] rb<qa [.int .i64 g1,.int .i64 l,.slice sa ta ua,.slice va wa xa,.slice ya za ab] bb)))) ∧
 ((decide (g1<(za:Int)))=false →
 (∀sb,ExtX [b,b1] bb sb→(∀bq∈([b,b1]:List Nat),bq<sb.heap.size) →
 Calls Tryz.prog zgi #[.agg #[.int .i64 l,.slice sa ta ua,.slice va wa xa,.slice ya za ab]] sb fun e3 tb =>
 (∃ub vb wb xb yb zb ac bc cc dc,
 e3 = .returned (.agg #[.int .i64 ub,.slice vb wb xb,.slice yb zb ac,.slice bc cc dc])∧Kept [b,b1] sb tb ∧
 (∃ec,
 zab [b,b1] Tryz.prog zk1 #[.agg #[.int .i64 ub,.slice vb wb xb,.slice yb zb ac,.slice bc cc dc],.int .i64 pd] tb (.int .i64 ec) ∧
 ((decide (ec≥0))=true →
 Ix yb zb ec ∧
 (∃fc,
 zaa [b,b1] tb yb (Int.toNat ec*9+1) [.int .i64 fc] ∧
 (∀gc,ExtX [b,b1] tb gc→(∀bq∈([b,b1]:List Nat),bq<gc.heap.size) →
 Calls Tryz.prog zmj #[.agg #[.int .i64 ub,.slice vb wb xb,.slice yb zb ac,.slice bc cc dc],.int .i64 ec,.int .i64 fc,.int .i64 pd] gc fun e4 hc =>
 (∃ic jc kc lc mc nc oc pc qc rc,
 e4 = .returned (.agg #[.int .i64 ic,.slice jc kc lc,.slice mc nc oc,.slice pc qc rc])∧Kept [b,b1] gc hc ∧
 (∀sc,ExtX [b,b1] hc sc→(∀bq∈([b,b1]:List Nat),bq<sc.heap.size) →
 Calls Tryz.prog zgi #[.agg #[.int .i64 ic,.slice jc kc lc,.slice mc nc oc,.slice pc qc rc]] sc fun e5 tc =>
 (∃uc vc wc xc yc zc ad bd cd dd,
 e5 = .returned (.agg #[.int .i64 uc,.slice vc wc xc,.slice yc zc ad,.slice bd cd dd])∧Kept [b,b1] sc tc ∧
 (∀ed,ExtX [b,b1] tc ed→R (.tuple #[.agg #[.int .i64 uc,.slice vc wc xc,.slice yc zc ad,.slice bd cd dd],.int .i64 0]) ed))))))) ∧
 ((decide (ec≥0))=false →
 (∀fd,ExtX [b,b1] tb fd→R (.tuple #[.agg #[.int .i64 ub,.slice vb wb xb,.slice yb zb ac,.slice bc cc dc],.int .i64 0]) fd))))))))))))))))
theorem zt7 (w0 w1O w1L w1C w2O w2L w2C w3O w3L w3C cpu):EfV (ztw w0 w1O w1L w1C w2O w2L w2C w3O w3L w3C cpu) zhh #[.agg #[.int .i64 w0,.slice w1O w1L w1C,.slice w2O w2L w2C,.slice w3O w3L w3C],.int .i64 cpu]:=eV [] false [(9,⟨[(7,.int .i64)],[(0,[.int .i64,.slice,.slice,.slice])],[1,2,4],[],[]⟩)] Tryz.func17 (by kernel_rfl) (by kernel_rfl)
def z1g (x:Option Addr) (w:World) (R:Value→World→Prop):Prop :=
 R .nilIface w
theorem z21 (x):PuV (z1g x) zha #[.pointer x]:=pV [] false [] Tryz.func71 (by kernel_rfl) (by kernel_rfl)
def zth (w0:Int) (ma:Option Addr) (na oa:Nat) (pa:Option Addr) (qa ra:Nat) (sa:Option Addr) (ta ua:Nat) (va:Int) (w:World) (R:Value→World→Prop):Prop :=
 (∀b,w.heap.size≤b →
 (∀b1 wb,ExtX [] w wb→w.heap.size≤b1→wb.heap[b1]? = some (Obj.cells ([.int .i64 va]:List Value).toArray ty_int (0,0))→b1∉([b]:List Nat) →
 (∀b2,wb.heap.size≤b2 →
 (∃x,
 zaa [b] wb (some (Addr.mk b1 0 none)) 0 [.int .i64 x] ∧
 (∀wr,ExtX [b] wb wr→(∀bq∈([b,b2]:List Nat),bq<wr.heap.size) →
 Calls Tryz.prog zg8 #[.agg #[.int .i64 w0,.slice ma na oa,.slice pa qa ra,.slice sa ta ua],.int .i64 x,.bool true,.func (.func zha) #[] #[],.func (.func zds) #[] #[.pointer ((some (Addr.mk b1 0 none)).map (·.add 0))]] wr fun e wv =>
 (∃aa ba ca da ea fa ga ha ia ja ka,
 e = .returned (.tuple #[.agg #[.int .i64 aa,.slice ba ca da,.slice ea fa ga,.slice ha ia ja],.int .i64 ka])∧Kept [b,b2] wr wv ∧
 (∀la,ExtX [b,b2] wv la→R (.tuple #[.agg #[.int .i64 aa,.slice ba ca da,.slice ea fa ga,.slice ha ia ja],.int .i64 ka]) la)))))))
theorem zt2 (w0 w1O w1L w1C w2O w2L w2C w3O w3L w3C cpu):EfV (zth w0 w1O w1L w1C w2O w2L w2C w3O w3L w3C cpu) ze0 #[.agg #[.int .i64 w0,.slice w1O w1L w1C,.slice w2O w2L w2C,.slice w3O w3L w3C],.int .i64 cpu]:=eV [3] false [] Tryz.func18 (by kernel_rfl) (by kernel_rfl)
def zm3 (ee:Int) (fe:Option Addr) (he ie:Nat) (je:Option Addr) (ke me:Nat) (oe:Option Addr) (pe qe:Nat) (re:Int) (w:World) (R:Value→World→Prop):Prop :=
 (∀b,w.heap.size≤b →
 (∃aa,
 zab [] Tryz.prog zkv #[.agg #[.int .i64 ee,.slice fe he ie,.slice je ke me,.slice oe pe qe],.int .i64 1048576] w (.int .i64 aa) ∧
 ((decide (aa<0))=true →
 (∀wr,ExtX [] w wr→R (.bool true) wr)) ∧
 ((decide (aa<0))=false →
 (∀ba,ExtX [] w ba→(∀bq∈([b]:List Nat),bq<ba.heap.size) →
 Calls Tryz.prog zc1 #[.agg #[.int .i64 ee,.slice fe he ie,.slice je ke me,.slice oe pe qe]] ba fun e wv =>
 (∃ca da ea fa ga ha ia ja ka la,
 e = .returned (.agg #[.int .i64 ca,.slice da ea fa,.slice ga ha ia,.slice ja ka la])∧Kept [b] ba wv ∧
 (∀ma,ExtX [b] wv ma→(∀bq∈([b]:List Nat),bq<ma.heap.size) →
 Calls Tryz.prog zhh #[.agg #[.int .i64 ca,.slice da ea fa,.slice ga ha ia,.slice ja ka la],.int .i64 re] ma fun e1 na =>
 (∃oa pa qa ra sa ta ua va wa xa ya,
 e1 = .returned (.tuple #[.agg #[.int .i64 oa,.slice pa qa ra,.slice sa ta ua,.slice va wa xa],.int .i64 ya])∧Kept [b] ma na ∧
 (∀b1,na.heap.size≤b1 →
 (∀za,ExtX [b] na za→(∀bq∈([b,b1]:List Nat),bq<za.heap.size) →
 Calls Tryz.prog zc1 #[.agg #[.int .i64 ee,.slice fe he ie,.slice je ke me,.slice oe pe qe]] za fun e2 ab =>
 (∃bb cb db eb fb gb hb ib jb kb,
 e2 = .returned (.agg #[.int .i64 bb,.slice cb db eb,.slice fb gb hb,.slice ib jb kb])∧Kept [b,b1] za ab ∧
 (∀b2,ab.heap.size≤b2 →
 (∀lb,ExtX [b,b1] ab lb→(∀bq∈([b,b1,b2]:List Nat),bq<lb.heap.size) →
 Calls Tryz.prog ze0 #[.agg #[.int .i64 bb,.slice cb db eb,.slice fb gb hb,.slice ib jb kb],.int .i64 re] lb fun e3 mb =>
 (∃nb ob pb qb rb sb tb ub vb wb xb,
 e3 = .returned (.tuple #[.agg #[.int .i64 nb,.slice ob pb qb,.slice rb sb tb,.slice ub vb wb],.int .i64 xb])∧Kept [b,b1,b2] lb mb ∧
 (∀b3,mb.heap.size≤b3 →
 (∃yb,
 zab [b,b1,b2] Tryz.prog zc0 #[.agg #[.int .i64 nb,.slice ob pb qb,.slice rb sb tb,.slice ub vb wb],.agg #[.int .i64 oa,.slice pa qa ra,.slice sa ta ua,.slice va wa xa]] mb (.bool yb) ∧
 (((!yb)||(xb != ya))=true →
 (∀zb,ExtX [b,b1,b2] mb zb→R (.bool false) zb)) ∧
 (((!yb)||(xb != ya))=false →
 (∀ac,ExtX [b,b1,b2] mb ac→(∀bq∈([b,b1,b2,b3]:List Nat),bq<ac.heap.size) →
 Calls Tryz.prog zc1 #[.agg #[.int .i64 ee,.slice fe he ie,.slice je ke me,.slice oe pe qe]] ac fun e4 bc =>
 (∃cc dc ec fc gc hc ic jc kc lc,
 e4 = .returned (.agg #[.int .i64 cc,.slice dc ec fc,.slice gc hc ic,.slice jc kc lc])∧Kept [b,b1,b2,b3] ac bc ∧
 (some (zaz,([.int .i64 bb,.slice cb db eb,.slice fb gb hb,.slice ib jb kb]:List Value))=some (zaz,([.int .i64 bb,.slice cb db eb,.slice fb gb hb,.slice ib jb kb]:List Value))) ∧
 (∃mc,
 zab [b,b1,b2,b3] Tryz.prog zc0 #[.agg #[.int .i64 bb,.slice cb db eb,.slice fb gb hb,.slice ib jb kb],.agg #[.int .i64 cc,.slice dc ec fc,.slice gc hc ic,.slice jc kc lc]] bc (.bool mc) ∧
 ((!mc)=true →
 (∀nc,ExtX [b,b1,b2,b3] bc nc→R (.bool false) nc)) ∧
 ((!mc)=false →
 (∀oc,ExtX [b,b1,b2,b3] bc oc→(∀bq∈([b,b1,b2,b3]:List Nat),bq<oc.heap.size) →
 Calls Tryz.prog zfg #[.agg #[.int .i64 bb,.slice cb db eb,.slice fb gb hb,.slice ib jb kb],.int .i64 1] oc fun e5 pc =>
 (∃qc,
 e5 = .returned (.int .i64 qc)∧Kept [b,b1,b2,b3] oc pc ∧
 (∃rc,
 ((decide (qc<0))=false→zab [b,b1,b2,b3] Tryz.prog zc0 #[.agg #[.int .i64 nb,.slice ob pb qb,.slice rb sb tb,.slice ub vb wb],.agg #[.int .i64 oa,.slice pa qa ra,.slice sa ta ua,.slice va wa xa]] pc (.bool rc)) ∧
 ((((decide (qc<0))||(!rc))||(xb != ya))=true →
 (∀sc,ExtX [b,b1,b2,b3] pc sc→R (.bool false) sc)) ∧
 ((((decide (qc<0))||(!rc))||(xb != ya))=false →
 (∀tc,ExtX [b,b1,b2,b3] pc tc→(∀bq∈([b,b1,b2,b3]:List Nat),bq<tc.heap.size) →
 Calls Tryz.prog zfg #[.agg #[.int .i64 nb,.slice ob pb qb,.slice rb sb tb,.slice ub vb wb],.int .i64 1] tc fun e6 uc =>
 (∃vc,
 e6 = .returned (.int .i64 vc)∧Kept [b,b1,b2,b3] tc uc ∧
 (∃wc,
 zab [b,b1,b2,b3] Tryz.prog zff #[.agg #[.int .i64 nb,.slice ob pb qb,.slice rb sb tb,.slice ub vb wb],.int .i64 1] uc (.int .i64 wc) ∧
 ((decide (wc<0))=true →
 (∀xc,ExtX [b,b1,b2,b3] uc xc→R (.bool false) xc)) ∧
 ((decide (wc<0))=false →
 ((wc != vc)=true →
 (∀yc,ExtX [b,b1,b2,b3] uc yc→R (.bool false) yc)) ∧
 ((wc != vc)=false →
 (∀zc,ExtX [b,b1,b2,b3] uc zc→(∀bq∈([b,b1,b2,b3]:List Nat),bq<zc.heap.size) →
 Calls Tryz.prog zc1 #[.agg #[.int .i64 ee,.slice fe he ie,.slice je ke me,.slice oe pe qe]] zc fun e7 ad =>
 (∃bd cd dd ed fd gd hd id jd kd,
 e7 = .returned (.agg #[.int .i64 bd,.slice cd dd ed,.slice fd gd hd,.slice id jd kd])∧Kept [b,b1,b2,b3] zc ad ∧
 (∀ld,ExtX [b,b1,b2,b3] ad ld→(∀bq∈([b,b1,b2,b3]:List Nat),bq<ld.heap.size) →
 Calls Tryz.prog ze0 #[.agg #[.int .i64 bd,.slice cd dd ed,.slice fd gd hd,.slice id jd kd],.int .i64 re] ld fun e8 md =>
 (∃nd od pd qd rd sd td ud vd wd xd,
 e8 = .returned (.tuple #[.agg #[.int .i64 nd,.slice od pd qd,.slice rd sd td,.slice ud vd wd],.int .i64 xd])∧Kept [b,b1,b2,b3] ld md ∧
 (∀b4,md.heap.size≤b4 →
 (∃yd,
 zab [b,b1,b2,b3] Tryz.prog zc0 #[.agg #[.int .i64 nd,.slice od pd qd,.slice rd sd td,.slice ud vd wd],.agg #[.int .i64 oa,.slice pa qa ra,.slice sa ta ua,.slice va wa xa]] md (.bool yd) ∧
 (((!yd)||(xd != ya))=true →
 (∀zd,ExtX [b,b1,b2,b3] md zd→R (.bool false) zd)) ∧
 (((!yd)||(xd != ya))=false →
 (∃ae,
 zab [b,b1,b2,b3] Tryz.prog zff #[.agg #[.int .i64 nb,.slice ob pb qb,.slice rb sb tb,.slice ub vb wb],.int .i64 1] md (.int .i64 ae) ∧
 ((decide (ae<0))=true →
 (∀be,ExtX [b,b1,b2,b3] md be→R (.bool false) be)) ∧
 ((decide (ae<0))=false →
 ((ae != vc)=true →
 (∀ce,ExtX [b,b1,b2,b3] md ce→R (.bool false) ce)) ∧
 ((ae != vc)=false →
 (∀de,ExtX [b,b1,b2,b3] md de→R (.bool true) de))))))))))))))))))))))))))))))))))))))))
theorem zm6 (aW0 aW1O aW1L aW1C aW2O aW2L aW2C aW3O aW3L aW3C aCpu):EfV (zm3 aW0 aW1O aW1L aW1C aW2O aW2L aW2C aW3O aW3L aW3C aCpu) zf6 #[.agg #[.int .i64 aW0,.slice aW1O aW1L aW1C,.slice aW2O aW2L aW2C,.slice aW3O aW3L aW3C],.int .i64 aCpu]:=eV [] false [] Tryz.func5 (by kernel_rfl) (by kernel_rfl)
end Go.Proofs.YtajdcjidpolloaaGreatDoor
namespace Go.Proofs.YtajdcjidpolloaaGreatDoor
open Go.RowKit
set_option linter.unusedVariables false
set_option maxRecDepth 100000
set_option maxHeartbeats 1600000
def z8a (ba:Option Addr) (ca da:Nat) (w:World) (R:Value→World→Prop):Prop :=
 (∃(aa:List Value→Prop) (mu:List Value→Nat),aa [.int .i64 0] ∧
 ∀(x:Int),aa [.int .i64 x] →
 ((decide (x<(ca:Int)))=true →
 Ix ba ca x ∧
 (∃x1,
 zaa [] w ba (Int.toNat x*1) [.int .i64 x1] ∧
 ((decide (x1>50000000000000000))=true →
 R (.bool false) w) ∧
 ((decide (x1>50000000000000000))=false →
 InR .i64 (x+1) ∧
 aa [.int .i64 (x+1)]∧mu [.int .i64 (x+1)]<mu [.int .i64 x]))) ∧
 ((decide (x<(ca:Int)))=false →
 R (.bool true) w))
theorem z92 (timesO timesL timesC):PuV (z8a timesO timesL timesC) zbp #[.slice timesO timesL timesC]:=pV [] false [(2,⟨[(7,.int .i64)],[],[5,6],[],[]⟩)] Tryz.func135 (by kernel_rfl) (by kernel_rfl)
def ztl (wv:Option Addr) (w:World) (R:Value→World→Prop):Prop :=
 wv.isSome=true ∧
 (∃aa,
 zaa [] w wv (0+0) [.int .i64 aa] ∧
 (∀b,w.heap.size≤b →
 (∃ba,
 (∀wx,ExtX [] w wx→wx.heap[b]? = some (Obj.cells ([.int .i64 aa]:List Value).toArray ty_int (0,0))→zab [] Tryz.prog zbp #[.slice (some (Addr.mk b 0 none)) 1 1] wx (.bool ba)) ∧
 wv.isSome=true ∧
 (∃ca da ea,
 zaa [] w wv (0+1) [.slice ca da ea] ∧
 (∃(fa:List Value→Prop) (mu:List Value→Nat),fa [.bool ba,.int .i64 0] ∧
 ∀(ok:Bool) (x:Int),fa [.bool ok,.int .i64 x] →
 ((decide (x<(da:Int)))=true →
 Ix ca da x ∧
 (∃x0 x1 x2 x3 x4,
 zaa [] w ca (Int.toNat x*5) [.bool x0,.int .i64 x1,.int .i64 x2,.int .i64 x3,.int .i64 x4] ∧
 (∀b1,w.heap.size≤b1 →
 (ok=true→(∀b2,w.heap.size≤b2 →
 (∃ga,
 (ok=true→(∀ha,ExtX [] w ha→ha.heap[b2]? = some (Obj.cells ([.int .i64 x3,.int .i64 x4]:List Value).toArray ty_int (0,0))→zab [] Tryz.prog zbp #[.slice (some (Addr.mk b2 0 none)) 2 2] ha (.bool ga))) ∧
 InR .i64 (x+1) ∧
 fa [.bool (ok&&ga),.int .i64 (x+1)]∧mu [.bool (ok&&ga),.int .i64 (x+1)]<mu [.bool ok,.int .i64 x]))) ∧
 ((ok=true→False) →
 InR .i64 (x+1) ∧
 fa [.bool false,.int .i64 (x+1)]∧mu [.bool false,.int .i64 (x+1)]<mu [.bool ok,.int .i64 x])))) ∧
 ((decide (x<(da:Int)))=false →
 wv.isSome=true ∧
 (∃ia ja ka,
 zaa [] w wv (0+2) [.slice ia ja ka] ∧
 (∃(la:List Value→Prop) (ma:List Value→Nat),la [.bool ok,.int .i64 0] ∧
 ∀(na:Bool) (x5:Int),la [.bool na,.int .i64 x5] →
 ((decide (x5<(ja:Int)))=true →
 Ix ia ja x5 ∧
 (∃oa pa qa ra sa ta x6 x7 x8,
 zaa [] w ia (Int.toNat x5*9) [.int .i64 oa,.int .i64 pa,.int .i64 qa,.int .i64 ra,.int .i64 sa,.int .i64 ta,.int .i64 x6,.int .i64 x7,.int .i64 x8] ∧
 (∀b3,w.heap.size≤b3 →
 (na=true→(∀b4,w.heap.size≤b4 →
 (∃ua,
 (na=true→(∀va,ExtX [] w va→va.heap[b4]? = some (Obj.cells ([.int .i64 ta,.int .i64 x6,.int .i64 x7]:List Value).toArray ty_int (0,0))→zab [] Tryz.prog zbp #[.slice (some (Addr.mk b4 0 none)) 3 3] va (.bool ua))) ∧
 InR .i64 (x5+1) ∧
 la [.bool (na&&ua),.int .i64 (x5+1)]∧ma [.bool (na&&ua),.int .i64 (x5+1)]<ma [.bool na,.int .i64 x5]))) ∧
 ((na=true→False) →
 InR .i64 (x5+1) ∧
 la [.bool false,.int .i64 (x5+1)]∧ma [.bool false,.int .i64 (x5+1)]<ma [.bool na,.int .i64 x5])))) ∧
 ((decide (x5<(ja:Int)))=false →
 wv.isSome=true ∧
 (∃wa xa ya,
 zaa [] w wv (0+3) [.slice wa xa ya] ∧
 (∃(za:List Value→Prop) (ab:List Value→Nat),za [.bool na,.int .i64 0] ∧
 ∀(bb:Bool) (x9:Int),za [.bool bb,.int .i64 x9] →
 ((decide (x9<(xa:Int)))=true →
 Ix wa xa x9 ∧
 (∃(cb:Bool) (db:Int) (eb:ByteArray) (fb gb hb ib jb kb lb mb:Int) (nb:Option Addr) (ob pb:Nat) (qb:Option Addr) (rb sb:Nat) (tb:Option Addr) (ub vb:Nat),
 zaa [] w wa (Int.toNat x9*14) [.bool cb,.int .i64 db,.string eb,.int .i64 fb,.int .i64 gb,.int .i64 hb,.int .i64 ib,.int .i64 jb,.int .i64 kb,.int .i64 lb,.int .i64 mb,.slice nb ob pb,.slice qb rb sb,.slice tb ub vb] ∧
 (∀b5,w.heap.size≤b5 →
 (bb=true→(∀b6,w.heap.size≤b6 →
 (∃wb,
 (bb=true→(∀xb,ExtX [] w xb→xb.heap[b6]? = some (Obj.cells ([.int .i64 jb]:List Value).toArray ty_int (0,0))→zab [] Tryz.prog zbp #[.slice (some (Addr.mk b6 0 none)) 1 1] xb (.bool wb))) ∧
 (∃(yb:List Value→Prop) (zb:List Value→Nat),yb [.bool (bb&&wb),.int .i64 0] ∧
 ∀(ac:Bool) (bc:Int),yb [.bool ac,.int .i64 bc] →
 ((decide (bc<(ub:Int)))=true →
 Ix tb ub bc ∧
 (∃cc dc ec fc gc,
 zaa [] w tb (Int.toNat bc*5) [.int .i64 cc,.bool dc,.int .i64 ec,.int .i64 fc,.int .i64 gc] ∧
 (∀b7,w.heap.size≤b7 →
 (ac=true→(∀b8,w.heap.size≤b8 →
 (∃hc,
 (ac=true→(∀ic,ExtX [] w ic→ic.heap[b8]? = some (Obj.cells ([.int .i64 cc,.int .i64 ec,.int .i64 gc]:List Value).toArray ty_int (0,0))→zab [] Tryz.prog zbp #[.slice (some (Addr.mk b8 0 none)) 3 3] ic (.bool hc))) ∧
 InR .i64 (bc+1) ∧
 yb [.bool (ac&&hc),.int .i64 (bc+1)]∧zb [.bool (ac&&hc),.int .i64 (bc+1)]<zb [.bool ac,.int .i64 bc]))) ∧
 ((ac=true→False) →
 InR .i64 (bc+1) ∧
 yb [.bool false,.int .i64 (bc+1)]∧zb [.bool false,.int .i64 (bc+1)]<zb [.bool ac,.int .i64 bc])))) ∧
 ((decide (bc<(ub:Int)))=false →
 InR .i64 (x9+1) ∧
 za [.bool ac,.int .i64 (x9+1)]∧ab [.bool ac,.int .i64 (x9+1)]<ab [.bool bb,.int .i64 x9]))))) ∧
 ((bb=true→False) →
 (∃(jc:List Value→Prop) (kc:List Value→Nat),jc [.bool false,.int .i64 0] ∧
 ∀(lc:Bool) (mc:Int),jc [.bool lc,.int .i64 mc] →
 ((decide (mc<(ub:Int)))=true →
 Ix tb ub mc ∧
 (∃nc oc pc qc rc,
 zaa [] w tb (Int.toNat mc*5) [.int .i64 nc,.bool oc,.int .i64 pc,.int .i64 qc,.int .i64 rc] ∧
 (∀b9,w.heap.size≤b9 →
 (lc=true→(∀sc,w.heap.size≤sc →
 (∃tc,
 (lc=true→(∀uc,ExtX [] w uc→uc.heap[sc]? = some (Obj.cells ([.int .i64 nc,.int .i64 pc,.int .i64 rc]:List Value).toArray ty_int (0,0))→zab [] Tryz.prog zbp #[.slice (some (Addr.mk sc 0 none)) 3 3] uc (.bool tc))) ∧
 InR .i64 (mc+1) ∧
 jc [.bool (lc&&tc),.int .i64 (mc+1)]∧kc [.bool (lc&&tc),.int .i64 (mc+1)]<kc [.bool lc,.int .i64 mc]))) ∧
 ((lc=true→False) →
 InR .i64 (mc+1) ∧
 jc [.bool false,.int .i64 (mc+1)]∧kc [.bool false,.int .i64 (mc+1)]<kc [.bool lc,.int .i64 mc])))) ∧
 ((decide (mc<(ub:Int)))=false →
 InR .i64 (x9+1) ∧
 za [.bool lc,.int .i64 (x9+1)]∧ab [.bool lc,.int .i64 (x9+1)]<ab [.bool bb,.int .i64 x9])))))) ∧
 ((decide (x9<(xa:Int)))=false →
 R (.bool bb) w))))))))))))
theorem zun (wv):PuV (ztl wv) zg6 #[.pointer wv]:=pV [] false [(3,⟨[(3,.bool),(23,.int .i64)],[],[0,21,22],[],[]⟩),(8,⟨[(3,.bool),(42,.int .i64)],[],[0,40,41],[],[]⟩),(13,⟨[(3,.bool),(63,.int .i64)],[],[61,62],[],[]⟩),(17,⟨[(3,.bool),(77,.int .i64)],[],[61,62,63,75,76],[],[]⟩)] Tryz.func62 (by kernel_rfl) (by kernel_rfl)
def z4z (lO:Option Addr) (lL lC:Nat) (g h:Int) (w:World) (R:Value→World→Prop):Prop :=
 (∃(aa:List Value→Prop) (mu:List Value→Nat),aa [.int .i64 h] ∧
 ∀(h1:Int),aa [.int .i64 h1] →
 ((h1 != g)=true →
 ((h1==0)=true →
 R (.bool false) w) ∧
 ((h1==0)=false →
 Ix lO lL h1 ∧
 (∃ba,
 zaa [] w lO (Int.toNat h1*14+1) [.int .i64 ba] ∧
 aa [.int .i64 ba]∧mu [.int .i64 ba]<mu [.int .i64 h1]))) ∧
 ((h1 != g)=false →
 R (.bool true) w))
theorem z68 (lO lL lC g h):PuV (z4z lO lL lC g h) zf5 #[.slice lO lL lC,.int .i64 g,.int .i64 h]:=pV [] false [(1,⟨[(2,.int .i64)],[],[0,1],[],[]⟩)] Tryz.func150 (by kernel_rfl) (by kernel_rfl)
def zr4 (p0:Option Addr) (p1 g lb:Int) (w:World) (R:Value→World→Prop):Prop :=
 (∀b,w.heap.size≤b →
 (∃aa,
 zab [] Tryz.prog zag #[.agg #[.pointer p0,.int .i64 p1],.int .i64 g] w (.pointer aa) ∧
 aa.isSome=true ∧
 (∃wv,
 zaa [] w aa (0+3) [.int .i64 wv] ∧
 ((wv==lb)=true →
 (∀wr,ExtX [] w wr→R (.tuple #[]) wr)) ∧
 ((wv==lb)=false →
 aa.isSome=true ∧
 WrX [] w aa (0+3) 1 ∧
 aa.isSome=true ∧
 (∃ba,
 zaa [] (sto w aa (0+3) [.int .i64 lb]) aa (0+1) [.bool ba] ∧
 (ba=true →
 p0.isSome=true ∧
 (∃ca da ea,
 zaa [] (sto w aa (0+3) [.int .i64 lb]) p0 (0+3) [.slice ca da ea] ∧
 Ix ca da g ∧
 (∃fa,
 zaa [] (sto w aa (0+3) [.int .i64 lb]) ca (Int.toNat g*14+1) [.int .i64 fa] ∧
 (∃ga,
 zab [] Tryz.prog zag #[.agg #[.pointer p0,.int .i64 p1],.int .i64 fa] (sto w aa (0+3) [.int .i64 lb]) (.pointer ga) ∧
 ga.isSome=true ∧
 (∃ha,
 zaa [] (sto w aa (0+3) [.int .i64 lb]) ga (0+0) [.int .i64 ha] ∧
 aa.isSome=true ∧
 (∃v,
 zaa [] (sto w aa (0+3) [.int .i64 lb]) aa (0+2) [.int .i64 v] ∧
 InR .i64 (v - ha) ∧
 (∃ia,
 zab [] Tryz.prog zf3 #[.int .i64 (v - ha),.int .i64 lb] (sto w aa (0+3) [.int .i64 lb]) (.int .i64 ia) ∧
 InR .i64 (ha+ia) ∧
 aa.isSome=true ∧
 WrX [] (sto w aa (0+3) [.int .i64 lb]) aa (0+2) 1 ∧
 (∃ja,
 zab [] Tryz.prog zbq #[.agg #[.pointer p0,.int .i64 p1]] (sto (sto w aa (0+3) [.int .i64 lb]) aa (0+2) [.int .i64 (ha+ia)]) (.pointer ja) ∧
 ja.isSome=true ∧
 (∃ka,
 zaa [] (sto (sto w aa (0+3) [.int .i64 lb]) aa (0+2) [.int .i64 (ha+ia)]) ja (0+1) [.int .i64 ka] ∧
 ((ka != (-1))=true→p0.isSome=true) ∧
 (∃la ma na,
 ((ka != (-1))=true→zaa [] (sto (sto w aa (0+3) [.int .i64 lb]) aa (0+2) [.int .i64 (ha+ia)]) p0 (0+3) [.slice la ma na]) ∧
 ((ka != (-1))=true→p0.isSome=true) ∧
 (∃oa pa qa,
 ((ka != (-1))=true→zaa [] (sto (sto w aa (0+3) [.int .i64 lb]) aa (0+2) [.int .i64 (ha+ia)]) p0 (0+2) [.slice oa pa qa]) ∧
 ((ka != (-1))=true→Ix oa pa ka) ∧
 (∃ra,
 ((ka != (-1))=true→zaa [] (sto (sto w aa (0+3) [.int .i64 lb]) aa (0+2) [.int .i64 (ha+ia)]) oa (Int.toNat ka*9+1) [.int .i64 ra]) ∧
 (∃sa,
 ((ka != (-1))=true→zab [] Tryz.prog zf5 #[.slice la ma na,.int .i64 g,.int .i64 ra] (sto (sto w aa (0+3) [.int .i64 lb]) aa (0+2) [.int .i64 (ha+ia)]) (.bool sa)) ∧
 (((ka != (-1))&&sa)=true →
 (∀ta,ExtX [] (sto (sto w aa (0+3) [.int .i64 lb]) aa (0+2) [.int .i64 (ha+ia)]) ta→(∀bq∈([b]:List Nat),bq<ta.heap.size) →
 Calls Tryz.prog zbs #[.agg #[.pointer p0,.int .i64 p1]] ta fun e ua =>
 e = .returned (.tuple #[])∧Kept [b] ta ua ∧
 (∀va,ExtX [b] ua va→R (.tuple #[]) va))) ∧
 (((ka != (-1))&&sa)=false →
 (∀wa,ExtX [] (sto (sto w aa (0+3) [.int .i64 lb]) aa (0+2) [.int .i64 (ha+ia)]) wa→R (.tuple #[]) wa))))))))))))))) ∧
 (ba=false →
 (∃xa,
 zab [] Tryz.prog zbq #[.agg #[.pointer p0,.int .i64 p1]] (sto w aa (0+3) [.int .i64 lb]) (.pointer xa) ∧
 xa.isSome=true ∧
 (∃ya,
 zaa [] (sto w aa (0+3) [.int .i64 lb]) xa (0+1) [.int .i64 ya] ∧
 ((ya != (-1))=true→p0.isSome=true) ∧
 (∃za ab bb,
 ((ya != (-1))=true→zaa [] (sto w aa (0+3) [.int .i64 lb]) p0 (0+3) [.slice za ab bb]) ∧
 ((ya != (-1))=true→p0.isSome=true) ∧
 (∃cb db eb,
 ((ya != (-1))=true→zaa [] (sto w aa (0+3) [.int .i64 lb]) p0 (0+2) [.slice cb db eb]) ∧
 ((ya != (-1))=true→Ix cb db ya) ∧
 (∃fb,
 ((ya != (-1))=true→zaa [] (sto w aa (0+3) [.int .i64 lb]) cb (Int.toNat ya*9+1) [.int .i64 fb]) ∧
 (∃gb,
 ((ya != (-1))=true→zab [] Tryz.prog zf5 #[.slice za ab bb,.int .i64 g,.int .i64 fb] (sto w aa (0+3) [.int .i64 lb]) (.bool gb)) ∧
 (((ya != (-1))&&gb)=true →
 (∀hb,ExtX [] (sto w aa (0+3) [.int .i64 lb]) hb→(∀bq∈([b]:List Nat),bq<hb.heap.size) →
 Calls Tryz.prog zbs #[.agg #[.pointer p0,.int .i64 p1]] hb fun e1 ib =>
 e1 = .returned (.tuple #[])∧Kept [b] hb ib ∧
 (∀jb,ExtX [b] ib jb→R (.tuple #[]) jb))) ∧
 (((ya != (-1))&&gb)=false →
 (∀kb,ExtX [] (sto w aa (0+3) [.int .i64 lb]) kb→R (.tuple #[]) kb))))))))))))))
theorem zsf (p0 p1 g weight):EfV (zr4 p0 p1 g weight) zgo #[.agg #[.pointer p0,.int .i64 p1],.int .i64 g,.int .i64 weight]:=eV [] false [] Tryz.func73 (by kernel_rfl) (by kernel_rfl)
def z8c (ca:Option Addr) (da ea:Nat) (w:World) (R:Value→World→Prop):Prop :=
 (∃(aa:List Value→Prop) (mu:List Value→Nat),aa [.int .i64 0,.int .i64 0] ∧
 ∀(ba x:Int),aa [.int .i64 ba,.int .i64 x] →
 ((decide (x<(da:Int)))=true →
 Ix ca da x ∧
 (∃x1,
 zaa [] w ca (Int.toNat x*1) [.int .i64 x1] ∧
 InR .i64 (ba+x1) ∧
 InR .i64 (x+1) ∧
 aa [.int .i64 (ba+x1),.int .i64 (x+1)]∧mu [.int .i64 (ba+x1),.int .i64 (x+1)]<mu [.int .i64 ba,.int .i64 x])) ∧
 ((decide (x<(da:Int)))=false →
 R (.int .i64 ba) w))
theorem z93 (partsO partsL partsC):PuV (z8c partsO partsL partsC) zhc #[.slice partsO partsL partsC]:=pV [] false [(3,⟨[(3,.int .i64),(8,.int .i64)],[],[6,7],[],[]⟩)] Tryz.func152 (by kernel_rfl) (by kernel_rfl)
def zr2 (p0:Option Addr) (p1 g:Int) (w:World) (R:Value→World→Prop):Prop :=
 (∀b,w.heap.size≤b →
 p0.isSome=true ∧
 (∃aa ba ca,
 zaa [] w p0 (0+2) [.slice aa ba ca] ∧
 (∃(da:List Value→World→Prop) (mu:List Value→World→Nat),(∀wr,ExtX [] w wr→(∀bq∈([b]:List Nat),bq<wr.heap.size)→da [.slice none 0 0,.int .i64 0] wr) ∧
 ∀(ea:Option Addr) (fa ga:Nat) (x:Int) wv,(∀bq∈([b]:List Nat),bq<wv.heap.size)→da [.slice ea fa ga,.int .i64 x] wv →
 ((decide (x<(ba:Int)))=true →
 Ix aa ba x ∧
 (∃x0 x1 x2 x3 x4 x5 x6 x7 x8,
 zaa [b] wv aa (Int.toNat x*9) [.int .i64 x0,.int .i64 x1,.int .i64 x2,.int .i64 x3,.int .i64 x4,.int .i64 x5,.int .i64 x6,.int .i64 x7,.int .i64 x8] ∧
 (∀b1,wv.heap.size≤b1 →
 (((x0==1)&&(x2==p1))=true→p0.isSome=true) ∧
 (∃ha ia ja,
 (((x0==1)&&(x2==p1))=true→zaa [b] wv p0 (0+3) [.slice ha ia ja]) ∧
 (∃ka,
 (((x0==1)&&(x2==p1))=true→zab [b] Tryz.prog zf5 #[.slice ha ia ja,.int .i64 g,.int .i64 x1] wv (.bool ka)) ∧
 ((((x0==1)&&(x2==p1))&&ka)=true →
 (∃la,
 zab [b] Tryz.prog zbz #[.pointer p0,.int .i64 x] wv (.int .i64 la) ∧
 (∀b2,wv.heap.size≤b2 →
 (∀ma,ExtX [b] wv ma→(∀bq∈([b,b1,b2]:List Nat),bq<ma.heap.size)→ma.heap[b2]? = some (Obj.cells ([.int .i64 la]:List Value).toArray ty_int (0,0)) →
 (∃na oa pa,
 ∃qa,(builtin .append #[zax,zax] zax #[false,false] #[.slice ea fa ga,.slice (some (Addr.mk b2 0 none)) 1 1]).run Tryz.prog ma = .ok (.value (.slice na oa pa)) qa∧Kept [b,b1,b2] ma qa ∧
 InR .i64 (x+1) ∧
 (∀ra,ExtX [b,b1,b2] qa ra→(∀bq∈([b,b1,b2]:List Nat),bq<ra.heap.size)→da [.slice na oa pa,.int .i64 (x+1)] ra∧mu [.slice na oa pa,.int .i64 (x+1)] ra<mu [.slice ea fa ga,.int .i64 x] wv)))))) ∧
 ((((x0==1)&&(x2==p1))&&ka)=false →
 InR .i64 (x+1) ∧
 (∀sa,ExtX [b] wv sa→(∀bq∈([b,b1]:List Nat),bq<sa.heap.size)→da [.slice ea fa ga,.int .i64 (x+1)] sa∧mu [.slice ea fa ga,.int .i64 (x+1)] sa<mu [.slice ea fa ga,.int .i64 x] wv))))))) ∧
 ((decide (x<(ba:Int)))=false →
 (∃ta,
 zab [b] Tryz.prog zhc #[.slice ea fa ga] wv (.int .i64 ta) ∧
 (∀ua,ExtX [b] wv ua→R (.int .i64 ta) ua))))))
theorem zse (p0 p1 g):EfV (zr2 p0 p1 g) zgn #[.agg #[.pointer p0,.int .i64 p1],.int .i64 g]:=eV [] false [(3,⟨[(5,.slice),(14,.int .i64)],[],[1,2,12,13],[],[]⟩)] Tryz.func151 (by kernel_rfl) (by kernel_rfl)
def ztp (p0:Option Addr) (p1 g:Int) (w:World) (R:Value→World→Prop):Prop :=
 (∀b,w.heap.size≤b →
 p0.isSome=true ∧
 (∃aa ba ca,
 zaa [] w p0 (0+1) [.slice aa ba ca] ∧
 (∃(da:List Value→World→Prop) (mu:List Value→World→Nat),(∀wr,ExtX [] w wr→(∀bq∈([b]:List Nat),bq<wr.heap.size)→da [.slice none 0 0,.int .i64 0] wr) ∧
 ∀(ea:Option Addr) (fa ga:Nat) (x:Int) wv,(∀bq∈([b]:List Nat),bq<wv.heap.size)→da [.slice ea fa ga,.int .i64 x] wv →
 ((decide (x<(ba:Int)))=true →
 (∃ha ia,
 zab [b] Tryz.prog zak #[.pointer p0,.int .i64 x] wv (.agg #[.pointer ha,.int .i64 ia]) ∧
 (∃ja,
 zab [b] Tryz.prog zgn #[.agg #[.pointer ha,.int .i64 ia],.int .i64 g] wv (.int .i64 ja) ∧
 (∀b1,wv.heap.size≤b1 →
 (∀ka,ExtX [b] wv ka→(∀bq∈([b,b1]:List Nat),bq<ka.heap.size)→ka.heap[b1]? = some (Obj.cells ([.int .i64 ja]:List Value).toArray ty_int (0,0)) →
 (∃la ma na,
 ∃oa,(builtin .append #[zax,zax] zax #[false,false] #[.slice ea fa ga,.slice (some (Addr.mk b1 0 none)) 1 1]).run Tryz.prog ka = .ok (.value (.slice la ma na)) oa∧Kept [b,b1] ka oa ∧
 InR .i64 (x+1) ∧
 (∀pa,ExtX [b,b1] oa pa→(∀bq∈([b,b1]:List Nat),bq<pa.heap.size)→da [.slice la ma na,.int .i64 (x+1)] pa∧mu [.slice la ma na,.int .i64 (x+1)] pa<mu [.slice ea fa ga,.int .i64 x] wv))))))) ∧
 ((decide (x<(ba:Int)))=false →
 p0.isSome=true ∧
 (∃qa ra sa,
 zaa [b] wv p0 (0+3) [.slice qa ra sa] ∧
 Ix qa ra g ∧
 (∃ta,
 zaa [b] wv qa (Int.toNat g*14+3) [.int .i64 ta] ∧
 (∃ua,
 zab [b] Tryz.prog zhc #[.slice ea fa ga] wv (.int .i64 ua) ∧
 ((ua==0)=true →
 (∀va,ExtX [b] wv va→R (.int .i64 ta) va)) ∧
 ((ua==0)=false →
 Ix ea fa p1 ∧
 (∃x1,
 zaa [b] wv ea (Int.toNat p1*1) [.int .i64 x1] ∧
 InR .i64 (ta*x1) ∧
 (ua≠0∧InR .i64 (Int.tdiv (ta*x1) ua)) ∧
 (∀wa,ExtX [b] wv wa→R (.int .i64 (if (Int.tdiv (ta*x1) ua)>1 then (Int.tdiv (ta*x1) ua) else 1)) wa))))))))))
theorem zt4 (p0 p1 g):EfV (ztp p0 p1 g) zg9 #[.agg #[.pointer p0,.int .i64 p1],.int .i64 g]:=eV [] false [(3,⟨[(5,.slice),(15,.int .i64)],[],[1,2,14],[],[]⟩)] Tryz.func74 (by kernel_rfl) (by kernel_rfl)
def zvx (p0:Option Addr) (p1:Int) (w:World) (R:Value→World→Prop):Prop :=
 (∀b,w.heap.size≤b →
 p0.isSome=true ∧
 (∃aa ba ca,
 zaa [] w p0 (0+2) [.slice aa ba ca] ∧
 (∃(da:List Value→World→Prop) (mu:List Value→World→Nat),(∀wr,ExtX [] w wr→(∀bq∈([b]:List Nat),bq<wr.heap.size)→da [.slice none 0 0,.int .i64 0] wr) ∧
 ∀(ea:Option Addr) (fa ga:Nat) (x:Int) wv,(∀bq∈([b]:List Nat),bq<wv.heap.size)→da [.slice ea fa ga,.int .i64 x] wv →
 ((decide (x<(ba:Int)))=true →
 (∃ha,
 zab [b] Tryz.prog zb3 #[.agg #[.pointer p0,.int .i64 p1],.int .i64 x] wv (.bool ha) ∧
 (ha=true →
 (∃ia,
 zab [b] Tryz.prog zbz #[.pointer p0,.int .i64 x] wv (.int .i64 ia) ∧
 (∀b1,wv.heap.size≤b1 →
 (∀ja,ExtX [b] wv ja→(∀bq∈([b,b1]:List Nat),bq<ja.heap.size)→ja.heap[b1]? = some (Obj.cells ([.int .i64 ia]:List Value).toArray ty_int (0,0)) →
 (∃ka la ma,
 ∃na,(builtin .append #[zax,zax] zax #[false,false] #[.slice ea fa ga,.slice (some (Addr.mk b1 0 none)) 1 1]).run Tryz.prog ja = .ok (.value (.slice ka la ma)) na∧Kept [b,b1] ja na ∧
 InR .i64 (x+1) ∧
 (∀oa,ExtX [b,b1] na oa→(∀bq∈([b,b1]:List Nat),bq<oa.heap.size)→da [.slice ka la ma,.int .i64 (x+1)] oa∧mu [.slice ka la ma,.int .i64 (x+1)] oa<mu [.slice ea fa ga,.int .i64 x] wv)))))) ∧
 (ha=false →
 InR .i64 (x+1) ∧
 (∀pa,ExtX [b] wv pa→(∀bq∈([b]:List Nat),bq<pa.heap.size)→da [.slice ea fa ga,.int .i64 (x+1)] pa∧mu [.slice ea fa ga,.int .i64 (x+1)] pa<mu [.slice ea fa ga,.int .i64 x] wv)))) ∧
 ((decide (x<(ba:Int)))=false →
 (∃qa,
 zab [b] Tryz.prog zhc #[.slice ea fa ga] wv (.int .i64 qa) ∧
 (∀ra,ExtX [b] wv ra→R (.int .i64 qa) ra))))))
theorem zwf (p0 p1):EfV (zvx p0 p1) zcr #[.agg #[.pointer p0,.int .i64 p1]]:=eV [] false [(3,⟨[(3,.slice),(11,.int .i64)],[],[1,10],[],[]⟩)] Tryz.func153 (by kernel_rfl) (by kernel_rfl)
def zqr (da:Int) (w:World) (R:Value→World→Prop):Prop :=
 (∃aa,
 zab [] Tryz.prog zaf #[.int .i64 da,.int .i64 1,.int .i64 4] w (.bool aa) ∧
 ((!aa)=true →
 R (.int .i64 0) w) ∧
 ((!aa)=false →
 (∃(ba:List Value→Prop) (mu:List Value→Nat),ba [.int .i64 0] ∧
 ∀(ca:Int),ba [.int .i64 ca] →
 (0≤ca∧InR .i64 (1*2 ^ (min (Int.toNat ca) 64))) ∧
 ((decide (1*2 ^ (min (Int.toNat ca) 64)<da))=true →
 InR .i64 (ca+1) ∧
 ba [.int .i64 (ca+1)]∧mu [.int .i64 (ca+1)]<mu [.int .i64 ca]) ∧
 ((decide (1*2 ^ (min (Int.toNat ca) 64)<da))=false →
 R (.int .i64 ca) w))))
theorem zre (cpus):PuV (zqr cpus) zdt #[.int .i64 cpus]:=pV [] false [(4,⟨[(3,.int .i64)],[],[0],[],[]⟩)] Tryz.func154 (by kernel_rfl) (by kernel_rfl)
def zqx (p0:Option Addr) (p1 fa:Int) (w:World) (R:Value→World→Prop):Prop :=
 (∀b wb,ExtX [] w wb→w.heap.size≤b→wb.heap[b]? = some (Obj.cells ([.pointer p0,.int .i64 p1]:List Value).toArray zaar (0,0))→b∉([]:List Nat) →
 (∀b1 aa,ExtX [] wb aa→wb.heap.size≤b1→aa.heap[b1]? = some (Obj.cells ([.int .i64 fa]:List Value).toArray ty_int (0,0))→b1∉([]:List Nat) →
 (∀wr,ExtX [] aa wr→(∀bq∈([]:List Nat),bq<wr.heap.size) →
 Calls Tryz.prog zn1 #[.func (.func zex) #[] #[.pointer ((some (Addr.mk b 0 none)).map (·.add 0)),.pointer ((some (Addr.mk b1 0 none)).map (·.add 0))],.func (.func zb2) #[] #[.pointer ((some (Addr.mk b 0 none)).map (·.add 0))]] wr fun e wv =>
 (∃(ba:Int) (ca:Bool),
 e = .returned (.tuple #[.int .i64 ba,.bool ca])∧Kept [] wr wv ∧
 ((!ca)=true →
 (∀da,ExtX [] wv da→R (.int .i64 (-1)) da)) ∧
 ((!ca)=false →
 (∀ea,ExtX [] wv ea→R (.int .i64 ba) ea))))))
theorem zq6 (p0 p1 level):EfV (zqx p0 p1 level) zfu #[.agg #[.pointer p0,.int .i64 p1],.int .i64 level]:=eV [2,3] false [] Tryz.func155 (by kernel_rfl) (by kernel_rfl)
def zpr (p0:Option Addr) (p1 qa:Int) (w:World) (R:Value→World→Prop):Prop :=
 (∀b,w.heap.size≤b →
 p0.isSome=true ∧
 (∃aa ba ca,
 zaa [] w p0 (0+2) [.slice aa ba ca] ∧
 Ix aa ba qa ∧
 (∃x0 x1 x2 x3 x4 x5 x6 x7 x8,
 zaa [] w aa (Int.toNat qa*9) [.int .i64 x0,.int .i64 x1,.int .i64 x2,.int .i64 x3,.int .i64 x4,.int .i64 x5,.int .i64 x6,.int .i64 x7,.int .i64 x8] ∧
 (∀b1,w.heap.size≤b1 →
 (((x0 != 1)||(x2==p1))=true →
 R (.bool false) w) ∧
 (((x0 != 1)||(x2==p1))=false →
 (∃da ea,
 zab [] Tryz.prog zak #[.pointer p0,.int .i64 x2] w (.agg #[.pointer da,.int .i64 ea]) ∧
 (∀b2,w.heap.size≤b2 →
 (∃fa,
 zab [] Tryz.prog zb3 #[.agg #[.pointer da,.int .i64 ea],.int .i64 qa] w (.bool fa) ∧
 (∃ga,
 ((!fa)=false→zab [] Tryz.prog zbq #[.agg #[.pointer da,.int .i64 ea]] w (.pointer ga)) ∧
 ((!fa)=false→ga.isSome=true) ∧
 (∃ha,
 ((!fa)=false→zaa [] w ga (0+1) [.int .i64 ha]) ∧
 (∃ia,
 (((!fa)||(ha==qa))=false→zab [] Tryz.prog zdd #[.pointer p0,.int .i64 qa] w (.int .i64 ia)) ∧
 (∃ja,
 (((!fa)||(ha==qa))=false→zab [] Tryz.prog zg4 #[.int .i64 ia,.int .i64 p1] w (.bool ja)) ∧
 ((((!fa)||(ha==qa))||(!ja))=true →
 R (.bool false) w) ∧
 ((((!fa)||(ha==qa))||(!ja))=false →
 (∃(ka:List Value→Prop) (mu:List Value→Nat),ka [.int .i64 x1] ∧
 ∀(g:Int),ka [.int .i64 g] →
 ((g != (-1))=true →
 (∃la,
 zab [] Tryz.prog zel #[.agg #[.pointer p0,.int .i64 p1],.int .i64 g] w (.bool la) ∧
 (la=true →
 R (.bool false) w) ∧
 (la=false →
 p0.isSome=true ∧
 (∃ma na oa,
 zaa [] w p0 (0+3) [.slice ma na oa] ∧
 Ix ma na g ∧
 (∃pa,
 zaa [] w ma (Int.toNat g*14+1) [.int .i64 pa] ∧
 ka [.int .i64 pa]∧mu [.int .i64 pa]<mu [.int .i64 g]))))) ∧
 ((g != (-1))=false →
 R (.bool true) w)))))))))))))))
theorem zp1 (p0 p1 task):PuV (zpr p0 p1 task) zdh #[.agg #[.pointer p0,.int .i64 p1],.int .i64 task]:=pV [] false [(8,⟨[(7,.int .i64)],[],[2],[],[]⟩)] Tryz.func156 (by kernel_rfl) (by kernel_rfl)
def zvy (p0:Option Addr) (p1:Int) (w:World) (R:Value→World→Prop):Prop :=
 (∀b,w.heap.size≤b →
 (∃aa,
 zab [] Tryz.prog zcr #[.agg #[.pointer p0,.int .i64 p1]] w (.int .i64 aa) ∧
 p0.isSome=true ∧
 (∃ba ca da,
 zaa [] w p0 (0+1) [.slice ba ca da] ∧
 (∃ea,
 zab [] Tryz.prog zdt #[.int .i64 (ca:Int)] w (.int .i64 ea) ∧
 (∃(fa:List Value→Prop) (mu:List Value→Nat),fa [.int .i64 0] ∧
 ∀(x:Int),fa [.int .i64 x] →
 ((decide (x<ea))=true →
 (∃ga,
 zab [] Tryz.prog zfu #[.agg #[.pointer p0,.int .i64 p1],.int .i64 x] w (.int .i64 ga) ∧
 ((decide (ga<0))=true →
 InR .i64 (x+1) ∧
 fa [.int .i64 (x+1)]∧mu [.int .i64 (x+1)]<mu [.int .i64 x]) ∧
 ((decide (ga<0))=false →
 (∃ha ia,
 zab [] Tryz.prog zak #[.pointer p0,.int .i64 ga] w (.agg #[.pointer ha,.int .i64 ia]) ∧
 (∃ja,
 zab [] Tryz.prog zcr #[.agg #[.pointer ha,.int .i64 ia]] w (.int .i64 ja) ∧
 p0.isSome=true ∧
 (∃ka la ma,
 zaa [] w p0 (0+2) [.slice ka la ma] ∧
 (∃(na:List Value→Prop) (oa:List Value→Nat),na [.int .i64 0] ∧
 ∀(x1:Int),na [.int .i64 x1] →
 ((decide (x1<(la:Int)))=true →
 Ix ka la x1 ∧
 (∃x0 pa x2 x3 x4 x5 x6 x7 x8,
 zaa [] w ka (Int.toNat x1*9) [.int .i64 x0,.int .i64 pa,.int .i64 x2,.int .i64 x3,.int .i64 x4,.int .i64 x5,.int .i64 x6,.int .i64 x7,.int .i64 x8] ∧
 (∀b1,w.heap.size≤b1 →
 (∃qa,
 ((x2 != ga)=false→zab [] Tryz.prog zdh #[.agg #[.pointer p0,.int .i64 p1],.int .i64 x1] w (.bool qa)) ∧
 (((x2 != ga)||(!qa))=true →
 InR .i64 (x1+1) ∧
 na [.int .i64 (x1+1)]∧oa [.int .i64 (x1+1)]<oa [.int .i64 x1]) ∧
 (((x2 != ga)||(!qa))=false →
 (∃ra,
 zab [] Tryz.prog zbz #[.pointer p0,.int .i64 x1] w (.int .i64 ra) ∧
 ((aa==0)=false→InR .i64 (aa+ra)) ∧
 ((aa==0)=false→InR .i64 (ja - ra)) ∧
 (((aa==0)||(decide (aa+ra≤ja - ra)))=true →
 R (.tuple #[.int .i64 x1,.bool true]) w) ∧
 (((aa==0)||(decide (aa+ra≤ja - ra)))=false →
 InR .i64 (x1+1) ∧
 na [.int .i64 (x1+1)]∧oa [.int .i64 (x1+1)]<oa [.int .i64 x1]))))))) ∧
 ((decide (x1<(la:Int)))=false →
 InR .i64 (x+1) ∧
 fa [.int .i64 (x+1)]∧mu [.int .i64 (x+1)]<mu [.int .i64 x])))))))) ∧
 ((decide (x<ea))=false →
 R (.tuple #[.int .i64 0,.bool false]) w))))))
theorem zwz (p0 p1):PuV (zvy p0 p1) zh7 #[.agg #[.pointer p0,.int .i64 p1]]:=pV [] false [(3,⟨[(20,.int .i64)],[],[1,4,19],[],[]⟩),(9,⟨[(39,.int .i64)],[],[1,4,6,7,19,20,37,38],[],[]⟩)] Tryz.func75 (by kernel_rfl) (by kernel_rfl)
def zqq (wv p0:Option Addr) (p1:Int) (za:Option Addr) (w:World) (R:Value→World→Prop):Prop :=
 (∀b,w.heap.size≤b →
 (∃(aa:List Value→World→Prop) (mu:List Value→World→Nat),(∀wr,ExtX [] w wr→(∀bq∈([b]:List Nat),bq<wr.heap.size)→aa [.int .i64 1] wr) ∧
 ∀(g:Int) ba,(∀bq∈([b]:List Nat),bq<ba.heap.size)→aa [.int .i64 g] ba →
 ((decide (g<8))=true →
 wv.isSome=true ∧
 (∃ca da ea,
 zaa [b] ba wv (0+3) [.slice ca da ea] ∧
 Ix ca da g ∧
 (∃fa,
 zaa [b] ba ca (Int.toNat g*14+0) [.bool fa] ∧
 (fa=true →
 (∃ga,
 zab [b] Tryz.prog zg9 #[.agg #[.pointer p0,.int .i64 p1],.int .i64 g] ba (.int .i64 ga) ∧
 (∀ha,ExtX [b] ba ha→(∀bq∈([b]:List Nat),bq<ha.heap.size) →
 Calls Tryz.prog zgo #[.agg #[.pointer p0,.int .i64 p1],.int .i64 g,.int .i64 ga] ha fun e ia =>
 e = .returned (.tuple #[])∧Kept [b] ha ia ∧
 InR .i64 (g+1) ∧
 (∀ja,ExtX [b] ia ja→(∀bq∈([b]:List Nat),bq<ja.heap.size)→aa [.int .i64 (g+1)] ja∧mu [.int .i64 (g+1)] ja<mu [.int .i64 g] ba)))) ∧
 (fa=false →
 InR .i64 (g+1) ∧
 (∀ka,ExtX [b] ba ka→(∀bq∈([b]:List Nat),bq<ka.heap.size)→aa [.int .i64 (g+1)] ka∧mu [.int .i64 (g+1)] ka<mu [.int .i64 g] ba))))) ∧
 ((decide (g<8))=false →
 (∀la,ExtX [b] ba la→(∀bq∈([b]:List Nat),bq<la.heap.size) →
 Calls Tryz.prog zdv #[.pointer wv] la fun e1 ma =>
 e1 = .returned (.tuple #[])∧Kept [b] la ma ∧
 (∃na oa,
 zab [b] Tryz.prog zh7 #[.agg #[.pointer p0,.int .i64 p1]] ma (.tuple #[.int .i64 na,.bool oa]) ∧
 (oa=true →
 wv.isSome=true ∧
 (∃pa qa ra,
 zaa [b] ma wv (0+2) [.slice pa qa ra] ∧
 Ix pa qa na ∧
 (∃sa,
 zaa [b] ma pa (Int.toNat na*9+1) [.int .i64 sa] ∧
 (∃x,
 zaa [b] ma za 0 [.int .i64 x] ∧
 (∀ta,ExtX [b] ma ta→(∀bq∈([b]:List Nat),bq<ta.heap.size) →
 Calls Tryz.prog zh5 #[.pointer wv,.int .i64 na,.int .i64 sa,.int .i64 x] ta fun e2 ua =>
 e2 = .returned (.tuple #[])∧Kept [b] ta ua ∧
 (∀va,ExtX [b] ua va→(∀bq∈([b]:List Nat),bq<va.heap.size) →
 Calls Tryz.prog zdv #[.pointer wv] va fun e3 wa =>
 e3 = .returned (.tuple #[])∧Kept [b] va wa ∧
 (∀xa,ExtX [b] wa xa→R (.tuple #[]) xa))))))) ∧
 (oa=false →
 (∀ya,ExtX [b] ma ya→R (.tuple #[]) ya)))))))
theorem zq3 (wv p0 p1 cap):EfV (zqq wv p0 p1 cap) zds #[.pointer wv,.agg #[.pointer p0,.int .i64 p1],.pointer cap]:=eV [] false [(2,⟨[(5,.int .i64)],[],[0,2,4],[],[]⟩)] Tryz.func72 (by kernel_rfl) (by kernel_rfl)
def zof (wv:Option Addr) (ea:Int) (w:World) (R:Value→World→Prop):Prop :=
 wv.isSome=true ∧
 (∃aa ba ca,
 zaa [] w wv (0+1) [.slice aa ba ca] ∧
 InR .i64 ((ba:Int) - 1) ∧
 (∃da,
 zab [] Tryz.prog zaf #[.int .i64 ea,.int .i64 0,.int .i64 ((ba:Int) - 1)] w (.bool da) ∧
 R (.bool da) w))
theorem zo4 (wv cpu):PuV (zof wv cpu) zev #[.pointer wv,.int .i64 cpu]:=pV [] false [] Tryz.func109 (by kernel_rfl) (by kernel_rfl)
def zqw (wv va wa xa ya:Option Addr) (w:World) (R:Value→World→Prop):Prop :=
 (∃x,
 zaa [] w va 0 [.int .i64 x] ∧
 (∃aa,
 zab [] Tryz.prog zev #[.pointer wv,.int .i64 x] w (.bool aa) ∧
 ((!aa)=true →
 (∀wr,ExtX [] w wr→R (.iface za5 (.agg #[.int .i64 1])) wr)) ∧
 ((!aa)=false →
 wv.isSome=true ∧
 (∃ba ca da,
 zaa [] w wv (0+1) [.slice ba ca da] ∧
 (∃x1,
 zaa [] w va 0 [.int .i64 x1] ∧
 Ix ba ca x1 ∧
 (∃up,
 zaa [] w ba (Int.toNat x1*5+0) [.bool up] ∧
 (∃x2,
 zaa [] w wa 0 [.bool x2] ∧
 ((!(up==x2))=true →
 (∀ea,ExtX [] w ea→R (.iface za5 (.agg #[.int .i64 6])) ea)) ∧
 ((!(up==x2))=false →
 (∃(fa:Fn) (ga:Array Value) (ha:Array Value),
 zaa [] w xa 0 [.func fa ga ha] ∧
 (∀ia,ExtX [] w ia→(∀bq∈([]:List Nat),bq<ia.heap.size) →
 zm0 Tryz.prog (.func fa ga ha) [.pointer wv] ia fun e ja =>
 (∃(rv:Value),
 e = .returned rv∧Kept [] ia ja ∧
 (∃eq,
 (∀wq,((do eqGuard .neq zac4 (.tmp 29) (.const .nilIface) rv .nilIface; binOp .neq zac4 rv .nilIface):Sem Value).run Tryz.prog wq = .ok (.bool eq) wq) ∧
 (eq=true →
 (∀ka,ExtX [] ja ka→R rv ka)) ∧
 (eq=false →
 (∃la,
 zab [] Tryz.prog zg6 #[.pointer wv] ja (.bool la) ∧
 ((!la)=true →
 (∀ma,ExtX [] ja ma→R (.iface za5 (.agg #[.int .i64 10])) ma)) ∧
 ((!la)=false →
 (∃(na:Fn) (oa:Array Value) (pa:Array Value),
 zaa [] ja ya 0 [.func na oa pa] ∧
 (∃x5,
 zaa [] ja va 0 [.int .i64 x5] ∧
 (∃qa ra,
 zab [] Tryz.prog zak #[.pointer wv,.int .i64 x5] ja (.agg #[.pointer qa,.int .i64 ra]) ∧
 (∀sa,ExtX [] ja sa→(∀bq∈([]:List Nat),bq<sa.heap.size) →
 zm0 Tryz.prog (.func na oa pa) [.pointer wv,.agg #[.pointer qa,.int .i64 ra]] sa fun e1 ta =>
 e1 = .returned (.tuple #[])∧Kept [] sa ta ∧
 (∀ua,ExtX [] ta ua→R .nilIface ua))))))))))))))))))))
theorem zq5 (wv cap cap1 cap2 cap3):EfV (zqw wv cap cap1 cap2 cap3) zdw #[.pointer wv,.pointer cap,.pointer cap1,.pointer cap2,.pointer cap3]:=eV [] false [] Tryz.func108 (by kernel_rfl) (by kernel_rfl)
end Go.Proofs.YtajdcjidpolloaaGreatDoor
namespace Go.Proofs.YtajdcjidpolloaaGreatDoor
open Go.RowKit
set_option linter.unusedVariables false
set_option maxRecDepth 100000
set_option maxHeartbeats 1600000
def zng (ja:Fn) (ka:Array Value) (la:Array Value) (ma:Option Addr) (w:World) (R:Value→World→Prop):Prop :=
 (∃(aa:List Value→World→Prop) (mu:List Value→World→Nat),(∀wr,ExtX [] w wr→(∀bq∈([]:List Nat),bq<wr.heap.size)→aa [.int .i64 0] wr) ∧
 ∀(x:Int) wv,(∀bq∈([]:List Nat),bq<wv.heap.size)→aa [.int .i64 x] wv →
 ((decide (x<4))=true →
 (∃x1,
 zaa [] wv ma 0 [.int .i64 x1] ∧
 (∃ba,
 zab [] Tryz.prog ze1 #[.int .i64 x1,.int .i64 x] wv (.bool ba) ∧
 (ba=true→(∀ca,ExtX [] wv ca→(∀bq∈([]:List Nat),bq<ca.heap.size) →
 zm0 Tryz.prog (.func ja ka la) [.int .i64 x] ca fun e da =>
 (∃rv,
 e = .returned (.bool rv)∧Kept [] ca da ∧
 ((ba&&(!rv))=true →
 (∀ea,ExtX [] da ea→R (.tuple #[]) ea)) ∧
 ((ba&&(!rv))=false →
 InR .i64 (x+1) ∧
 (∀fa,ExtX [] da fa→(∀bq∈([]:List Nat),bq<fa.heap.size)→aa [.int .i64 (x+1)] fa∧mu [.int .i64 (x+1)] fa<mu [.int .i64 x] wv))))) ∧
 ((ba=true→False) →
 (false=true →
 (∀ga,ExtX [] wv ga→R (.tuple #[]) ga)) ∧
 (false=false →
 InR .i64 (x+1) ∧
 (∀ha,ExtX [] wv ha→(∀bq∈([]:List Nat),bq<ha.heap.size)→aa [.int .i64 (x+1)] ha∧mu [.int .i64 (x+1)] ha<mu [.int .i64 x] wv)))))) ∧
 ((decide (x<4))=false →
 (∀ia,ExtX [] wv ia→R (.tuple #[]) ia)))
theorem znk (yieldF yieldA yieldK cap):EfV (zng yieldF yieldA yieldK cap) zaw #[.func yieldF yieldA yieldK,.pointer cap]:=eV [] false [(1,⟨[(4,.int .i64)],[],[0,1],[],[]⟩)] Tryz.func182 (by kernel_rfl) (by kernel_rfl)
def zv0 (ca da ea:Int) (w:World) (R:Value→World→Prop):Prop :=
 (∀b,w.heap.size≤b →
 (∀b1,w.heap.size≤b1 →
 (∃(aa:List Value→Prop) (ba:List Value→Nat),aa [.int .i64 0,.bool false,.bool false,.bool false,.bool false] ∧
 ∀(x1:Int) (l l1 l2 l3:Bool),aa [.int .i64 x1,.bool l,.bool l1,.bool l2,.bool l3] →
 ((decide (x1<ca))=true →
 InR .i64 (ea+1) ∧
 0≤ea+1 ∧
 InR .i64 (ea+1) ∧
 0≤ea+1 ∧
 (0≤x1∧x1<(4:Int)) ∧
 (Int.toNat x1+0<4) ∧
 (∃l4 l5 l6 l7,
 ([.bool l,.bool l1,.bool l2,.bool l3]:List Value).set (Int.toNat x1+0) (.bool ((Int.fdiv x1 (2 ^ (min (Int.toNat (ea+1)) 64)))==(Int.fdiv da (2 ^ (min (Int.toNat (ea+1)) 64)))))=[.bool l4,.bool l5,.bool l6,.bool l7] ∧
 InR .i64 (x1+1) ∧
 aa [.int .i64 (x1+1),.bool l4,.bool l5,.bool l6,.bool l7]∧ba [.int .i64 (x1+1),.bool l4,.bool l5,.bool l6,.bool l7]<ba [.int .i64 x1,.bool l,.bool l1,.bool l2,.bool l3])) ∧
 ((decide (x1<ca))=false →
 R (.agg #[.bool l,.bool l1,.bool l2,.bool l3]) w))))
theorem zw0 (cpus cpu level):PuV (zv0 cpus cpu level) zh9 #[.int .i64 cpus,.int .i64 cpu,.int .i64 level]:=pV [] false [(3,⟨[(10,.int .i64)],[(1,[.bool,.bool,.bool,.bool])],[1,2,6,7,9],[],[]⟩)] Tryz.func243 (by kernel_rfl) (by kernel_rfl)
def zti (ka la ma:Int) (w:World) (R:Value→World→Prop):Prop :=
 (∃aa,
 zab [] Tryz.prog zaf #[.int .i64 ka,.int .i64 1,.int .i64 4] w (.bool aa) ∧
 ((!aa)=false→InR .i64 (ka - 1)) ∧
 (∃ba,
 ((!aa)=false→zab [] Tryz.prog zaf #[.int .i64 la,.int .i64 0,.int .i64 (ka - 1)] w (.bool ba)) ∧
 (∃ca,
 (((!aa)||(!ba))=false→zab [] Tryz.prog zdt #[.int .i64 ka] w (.int .i64 ca)) ∧
 (((!aa)||(!ba))=false→InR .i64 (ca - 1)) ∧
 (∃da,
 (((!aa)||(!ba))=false→zab [] Tryz.prog zaf #[.int .i64 ma,.int .i64 0,.int .i64 (ca - 1)] w (.bool da)) ∧
 ((((!aa)||(!ba))||(!da))=true →
 R (.int .i64 0) w) ∧
 ((((!aa)||(!ba))||(!da))=false →
 (∃ea fa ga ha,
 zab [] Tryz.prog zh9 #[.int .i64 ka,.int .i64 la,.int .i64 ma] w (.agg #[.bool ea,.bool fa,.bool ga,.bool ha]) ∧
 (∃(ia:List Value→Prop) (mu:List Value→Nat),ia [.int .i64 0,.int .i64 0] ∧
 ∀(ja x:Int),ia [.int .i64 ja,.int .i64 x] →
 ((decide (x<4))=true →
 (∃x1,
 (0≤x∧x<(4:Int)∧(#[.bool ea,.bool fa,.bool ga,.bool ha]:Array Value)[Int.toNat x]? = some (.bool x1)) ∧
 (x1=true →
 (0≤x∧InR .i64 (1*2 ^ (min (Int.toNat x) 64))) ∧
 InR .i64 (x+1) ∧
 ia [.int .i64 (BitI .or .i64 ja (1*2 ^ (min (Int.toNat x) 64))),.int .i64 (x+1)]∧mu [.int .i64 (BitI .or .i64 ja (1*2 ^ (min (Int.toNat x) 64))),.int .i64 (x+1)]<mu [.int .i64 ja,.int .i64 x]) ∧
 (x1=false →
 InR .i64 (x+1) ∧
 ia [.int .i64 ja,.int .i64 (x+1)]∧mu [.int .i64 ja,.int .i64 (x+1)]<mu [.int .i64 ja,.int .i64 x]))) ∧
 ((decide (x<4))=false →
 R (.int .i64 ja) w))))))))
theorem zuk (cpus cpu level):PuV (zti cpus cpu level) zg2 #[.int .i64 cpus,.int .i64 cpu,.int .i64 level]:=pV [] false [(5,⟨[(7,.int .i64),(32,.int .i64)],[],[31],[],[]⟩)] Tryz.func210 (by kernel_rfl) (by kernel_rfl)
def zoi (a b:Int) (ia:Option Addr) (w:World) (R:Value→World→Prop):Prop :=
 ia.isSome=true ∧
 (∃aa,
 zaa [] w ia 0 [.pointer aa] ∧
 (∃ba ca,
 zab [] Tryz.prog zak #[.pointer aa,.int .i64 a] w (.agg #[.pointer ba,.int .i64 ca]) ∧
 (∃da,
 zab [] Tryz.prog zcr #[.agg #[.pointer ba,.int .i64 ca]] w (.int .i64 da) ∧
 ia.isSome=true ∧
 (∃ea,
 zaa [] w ia 0 [.pointer ea] ∧
 (∃fa ga,
 zab [] Tryz.prog zak #[.pointer ea,.int .i64 b] w (.agg #[.pointer fa,.int .i64 ga]) ∧
 (∃ha,
 zab [] Tryz.prog zcr #[.agg #[.pointer fa,.int .i64 ga]] w (.int .i64 ha) ∧
 R (.bool (decide (da>ha))) w))))))
theorem zo6 (a b cap):PuV (zoi a b cap) zb2 #[.int .i64 a,.int .i64 b,.pointer cap]:=pV [] false [] Tryz.func211 (by kernel_rfl) (by kernel_rfl)
noncomputable def zki (l:Option Nat):Cfg:={ P:=Tryz.prog,T:=zli tbl,pf:=pfT,ef:=efT,tt:=ttT,vis:=[3,6,7],n:=22,pm:=false,wr:=false,rd:=l }
noncomputable def zrn:List (Nat×zdn):=[]
noncomputable def zc6:List Code:=[cL ((zgx Tryz.f136)),cL (cR ((zgx Tryz.f136))),cL (cR (cR ((zgx Tryz.f136))))]
def zkd (ca:Fn) (da:Array Value) (ea:Array Value) (w:World) (R:Exit→List Value→World→Prop):Prop :=
 (∀b wb,ExtX [] w wb→w.heap.size≤b→wb.heap[b]? = some (Obj.cells ([.func ca da ea]:List Value).toArray 120 (0,0))→b∉([]:List Nat) →
 (∀b1 aa,ExtX [] wb aa→wb.heap.size≤b1→aa.heap[b1]? = some (Obj.cells ([.int .i64 0]:List Value).toArray ty_int (0,0))→b1∉([]:List Nat) →
 (∀b2 ba,ExtX [] aa ba→aa.heap.size≤b2→ba.heap[b2]? = some (Obj.cells ([.bool false]:List Value).toArray zbi (0,0))→b2∉([]:List Nat) →
 WrX [] ba (some (Addr.mk b2 0 none)) 0 1 ∧
 (∀wr,ExtX [] (sto ba (some (Addr.mk b2 0 none)) 0 [.bool false]) wr→R .normal [.pointer ((some (Addr.mk b 0 none)).map (·.add 0)),.pointer ((some (Addr.mk b1 0 none)).map (·.add 0)),.pointer ((some (Addr.mk b2 0 none)).map (·.add 0))] wr))))
theorem zrt (l:Option Nat) (beforeF:Fn) (beforeA:Array Value) (beforeK:Array Value) (w:World) (R:Exit→List Value→World→Prop):evL (zki l) zrn zc6 (ziy [(1,.func beforeF beforeA beforeK)]) w (zt9 [3,6,7] R)=zkd beforeF beforeA beforeK w R:=by kernel_rfl
theorem zrb (l:Option Nat) (beforeF:Fn) (beforeA:Array Value) (beforeK:Array Value) {w:World} {R:Exit→List Value→World→Prop} {X:Code} {Q:Exit→Act→World→Prop} {a:Act} (hn:a.tmps.size=22) (hin:zzp [(1,.func beforeF beforeA beforeK)] a) (hvc:zkd beforeF beforeA beforeK w R) (hX:∀vs a1 w1,R .normal vs w1→FrO (zn0 zc6) [3,6,7] a a1 vs→X.wpIn (fnc l) 0 Tryz.prog Q a1 w1) (hQ:∀e vs a1 w1,e≠.normal→R e vs w1→FrO (zn0 zc6) [3,6,7] a a1 vs→Q e a1 w1):(seqs zc6 X).wpIn (fnc l) 0 Tryz.prog Q a w :=
 zamg (C:=zki l) (env _ _ _ _ _) hn hin (by rw [zrt]; exact hvc) hX hQ
noncomputable def zkh (l:Option Nat):Cfg:={ P:=Tryz.prog,T:=zli tbl,pf:=pfT,ef:=efT,tt:=ttT,vis:=[],n:=22,pm:=false,wr:=false,rd:=l }
noncomputable def zrm:List (Nat×zdn):=[]
noncomputable def zeh:Code:=(cL (cL (cR (cR (cR ((zgx Tryz.f136)))))))
def zkc (aa:Fn) (ba:Array Value) (ca:Array Value) (w:World) (R:Exit→List Value→World→Prop):Prop :=
 (∀wr,ExtX [] w wr→R .normal [.func aa ba ca] wr)
theorem zrs (l:Option Nat) (fromvF:Fn) (fromvA:Array Value) (fromvK:Array Value) (w:World) (R:Exit→List Value→World→Prop):evC (zkh l) zrm zeh (ziy [(0,.func fromvF fromvA fromvK)]) w (zt9 [9] R)=zkc fromvF fromvA fromvK w R:=by kernel_rfl
theorem zra (l:Option Nat) (fromvF:Fn) (fromvA:Array Value) (fromvK:Array Value) {w:World} {R:Exit→List Value→World→Prop} {Q:Exit→Act→World→Prop} {a:Act} (hn:a.tmps.size=22) (hin:zzp [(0,.func fromvF fromvA fromvK)] a) (hvc:zkc fromvF fromvA fromvK w R) (hQ:∀e vs a1 w1,R e vs w1→FrO (zfq zeh) [9] a a1 vs→Q e a1 w1):zeh.wpIn (fnc l) 0 Tryz.prog Q a w :=
 zadm (C:=zkh l) (env _ _ _ _ _) hn hin (by rw [zrs]; exact hvc) hQ
noncomputable def zkg (l:Option Nat):Cfg:={ P:=Tryz.prog,T:=zli tbl,pf:=pfT,ef:=efT,tt:=ttT,vis:=[],n:=22,pm:=false,wr:=false,rd:=l }
noncomputable def zrl:List (Nat×zdn):=[]
noncomputable def zeg:Code:=(rfA (cB (cR (cL (cR (cR (cR ((zgx Tryz.f136)))))))))
def zkb (x:Int) (w:World) (R:Exit→List Value→World→Prop):Prop :=
 (∀wr,ExtX [] w wr→R .normal [.int .i64 x] wr)
theorem zrr (l:Option Nat) (x:Int) (w:World) (R:Exit→List Value→World→Prop):evC (zkg l) zrl zeg (ziy [(10,.int .i64 x)]) w (zt9 [8] R)=zkb x w R:=by kernel_rfl
theorem zq9 (l:Option Nat) (x:Int) {w:World} {R:Exit→List Value→World→Prop} {Q:Exit→Act→World→Prop} {a:Act} (hn:a.tmps.size=22) (hin:zzp [(10,.int .i64 x)] a) (hvc:zkb x w R) (hQ:∀e vs a1 w1,R e vs w1→FrO (zfq zeg) [8] a a1 vs→Q e a1 w1):zeg.wpIn (fnc l) 0 Tryz.prog Q a w :=
 zadm (C:=zkg l) (env _ _ _ _ _) hn hin (by rw [zrr]; exact hvc) hQ
noncomputable def zjo (l:Option Nat):Cfg:={ P:=Tryz.prog,T:=zli tbl,pf:=pfT,ef:=efT,tt:=ttT,vis:=[],n:=22,pm:=false,wr:=false,rd:=l }
noncomputable def zp2:List (Nat×zdn):=[]
noncomputable def zdy:Code:=(rfB (cB (cR (cL (cR (cR (cR ((zgx Tryz.f136)))))))))
def zjl (ha ia ja:Option Addr) (x:Int) (w:World) (R:Exit→List Value→World→Prop):Prop :=
 (∃(x1:Bool),
 zaa [] w ja 0 [.bool x1] ∧
 (∃(aa:Fn) (ba:Array Value) (ca:Array Value),
 ((!x1)=false→zaa [] w ha 0 [.func aa ba ca]) ∧
 (∃(x3:Int),
 ((!x1)=false→zaa [] w ia 0 [.int .i64 x3]) ∧
 ((!x1)=false→(∀wr,ExtX [] w wr→(∀bq∈([]:List Nat),bq<wr.heap.size) →
 zm0 Tryz.prog (.func aa ba ca) [.int .i64 x,.int .i64 x3] wr fun e wv =>
 (∃(rv:Bool),
 e = .returned (.bool rv)∧Kept [] wr wv ∧
 (((!x1)||rv)=true →
 WrX [] wv ia 0 1 ∧
 WrX [] (sto wv ia 0 [.int .i64 x]) ja 0 1 ∧
 (∀da,ExtX [] (sto (sto wv ia 0 [.int .i64 x]) ja 0 [.bool true]) da→R .normal [] da)) ∧
 (((!x1)||rv)=false →
 (∀ea,ExtX [] wv ea→R .normal [] ea))))) ∧
 (((!x1)=false→False) →
 (true=true →
 WrX [] w ia 0 1 ∧
 WrX [] (sto w ia 0 [.int .i64 x]) ja 0 1 ∧
 (∀fa,ExtX [] (sto (sto w ia 0 [.int .i64 x]) ja 0 [.bool true]) fa→R .normal [] fa)) ∧
 (true=false →
 (∀ga,ExtX [] w ga→R .normal [] ga))))))
theorem zp5 (l:Option Nat) (before:Option Addr) (firstv:Option Addr) (somev:Option Addr) (x:Int) (w:World) (R:Exit→List Value→World→Prop):evC (zjo l) zp2 zdy (ziy [(3,.pointer before),(6,.pointer firstv),(7,.pointer somev),(8,.int .i64 x)]) w (zt9 [] R)=zjl before firstv somev x w R:=by kernel_rfl
theorem zpv (l:Option Nat) (before:Option Addr) (firstv:Option Addr) (somev:Option Addr) (x:Int) {w:World} {R:Exit→List Value→World→Prop} {Q:Exit→Act→World→Prop} {a:Act} (hn:a.tmps.size=22) (hin:zzp [(3,.pointer before),(6,.pointer firstv),(7,.pointer somev),(8,.int .i64 x)] a) (hvc:zjl before firstv somev x w R) (hQ:∀e vs a1 w1,R e vs w1→FrO (zfq zdy) [] a a1 vs→Q e a1 w1):zdy.wpIn (fnc l) 0 Tryz.prog Q a w :=
 zadm (C:=zjo l) (env _ _ _ _ _) hn hin (by rw [zp5]; exact hvc) hQ
noncomputable def zjp (l:Option Nat):Cfg:={ P:=Tryz.prog,T:=zli tbl,pf:=pfT,ef:=efT,tt:=ttT,vis:=[],n:=22,pm:=false,wr:=false,rd:=l }
noncomputable def zp3:List (Nat×zdn):=[]
noncomputable def zdz:Code:=(cR (cR (cR (cR ((zgx Tryz.f136))))))
def zjm (aa ba:Option Addr) (w:World) (R:Exit→List Value→World→Prop):Prop :=
 (∃(x:Int),
 zaa [] w aa 0 [.int .i64 x] ∧
 (∃(x1:Bool),
 zaa [] w ba 0 [.bool x1] ∧
 (∀wr,ExtX [] w wr→R .ret [.int .i64 x,.bool x1] wr)))
theorem zp6 (l:Option Nat) (firstv:Option Addr) (somev:Option Addr) (w:World) (R:Exit→List Value→World→Prop):evC (zjp l) zp3 zdz (ziy [(6,.pointer firstv),(7,.pointer somev)]) w (zt9 [4,5] R)=zjm firstv somev w R:=by kernel_rfl
theorem zpw (l:Option Nat) (firstv:Option Addr) (somev:Option Addr) {w:World} {R:Exit→List Value→World→Prop} {Q:Exit→Act→World→Prop} {a:Act} (hn:a.tmps.size=22) (hin:zzp [(6,.pointer firstv),(7,.pointer somev)] a) (hvc:zjm firstv somev w R) (hQ:∀e vs a1 w1,R e vs w1→FrO (zfq zdz) [4,5] a a1 vs→Q e a1 w1):zdz.wpIn (fnc l) 0 Tryz.prog Q a w :=
 zadm (C:=zjp l) (env _ _ _ _ _) hn hin (by rw [zp6]; exact hvc) hQ
noncomputable def zf1 (l:Option Nat):Cfg:={ P:=Tryz.prog,T:=zli tbl,pf:=pfT,ef:=efT,tt:=ttT,vis:=[3],n:=44,pm:=false,wr:=false,rd:=l }
noncomputable def zmu:List (Nat×zdn):=[]
noncomputable def zbn:List Code:=[cL ((zgx Tryz.f209)),cL (cR ((zgx Tryz.f209)))]
def zfy (ka:Fn) (la:Array Value) (ma:Array Value) (x x1:Option Addr) (w:World) (R:Exit→List Value→World→Prop):Prop :=
 (∀b wb,ExtX [] w wb→w.heap.size≤b→wb.heap[b]? = some (Obj.cells ([.func ka la ma]:List Value).toArray 83 (0,0))→b∉([]:List Nat) →
 x.isSome=true ∧
 (∃(aa:Option Addr),
 zaa [] wb x 0 [.pointer aa] ∧
 aa.isSome=true ∧
 (∃(ba:Option Addr) (ca da:Nat),
 zaa [] wb aa (0+1) [.slice ba ca da] ∧
 x.isSome=true ∧
 (∃(ea:Int),
 zaa [] wb x 1 [.int .i64 ea] ∧
 (∃(x2:Int),
 zaa [] wb x1 0 [.int .i64 x2] ∧
 (∃(fa:Int),
 zab [] Tryz.prog zg2 #[.int .i64 (ca:Int),.int .i64 ea,.int .i64 x2] wb (.int .i64 fa) ∧
 (∀wr,ExtX [] wb wr→(∀bq∈([]:List Nat),bq<wr.heap.size) →
 Calls Tryz.prog zew #[.int .i64 fa] wr fun e wv =>
 (∃(ga:Fn) (ha:Array Value) (ia:Array Value),
 e = .returned (.func ga ha ia)∧Kept [] wr wv ∧
 (∀ja,ExtX [] wv ja→R .normal [.func ga ha ia,.pointer ((some (Addr.mk b 0 none)).map (·.add 0))] ja)))))))))
theorem zmy (l:Option Nat) (yieldF:Fn) (yieldA:Array Value) (yieldK:Array Value) (x:Option Addr) (x1:Option Addr) (w:World) (R:Exit→List Value→World→Prop):evL (zf1 l) zmu zbn (ziy [(0,.func yieldF yieldA yieldK),(1,.pointer x),(2,.pointer x1)]) w (zt9 [17,3] R)=zfy yieldF yieldA yieldK x x1 w R:=by kernel_rfl
theorem zmo (l:Option Nat) (yieldF:Fn) (yieldA:Array Value) (yieldK:Array Value) (x:Option Addr) (x1:Option Addr) {w:World} {R:Exit→List Value→World→Prop} {X:Code} {Q:Exit→Act→World→Prop} {a:Act} (hn:a.tmps.size=44) (hin:zzp [(0,.func yieldF yieldA yieldK),(1,.pointer x),(2,.pointer x1)] a) (hvc:zfy yieldF yieldA yieldK x x1 w R) (hX:∀vs a1 w1,R .normal vs w1→FrO (zn0 zbn) [17,3] a a1 vs→X.wpIn (fnc l) 0 Tryz.prog Q a1 w1) (hQ:∀e vs a1 w1,e≠.normal→R e vs w1→FrO (zn0 zbn) [17,3] a a1 vs→Q e a1 w1):(seqs zbn X).wpIn (fnc l) 0 Tryz.prog Q a w :=
 zamg (C:=zf1 l) (env _ _ _ _ _) hn hin (by rw [zmy]; exact hvc) hX hQ
noncomputable def zf0 (l:Option Nat):Cfg:={ P:=Tryz.prog,T:=zli tbl,pf:=pfT,ef:=efT,tt:=ttT,vis:=[],n:=44,pm:=false,wr:=false,rd:=l }
noncomputable def zmt:List (Nat×zdn):=[]
noncomputable def zb7:Code:=(rfA (cB (cR (cR ((zgx Tryz.f209))))))
def zfx (x:Int) (w:World) (R:Exit→List Value→World→Prop):Prop :=
 (∀wr,ExtX [] w wr→R .normal [.int .i64 x] wr)
theorem zmx (l:Option Nat) (x:Int) (w:World) (R:Exit→List Value→World→Prop):evC (zf0 l) zmt zb7 (ziy [(18,.int .i64 x)]) w (zt9 [4] R)=zfx x w R:=by kernel_rfl
theorem zmn (l:Option Nat) (x:Int) {w:World} {R:Exit→List Value→World→Prop} {Q:Exit→Act→World→Prop} {a:Act} (hn:a.tmps.size=44) (hin:zzp [(18,.int .i64 x)] a) (hvc:zfx x w R) (hQ:∀e vs a1 w1,R e vs w1→FrO (zfq zb7) [4] a a1 vs→Q e a1 w1):zb7.wpIn (fnc l) 0 Tryz.prog Q a w :=
 zadm (C:=zf0 l) (env _ _ _ _ _) hn hin (by rw [zmx]; exact hvc) hQ
noncomputable def zfo (l:Option Nat):Cfg:={ P:=Tryz.prog,T:=zli tbl,pf:=pfT,ef:=efT,tt:=ttT,vis:=[],n:=44,pm:=false,wr:=false,rd:=l }
noncomputable def zlo:List (Nat×zdn):=[(4,⟨[(25,.int .i64)],[],[1,3,4,23,24],[],[]⟩)]
noncomputable def zb1:Code:=(rfB (cB (cR (cR ((zgx Tryz.f209))))))
def zfn (x sa:Option Addr) (ta:Int) (w:World) (R:Exit→List Value→World→Prop):Prop :=
 x.isSome=true ∧
 (∃(aa:Option Addr),
 zaa [] w x 0 [.pointer aa] ∧
 aa.isSome=true ∧
 (∃(ba:Option Addr) (ca da:Nat),
 zaa [] w aa (0+2) [.slice ba ca da] ∧
 (∃(ea:List Value→World→Prop) (mu:List Value→World→Nat),(∀wr,ExtX [] w wr→(∀bq∈([]:List Nat),bq<wr.heap.size)→ea [.int .i64 0] wr) ∧
 ∀(x1:Int) wv,(∀bq∈([]:List Nat),bq<wv.heap.size)→ea [.int .i64 x1] wv →
 ((decide (x1<(ca:Int)))=true →
 Ix ba ca x1 ∧
 (∃(x0 fa x2 x3 x4 x5 x6 x7 x8:Int),
 zaa [] wv ba (Int.toNat x1*9) [.int .i64 x0,.int .i64 fa,.int .i64 x2,.int .i64 x3,.int .i64 x4,.int .i64 x5,.int .i64 x6,.int .i64 x7,.int .i64 x8] ∧
 (∀b,wv.heap.size≤b →
 (∃(ga:Option Addr) (ha:Int),
 ((x2==ta)=true→zaa [] wv x 0 [.pointer ga,.int .i64 ha]) ∧
 (∃(ia:Bool),
 ((x2==ta)=true→zab [] Tryz.prog zdh #[.agg #[.pointer ga,.int .i64 ha],.int .i64 x1] wv (.bool ia)) ∧
 (((x2==ta)&&ia)=true →
 (∃(ja:Fn) (ka:Array Value) (la:Array Value),
 zaa [] wv sa 0 [.func ja ka la] ∧
 (∀ma,ExtX [] wv ma→(∀bq∈([b]:List Nat),bq<ma.heap.size) →
 zm0 Tryz.prog (.func ja ka la) [.int .i64 ta] ma fun e na =>
 (∃(rv:Bool),
 e = .returned (.bool rv)∧Kept [b] ma na ∧
 ((!rv)=true →
 (∀oa,ExtX [b] na oa→R .ret [] oa)) ∧
 ((!rv)=false →
 (∀pa,ExtX [b] na pa→R .normal [] pa)))))) ∧
 (((x2==ta)&&ia)=false →
 InR .i64 (x1+1) ∧
 (∀qa,ExtX [] wv qa→(∀bq∈([b]:List Nat),bq<qa.heap.size)→ea [.int .i64 (x1+1)] qa∧mu [.int .i64 (x1+1)] qa<mu [.int .i64 x1] wv))))))) ∧
 ((decide (x1<(ca:Int)))=false →
 (∀ra,ExtX [] wv ra→R .normal [] ra)))))
theorem zlq (l:Option Nat) (x:Option Addr) (yield:Option Addr) (other:Int) (w:World) (R:Exit→List Value→World→Prop):evC (zfo l) zlo zb1 (ziy [(1,.pointer x),(3,.pointer yield),(4,.int .i64 other)]) w (zt9 [] R)=zfn x yield other w R:=by kernel_rfl
theorem zll (l:Option Nat) (x:Option Addr) (yield:Option Addr) (other:Int) {w:World} {R:Exit→List Value→World→Prop} {Q:Exit→Act→World→Prop} {a:Act} (hn:a.tmps.size=44) (hin:zzp [(1,.pointer x),(3,.pointer yield),(4,.int .i64 other)] a) (hvc:zfn x yield other w R) (hQ:∀e vs a1 w1,R e vs w1→FrO (zfq zb1) [] a a1 vs→Q e a1 w1):zb1.wpIn (fnc l) 0 Tryz.prog Q a w :=
 zadm (C:=zfo l) (env _ _ _ _ _) hn hin (by rw [zlq]; exact hvc) hQ
end Go.Proofs.YtajdcjidpolloaaGreatDoor
namespace Go.Proofs.YtajdcjidpolloaaGreatDoor
open Go.RowKit
set_option linter.unusedVariables false
set_option linter.unusedSimpArgs false
set_option maxRecDepth 10000
theorem zaiy {o:Option Addr} {n c:Nat} {left:Int} {w:World} {bs:List Nat} (hn:n≤maxLen) (hl:0≤left) (hl2:left≤1048576):zab bs Tryz.prog zmb #[.slice o n c,.int .i64 left] w (.int .i64 (szN n left)) :=
 z7j o n c left fun wr hx=>by
  have:=zdk
  exact ⟨⟨by omega,by omega⟩,fun h=>by rw [szN,if_pos (of_decide_eq_true h)],fun h=>by rw [szN,if_neg (of_decide_eq_false h)]⟩
theorem zaiu {a b:List Int} {aO bO:Option Addr} {aC bC:Nat} {w:World} {bs:List Nat} (ha:RdI bs w aO a) (hb:RdI bs w bO b) (ha9:a.length≤maxLen):zab bs Tryz.prog zl7 #[.slice aO a.length aC,.slice bO b.length bC] w (.bool (decide (a=b))) :=
 z7f aO a.length aC bO b.length bC fun wr hx=>by
  have ha:=(ha.ext hx).less (cs:=[]) (by simp)
  have hb:=(hb.ext hx).less (cs:=[]) (by simp)
  refine ⟨fun h => ?_,fun h => ?_⟩
  ·have h:a.length≠b.length:=by simpa [Int.ofNat_inj] using h
   rw [decide_eq_false fun e=>h (by rw [e])]
  ·have hl:a.length=b.length:=by simpa [Int.ofNat_inj] using h
   refine ze7 a.length 0 rfl (fun k=>k≤a.length∧∀j:Nat,j<k→gi a (j:Int)=gi b (j:Int)) ⟨Nat.zero_le _,fun j hj=>absurd hj (Nat.not_lt_zero j)⟩ fun k ⟨hk,hI⟩=>⟨fun hlt => ?_,fun hge => ?_⟩
   ·have hlt:=of_decide_eq_true hlt
    refine ⟨ha.ix zgs (by omega) hlt,_,ha k (by omega) hlt,hb.ix zgs (by omega) (by omega),_,hb k (by omega) (by omega),fun hne => ?_,fun heq=>⟨zfv hlt ha9,zai (by omega) ?_⟩⟩
    ·have hne:gi a (k:Int)≠gi b (k:Int):=by simpa using hne
     rw [decide_eq_false fun e=>hne (by rw [e])]
    ·have heq:gi a (k:Int)=gi b (k:Int):=by simpa using heq
     exact ⟨by omega,fun j hj=>by
      by_cases hjk:j<k
      ·exact hI j hjk
      ·have:j=k:=by omega
       subst this; exact heq⟩
   ·have hge:=of_decide_eq_false hge
    have hk:k=a.length:=by omega
    subst hk
    rw [decide_eq_true (zp8 hl hI)]
theorem zai1 {l:List Int} {o:Option Addr} {c:Nat} {w:World} (h:RdI [] w o l) (hl:l.length≤1048576) :
  Calls Tryz.prog zme #[.slice o l.length c] w fun e w'=>∃o' c',e = .returned (.slice o' l.length c')∧Own encI 1 ty_int w.heap.size w' o' c' l∧ExtX [] w w':=by
 refine (z58 o l.length c (R:=fun v w'=>∃o' c',v = .slice o' l.length c'∧Own encI 1 ty_int w.heap.size w' o' c' l∧ExtX [] w w') ?_).mono fun e w' ⟨v,he,o',c',hv,h1,h2⟩=>⟨o',c',by rw [he,hv],h1,h2⟩
 have hm:=zbh
 refine fun wr hx _=>⟨_,_,_,_,zql zbt ziw l.length (by omega) (by omega) wr,zbc,?_⟩
 refine zd6 l.length 0 rfl (fun k w1=>k≤l.length∧Own encI 1 ty_int wr.heap.size w1 (some ⟨wr.heap.size,0,none⟩) l.length (l.take k++List.replicate (l.length - k) 0)∧ExtX [] wr w1) (fun w1 hx1 _=>⟨Nat.zero_le _,by simpa using (ziu (enc:=encI) zbt.len ty_int l.length 0 wr).ext0 hx1,(zbw wr _).trans hx1⟩) fun k w1 _ ⟨hk,hO,hX⟩=>⟨fun hlt => ?_,fun hge => ?_⟩
 ·have hlt:=of_decide_eq_true hlt
  have hr:=(h.ext hx).ext hX
  have hlen:(l.take k++List.replicate (l.length - k) 0).length=l.length:=by simp; omega
  have hi:((k:Int))<((l.take k++List.replicate (l.length - k) 0).length:Int):=by rw [hlen]; exact hlt
  refine ⟨hr.ix zgs (by omega) hlt,_,hr k (by omega) hlt,by have:=hO.ix (i:=(k:Int)) (by omega) hi; rwa [hlen] at this,hO.wr zbt.len (by simp) (by omega) hi (j:=0) (by omega),zfv hlt (by omega),fun w2 hx2 _=>zae (by omega) ⟨by omega,?_,?_⟩⟩
  ·have:=(hO.sto zbt.len (i:=(k:Int)) (by omega) hi (j:=0) (vs:=encI (gi l k)) (x:=gi l k) (by rw [List.take_zero,List.nil_append,List.drop_eq_nil_iff.2 (by rw [Nat.zero_add,zbt.len,zbt.len]; exact Nat.le_refl _),List.append_nil]) (by rw [Nat.zero_add,zbt.len]; exact Nat.le_refl _)).ext0 hx2
   rwa [Int.toNat_natCast,zoo l k (by omega)] at this
  ·exact (hO.stoB _ _ hX (Nat.le_refl _)).trans hx2
 ·have hge:=of_decide_eq_false hge
  have hk:k=l.length:=by omega
  subst hk
  simp only [List.take_length,Nat.sub_self,List.replicate_zero,List.append_nil] at hO
  exact fun w2 hx2=>⟨_,_,rfl,(hO.ext0 hx2).mono hx.size,(hx.trans hX).trans hx2⟩
theorem zafz {o:Option Addr} {n c:Nat} {left:Int} {w:World} {bs:List Nat} (hn:n≤maxLen) (hl:0≤left) (hl2:left≤1048576):zab bs Tryz.prog zks #[.slice o n c,.int .i64 left] w (.int .i64 (szN n left)) :=
 z27 o n c left fun wr hx=>by
  have:=zdk
  exact ⟨⟨by omega,by omega⟩,fun h=>by rw [szN,if_pos (of_decide_eq_true h)],fun h=>by rw [szN,if_neg (of_decide_eq_false h)]⟩
theorem zafr {a b:List Bool} {aO bO:Option Addr} {aC bC:Nat} {w:World} {bs:List Nat} (ha:RdB bs w aO a) (hb:RdB bs w bO b) (ha9:a.length≤maxLen):zab bs Tryz.prog zko #[.slice aO a.length aC,.slice bO b.length bC] w (.bool (decide (a=b))) :=
 z22 aO a.length aC bO b.length bC fun wr hx=>by
  have ha:=(ha.ext hx).less (cs:=[]) (by simp)
  have hb:=(hb.ext hx).less (cs:=[]) (by simp)
  refine ⟨fun h => ?_,fun h => ?_⟩
  ·have h:a.length≠b.length:=by simpa [Int.ofNat_inj] using h
   rw [decide_eq_false fun e=>h (by rw [e])]
  ·have hl:a.length=b.length:=by simpa [Int.ofNat_inj] using h
   refine ze7 a.length 0 rfl (fun k=>k≤a.length∧∀j:Nat,j<k→gi a (j:Int)=gi b (j:Int)) ⟨Nat.zero_le _,fun j hj=>absurd hj (Nat.not_lt_zero j)⟩ fun k ⟨hk,hI⟩=>⟨fun hlt => ?_,fun hge => ?_⟩
   ·have hlt:=of_decide_eq_true hlt
    refine ⟨ha.ix zom (by omega) hlt,_,ha k (by omega) hlt,hb.ix zom (by omega) (by omega),_,hb k (by omega) (by omega),fun hne => ?_,fun heq=>⟨zfv hlt ha9,zai (by omega) ?_⟩⟩
    ·have hne:gi a (k:Int)≠gi b (k:Int):=by simpa using hne
     rw [decide_eq_false fun e=>hne (by rw [e])]
    ·have heq:gi a (k:Int)=gi b (k:Int):=by simpa using heq
     exact ⟨by omega,fun j hj=>by
      by_cases hjk:j<k
      ·exact hI j hjk
      ·have:j=k:=by omega
       subst this; exact heq⟩
   ·have hge:=of_decide_eq_false hge
    have hk:k=a.length:=by omega
    subst hk
    rw [decide_eq_true (zp8 hl hI)]
theorem zaf3 {l:List Bool} {o:Option Addr} {c:Nat} {w:World} (h:RdB [] w o l) (hl:l.length≤1048576) :
  Calls Tryz.prog zkw #[.slice o l.length c] w fun e w'=>∃o' c',e = .returned (.slice o' l.length c')∧Own encB 1 zbi w.heap.size w' o' c' l∧ExtX [] w w':=by
 refine (z2b o l.length c (R:=fun v w'=>∃o' c',v = .slice o' l.length c'∧Own encB 1 zbi w.heap.size w' o' c' l∧ExtX [] w w') ?_).mono fun e w' ⟨v,he,o',c',hv,h1,h2⟩=>⟨o',c',by rw [he,hv],h1,h2⟩
 have hm:=zbh
 refine fun wr hx _=>⟨_,_,_,_,zql zcj zpb l.length (by omega) (by omega) wr,zbc,?_⟩
 refine zd6 l.length 0 rfl (fun k w1=>k≤l.length∧Own encB 1 zbi wr.heap.size w1 (some ⟨wr.heap.size,0,none⟩) l.length (l.take k++List.replicate (l.length - k) false)∧ExtX [] wr w1) (fun w1 hx1 _=>⟨Nat.zero_le _,by simpa using (ziu (enc:=encB) zcj.len zbi l.length false wr).ext0 hx1,(zbw wr _).trans hx1⟩) fun k w1 _ ⟨hk,hO,hX⟩=>⟨fun hlt => ?_,fun hge => ?_⟩
 ·have hlt:=of_decide_eq_true hlt
  have hr:=(h.ext hx).ext hX
  have hlen:(l.take k++List.replicate (l.length - k) false).length=l.length:=by simp; omega
  have hi:((k:Int))<((l.take k++List.replicate (l.length - k) false).length:Int):=by rw [hlen]; exact hlt
  refine ⟨hr.ix zom (by omega) hlt,_,hr k (by omega) hlt,by have:=hO.ix (i:=(k:Int)) (by omega) hi; rwa [hlen] at this,hO.wr zcj.len (by simp) (by omega) hi (j:=0) (by omega),zfv hlt (by omega),fun w2 hx2 _=>zae (by omega) ⟨by omega,?_,?_⟩⟩
  ·have:=(hO.sto zcj.len (i:=(k:Int)) (by omega) hi (j:=0) (vs:=encB (gi l k)) (x:=gi l k) (by rw [List.take_zero,List.nil_append,List.drop_eq_nil_iff.2 (by rw [Nat.zero_add,zcj.len,zcj.len]; exact Nat.le_refl _),List.append_nil]) (by rw [Nat.zero_add,zcj.len]; exact Nat.le_refl _)).ext0 hx2
   rwa [Int.toNat_natCast,zoo l k (by omega)] at this
  ·exact (hO.stoB _ _ hX (Nat.le_refl _)).trans hx2
 ·have hge:=of_decide_eq_false hge
  have hk:k=l.length:=by omega
  subst hk
  simp only [List.take_length,Nat.sub_self,List.replicate_zero,List.append_nil] at hO
  exact fun w2 hx2=>⟨_,_,rfl,(hO.ext0 hx2).mono hx.size,(hx.trans hX).trans hx2⟩
theorem zbk:Elt Tryz.prog encS 5 za4 40 (⟨0,false,0,0,0⟩:Shf):=zzg (by kernel_rfl) fun _=>rfl
theorem zlk:Tryz.prog.underlying zbg=some (.slice za4):=by kernel_rfl
theorem zad1 {o:Option Addr} {n c:Nat} {left:Int} {w:World} {bs:List Nat} (hn:n≤maxLen) (hl:0≤left) (hl2:left≤1048576):zab bs Tryz.prog zjb #[.slice o n c,.int .i64 left] w (.int .i64 (szN n left)) :=
 z0p o n c left fun wr hx=>by
  have:=zdk
  exact ⟨⟨by omega,by omega⟩,fun h=>by rw [szN,if_pos (of_decide_eq_true h)],fun h=>by rw [szN,if_neg (of_decide_eq_false h)]⟩
theorem zaft {a b:Shf} {w:World} {bs:List Nat}:zab bs Tryz.prog zkq #[.agg (encS a).toArray,.agg (encS b).toArray] w (.bool (decide (a=b))) :=
 z24 a.floor a.on a.v a.w a.sum b.floor b.on b.v b.w b.sum fun wr hx=>by
  cases a; cases b
  intro _ _ _ _
  repeat' (apply And.intro <;> intro h)
  all_goals (congr 1; simp_all)
theorem zaf5 {a:Shf} {w:World} {bs:List Nat}:zab bs Tryz.prog zky #[.agg (encS a).toArray] w (.agg (encS a).toArray) :=
 z3b a.floor a.on a.v a.w a.sum fun wr hx=>by
  intro _ _ _ _ _ _
  rfl
end Go.Proofs.YtajdcjidpolloaaGreatDoor
