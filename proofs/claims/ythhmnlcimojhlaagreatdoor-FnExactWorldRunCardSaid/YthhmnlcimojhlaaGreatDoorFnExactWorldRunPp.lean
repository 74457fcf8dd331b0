/- Part 16 of what the law FnExactWorldRun needs: the engine, the functions' propositions, the contracts. -/
import Derived.Test.YthhmnlcimojhlaaGreatDoorFnExactWorldRunPo
namespace Go.Proofs.YthhmnlcimojhlaaGreatDoor
open Go.RowKit
set_option linter.unusedVariables false
set_option maxRecDepth 100000
set_option maxHeartbeats 1600000
def cO:Code→Code
 | .loop c=>c
 | c=>c
noncomputable def zif (l:Option Nat):Cfg:={ P:=Tryz.prog,T:=zkw tbl,pf:=pfT,ef:=efT,tt:=ttT,vis:=[2,4],n:=52,pm:=false,wr:=false,rd:=l }
noncomputable def zof:List (Nat×zdy):=[]
noncomputable def zdr:Code:=(cL ((zmz Tryz.f237)))
def zib (p:Option Addr) (p1:Int) (w:World) (R:Exit→List Value→World→Prop):Prop :=
  (∀b wb,ExtX [] w wb→w.heap.size≤b→wb.heap[b]? = some (Obj.cells ([.pointer p,.int .i64 p1]:List Value).toArray zil (0,0))→b∉([]:List Nat) →
  (∀b1 aa,ExtX [] wb aa→wb.heap.size≤b1→aa.heap[b1]? = some (Obj.cells ([.bool false]:List Value).toArray za2 (0,0))→b1∉([]:List Nat) →
  (∀wr,ExtX [] aa wr→R .normal [.pointer ((some (Addr.mk b 0 none)).map (·.add 0)),.pointer ((some (Addr.mk b1 0 none)).map (·.add 0))] wr)))
theorem zom (l:Option Nat) (p:Option Addr) (p1:Int) (w:World) (R:Exit→List Value→World→Prop):evC (zif l) zof zdr (zj3 [(0,.agg #[.pointer p,.int .i64 p1])]) w (zw7 [2,4] R)=zib p p1 w R:=by kernel_rfl
theorem znt (l:Option Nat) (p:Option Addr) (p1:Int) {w:World} {R:Exit→List Value→World→Prop} {Q:Exit→Act→World→Prop} {a:Act} (hn:a.tmps.size=52) (hin:z3x [(0,.agg #[.pointer p,.int .i64 p1])] a) (hvc:zib p p1 w R) (hQ:∀e vs a1 w1,R e vs w1→FrO (zfv zdr) [2,4] a a1 vs→Q e a1 w1):zdr.wpIn (fnc l) 0 Tryz.prog Q a w :=
 zaco (C:=zif l) (env _ _ _ _ _) hn hin (by rw [zom]; exact hvc) hQ
noncomputable def zih (l:Option Nat):Cfg:={ P:=Tryz.prog,T:=zkw tbl,pf:=pfT,ef:=efT,tt:=ttT,vis:=[],n:=52,pm:=false,wr:=false,rd:=l }
noncomputable def zoh:List (Nat×zdy):=[]
noncomputable def zds:Code:=(cL (cL (cR (cR ((zmz Tryz.f237))))))
def zid (fa:Int) (p:Option Addr) (w:World) (R:Exit→List Value→World→Prop):Prop :=
  p.isSome=true ∧
  (∃(aa:Option Addr),
  zaa [] w p 0 [.pointer aa] ∧
  aa.isSome=true ∧
  (∃(ba:Option Addr) (ca:Nat) (da:Nat),
  zaa [] w aa (0+2) [.slice ba ca da] ∧
  Ix ba ca fa ∧
  (∃(ea:Int),
  zaa [] w ba (Int.toNat fa*9+1) [.int .i64 ea] ∧
  (∀wr,ExtX [] w wr→R .normal [.int .i64 ea] wr))))
theorem zoo (l:Option Nat) (task:Int) (p:Option Addr) (w:World) (R:Exit→List Value→World→Prop):evC (zih l) zoh zds (zj3 [(1,.int .i64 task),(2,.pointer p)]) w (zw7 [5] R)=zid task p w R:=by kernel_rfl
theorem znv (l:Option Nat) (task:Int) (p:Option Addr) {w:World} {R:Exit→List Value→World→Prop} {Q:Exit→Act→World→Prop} {a:Act} (hn:a.tmps.size=52) (hin:z3x [(1,.int .i64 task),(2,.pointer p)] a) (hvc:zid task p w R) (hQ:∀e vs a1 w1,R e vs w1→FrO (zfv zds) [5] a a1 vs→Q e a1 w1):zds.wpIn (fnc l) 0 Tryz.prog Q a w :=
 zaco (C:=zih l) (env _ _ _ _ _) hn hin (by rw [zoo]; exact hvc) hQ
noncomputable def zi7 (l:Option Nat):Cfg:={ P:=Tryz.prog,T:=zkw tbl,pf:=pfT,ef:=efT,tt:=ttT,vis:=[],n:=52,pm:=false,wr:=false,rd:=l }
noncomputable def zpa:List (Nat×zdy):=[]
noncomputable def zdx:Code:=(cL (cO (cB (cR (cL (cR (cR ((zmz Tryz.f237)))))))))
def zi6 (g:Int) (w:World) (R:Exit→List Value→World→Prop):Prop :=
  ((g != 0)=true →
  (∀wr,ExtX [] w wr→R .normal [] wr)) ∧
  ((g != 0)=false →
  (∀aa,ExtX [] w aa→R (.exit 0) [] aa))
theorem zpb (l:Option Nat) (g:Int) (w:World) (R:Exit→List Value→World→Prop):evC (zi7 l) zpa zdx (zj3 [(5,.int .i64 g)]) w (zw7 [] R)=zi6 g w R:=by kernel_rfl
theorem zo4 (l:Option Nat) (g:Int) {w:World} {R:Exit→List Value→World→Prop} {Q:Exit→Act→World→Prop} {a:Act} (hn:a.tmps.size=52) (hin:z3x [(5,.int .i64 g)] a) (hvc:zi6 g w R) (hQ:∀e vs a1 w1,R e vs w1→FrO (zfv zdx) [] a a1 vs→Q e a1 w1):zdx.wpIn (fnc l) 0 Tryz.prog Q a w :=
 zaco (C:=zi7 l) (env _ _ _ _ _) hn hin (by rw [zpb]; exact hvc) hQ
noncomputable def zie (l:Option Nat):Cfg:={ P:=Tryz.prog,T:=zkw tbl,pf:=pfT,ef:=efT,tt:=ttT,vis:=[],n:=52,pm:=false,wr:=false,rd:=l }
noncomputable def zoe:List (Nat×zdy):=[]
noncomputable def zcg:List Code:=[cL (cB (cL (cR (cO (cB (cR (cL (cR (cR ((zmz Tryz.f237))))))))))),cL (cR (cB (cL (cR (cO (cB (cR (cL (cR (cR ((zmz Tryz.f237))))))))))))]
def zia (p:Option Addr) (g:Int) (w:World) (R:Exit→List Value→World→Prop):Prop :=
  p.isSome=true ∧
  (∃(aa:Option Addr),
  zaa [] w p 0 [.pointer aa] ∧
  aa.isSome=true ∧
  (∃(ba:Option Addr) (ca:Nat) (da:Nat),
  zaa [] w aa (0+3) [.slice ba ca da] ∧
  Ix ba ca g ∧
  (∃(ea:Int),
  zaa [] w ba (Int.toNat g*14+8+0) [.int .i64 ea] ∧
  ((decide (ea>0))=true→p.isSome=true) ∧
  (∃(fa:Int),
  ((decide (ea>0))=true→zaa [] w p 1 [.int .i64 fa]) ∧
  ((decide (ea>0))=true→(∀wr,ExtX [] w wr→(∀bq∈([]:List Nat),bq<wr.heap.size) →
  Calls Tryz.prog zez #[.pointer (ba.map (·.add (Int.toNat g*14+8))),.agg #[.int .i64 1,.int .i64 fa,.int .i64 0]] wr fun e wv =>
  (∃(ga:Int),
  e = .returned (.int .i64 ga)∧Kept [] wr wv ∧
  (∀ha,ExtX [] wv ha→R .normal [.bool ((decide (ea>0))&&(ga==2))] ha)))) ∧
  (((decide (ea>0))=true→False) →
  (∀ia,ExtX [] w ia→R .normal [.bool false] ia))))))
theorem zol (l:Option Nat) (p:Option Addr) (g:Int) (w:World) (R:Exit→List Value→World→Prop):evL (zie l) zoe zcg (zj3 [(2,.pointer p),(5,.int .i64 g)]) w (zw7 [48] R)=zia p g w R:=by kernel_rfl
theorem zns (l:Option Nat) (p:Option Addr) (g:Int) {w:World} {R:Exit→List Value→World→Prop} {X:Code} {Q:Exit→Act→World→Prop} {a:Act} (hn:a.tmps.size=52) (hin:z3x [(2,.pointer p),(5,.int .i64 g)] a) (hvc:zia p g w R) (hX:∀vs a1 w1,R .normal vs w1→FrO (zpd zcg) [48] a a1 vs→X.wpIn (fnc l) 0 Tryz.prog Q a1 w1) (hQ:∀e vs a1 w1,e≠.normal→R e vs w1→FrO (zpd zcg) [48] a a1 vs→Q e a1 w1):(seqs zcg X).wpIn (fnc l) 0 Tryz.prog Q a w :=
 zak1 (C:=zie l) (env _ _ _ _ _) hn hin (by rw [zol]; exact hvc) hX hQ
noncomputable def zig (l:Option Nat):Cfg:={ P:=Tryz.prog,T:=zkw tbl,pf:=pfT,ef:=efT,tt:=ttT,vis:=[],n:=52,pm:=false,wr:=false,rd:=l }
noncomputable def zog:List (Nat×zdy):=[]
noncomputable def zch:Code:=(cR (cR (cO (cB (cR (cL (cR (cR ((zmz Tryz.f237))))))))))
def zic (p:Option Addr) (g:Int) (w:World) (R:Exit→List Value→World→Prop):Prop :=
  p.isSome=true ∧
  (∃(aa:Option Addr),
  zaa [] w p 0 [.pointer aa] ∧
  aa.isSome=true ∧
  (∃(ba:Option Addr) (ca:Nat) (da:Nat),
  zaa [] w aa (0+3) [.slice ba ca da] ∧
  Ix ba ca g ∧
  (∃(ea:Int),
  zaa [] w ba (Int.toNat g*14+1) [.int .i64 ea] ∧
  (∀wr,ExtX [] w wr→R .normal [.int .i64 ea] wr))))
theorem zon (l:Option Nat) (p:Option Addr) (g:Int) (w:World) (R:Exit→List Value→World→Prop):evC (zig l) zog zch (zj3 [(2,.pointer p),(5,.int .i64 g)]) w (zw7 [5] R)=zic p g w R:=by kernel_rfl
theorem znu (l:Option Nat) (p:Option Addr) (g:Int) {w:World} {R:Exit→List Value→World→Prop} {Q:Exit→Act→World→Prop} {a:Act} (hn:a.tmps.size=52) (hin:z3x [(2,.pointer p),(5,.int .i64 g)] a) (hvc:zic p g w R) (hQ:∀e vs a1 w1,R e vs w1→FrO (zfv zch) [5] a a1 vs→Q e a1 w1):zch.wpIn (fnc l) 0 Tryz.prog Q a w :=
 zaco (C:=zig l) (env _ _ _ _ _) hn hin (by rw [zon]; exact hvc) hQ
noncomputable def zhk (l:Option Nat):Cfg:={ P:=Tryz.prog,T:=zkw tbl,pf:=pfT,ef:=efT,tt:=ttT,vis:=[],n:=52,pm:=false,wr:=false,rd:=l }
noncomputable def zng:List (Nat×zdy):=[]
noncomputable def zb4:Code:=(cR (cR (cR ((zmz Tryz.f237)))))
def zhj (aa:Option Addr) (w:World) (R:Exit→List Value→World→Prop):Prop :=
  WrX [] w aa 0 1 ∧
  (∀wr,ExtX [] (sto w aa 0 [.bool false]) wr→R .ret [] wr)
theorem znh (l:Option Nat) (dry:Option Addr) (w:World) (R:Exit→List Value→World→Prop):evC (zhk l) zng zb4 (zj3 [(4,.pointer dry)]) w (zw7 [] R)=zhj dry w R:=by kernel_rfl
theorem zna (l:Option Nat) (dry:Option Addr) {w:World} {R:Exit→List Value→World→Prop} {Q:Exit→Act→World→Prop} {a:Act} (hn:a.tmps.size=52) (hin:z3x [(4,.pointer dry)] a) (hvc:zhj dry w R) (hQ:∀e vs a1 w1,R e vs w1→FrO (zfv zb4) [] a a1 vs→Q e a1 w1):zb4.wpIn (fnc l) 0 Tryz.prog Q a w :=
 zaco (C:=zhk l) (env _ _ _ _ _) hn hin (by rw [znh]; exact hvc) hQ
end Go.Proofs.YthhmnlcimojhlaaGreatDoor
