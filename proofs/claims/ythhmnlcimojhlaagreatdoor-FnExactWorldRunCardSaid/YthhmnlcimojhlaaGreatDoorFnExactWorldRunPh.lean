/- Part 8 of what the law FnExactWorldRun needs: the engine, the functions' propositions, the contracts. -/
import Derived.Test.YthhmnlcimojhlaaGreatDoorFnExactWorldRunPg
namespace Go.Proofs.YthhmnlcimojhlaaGreatDoor
open Go.RowKit
set_option linter.unusedVariables false
set_option maxRecDepth 100000
set_option maxHeartbeats 1600000
def zps (b:Option Addr) (ka:Int) (w:World) (R:Value→World→Prop):Prop :=
 b.isSome=true ∧
 (∃aa,
 zaa [] w b (0+1) [.int .i64 aa] ∧
 b.isSome=true ∧
 (∃ba ca da,
 zaa [] w b (0+3) [.slice ba ca da] ∧
 Ix ba ca ka ∧
 (∃x,
 zaa [] w ba (Int.toNat ka*1) [.int .i64 x] ∧
 InR .i64 (aa+x) ∧
 b.isSome=true ∧
 WrX [] w b (0+1) 1 ∧
 b.isSome=true ∧
 (∃ea fa ga,
 zaa [] (sto w b (0+1) [.int .i64 (aa+x)]) b (0+3) [.slice ea fa ga] ∧
 Ix ea fa ka ∧
 WrX [] (sto w b (0+1) [.int .i64 (aa+x)]) ea (Int.toNat ka*1) 1 ∧
 b.isSome=true ∧
 (∃ha,
 zaa [] (sto (sto w b (0+1) [.int .i64 (aa+x)]) ea (Int.toNat ka*1) [.int .i64 0]) b (0+1) [.int .i64 ha] ∧
 ((decide (ha>0))=true →
 (∀wr,ExtX [] (sto (sto w b (0+1) [.int .i64 (aa+x)]) ea (Int.toNat ka*1) [.int .i64 0]) wr→(∀bq∈([]:List Nat),bq<wr.heap.size) →
 Calls Tryz.prog zf0 #[.pointer b] wr fun e wv =>
 e = .returned (.tuple #[])∧Kept [] wr wv ∧
 (∀ia,ExtX [] wv ia→R (.int .i64 0) ia))) ∧
 ((decide (ha>0))=false →
 (∀ja,ExtX [] (sto (sto w b (0+1) [.int .i64 (aa+x)]) ea (Int.toNat ka*1) [.int .i64 0]) ja→R (.int .i64 0) ja)))))))
theorem zpz (b cpu):EfV (zps b cpu) zfq #[.pointer b,.int .i64 cpu]:=eV [] false [] Tryz.func212 (by kernel_rfl) (by kernel_rfl)
def zy6 (b:Option Addr) (ua va wa:Int) (w:World) (R:Value→World→Prop):Prop :=
 (∀b1,w.heap.size≤b1 →
 ((ua==4)=true →
 (∀wr,ExtX [] w wr→(∀bq∈([b1]:List Nat),bq<wr.heap.size) →
 Calls Tryz.prog zfp #[.pointer b] wr fun e wv =>
 (∃aa,
 e = .returned (.int .i64 aa)∧Kept [b1] wr wv ∧
 (∀ba,ExtX [b1] wv ba→R (.int .i64 aa) ba)))) ∧
 ((ua==4)=false →
 b.isSome=true ∧
 (∃ca da ea,
 zaa [] w b (0+3) [.slice ca da ea] ∧
 InR .i64 ((da:Int) - 1) ∧
 (∃fa,
 zab [] Tryz.prog zaf #[.int .i64 va,.int .i64 0,.int .i64 ((da:Int) - 1)] w (.bool fa) ∧
 ((!fa)=true →
 (∀ga,ExtX [] w ga→R (.int .i64 1) ga)) ∧
 ((!fa)=false →
 ((ua==1)=true →
 (∀ha,ExtX [] w ha→(∀bq∈([b1]:List Nat),bq<ha.heap.size) →
 Calls Tryz.prog zgm #[.pointer b,.int .i64 va] ha fun e1 ia =>
 (∃ja,
 e1 = .returned (.int .i64 ja)∧Kept [b1] ha ia ∧
 (∀ka,ExtX [b1] ia ka→R (.int .i64 ja) ka)))) ∧
 ((ua==1)=false →
 ((ua==2)=true →
 (∀la,ExtX [] w la→(∀bq∈([b1]:List Nat),bq<la.heap.size) →
 Calls Tryz.prog zf9 #[.pointer b,.int .i64 va,.int .i64 wa] la fun e2 ma =>
 (∃na,
 e2 = .returned (.int .i64 na)∧Kept [b1] la ma ∧
 (∀oa,ExtX [b1] ma oa→R (.int .i64 na) oa)))) ∧
 ((ua==2)=false →
 ((ua==3)=true →
 (∀pa,ExtX [] w pa→(∀bq∈([b1]:List Nat),bq<pa.heap.size) →
 Calls Tryz.prog zfq #[.pointer b,.int .i64 va] pa fun e3 qa =>
 (∃ra,
 e3 = .returned (.int .i64 ra)∧Kept [b1] pa qa ∧
 (∀sa,ExtX [b1] qa sa→R (.int .i64 ra) sa)))) ∧
 ((ua==3)=false →
 (∀ta,ExtX [] w ta→R (.int .i64 1) ta)))))))))
theorem zz0 (b op0 op1 op2):EfV (zy6 b op0 op1 op2) zez #[.pointer b,.agg #[.int .i64 op0,.int .i64 op1,.int .i64 op2]]:=eV [] false [] Tryz.func134 (by kernel_rfl) (by kernel_rfl)
def zts (p0:Option Addr) (p1:Int) (w:World) (R:Value→World→Prop):Prop :=
 (∀b,w.heap.size≤b →
 p0.isSome=true ∧
 (∃aa ba ca,
 zaa [] w p0 (0+3) [.slice aa ba ca] ∧
 (∃(da:List Value→World→Prop) (mu:List Value→World→Nat),(∀wr,ExtX [] w wr→(∀bq∈([b]:List Nat),bq<wr.heap.size)→da [.int .i64 0] wr) ∧
 ∀(x:Int) wv,(∀bq∈([b]:List Nat),bq<wv.heap.size)→da [.int .i64 x] wv →
 ((decide (x<(ba:Int)))=true →
 p0.isSome=true ∧
 (∃ea fa ga,
 zaa [b] wv p0 (0+3) [.slice ea fa ga] ∧
 Ix ea fa x ∧
 (∃ha,
 zaa [b] wv ea (Int.toNat x*14+0) [.bool ha] ∧
 ((!ha)=true →
 InR .i64 (x+1) ∧
 (∀ia,ExtX [b] wv ia→(∀bq∈([b]:List Nat),bq<ia.heap.size)→da [.int .i64 (x+1)] ia∧mu [.int .i64 (x+1)] ia<mu [.int .i64 x] wv)) ∧
 ((!ha)=false →
 p0.isSome=true ∧
 (∃ja ka la,
 zaa [b] wv p0 (0+2) [.slice ja ka la] ∧
 (∃(ma:List Value→World→Prop) (na:List Value→World→Nat),(∀oa,ExtX [b] wv oa→(∀bq∈([b]:List Nat),bq<oa.heap.size)→ma [.int .i64 100000000000000001,.int .i64 0] oa) ∧
 ∀(pa x1:Int) qa,(∀bq∈([b]:List Nat),bq<qa.heap.size)→ma [.int .i64 pa,.int .i64 x1] qa →
 ((decide (x1<(ka:Int)))=true →
 Ix ja ka x1 ∧
 (∃x0 ra x2 x3 x4 x5 x6 x7 x8,
 zaa [b] qa ja (Int.toNat x1*9) [.int .i64 x0,.int .i64 ra,.int .i64 x2,.int .i64 x3,.int .i64 x4,.int .i64 x5,.int .i64 x6,.int .i64 x7,.int .i64 x8] ∧
 (∀b1,qa.heap.size≤b1 →
 (∃sa,
 zab [b] Tryz.prog zcy #[.agg #[.pointer p0,.int .i64 p1],.int .i64 x1,.int .i64 x] qa (.bool sa) ∧
 (sa=true →
 InR .i64 (x1+1) ∧
 (∀ta,ExtX [b] qa ta→(∀bq∈([b,b1]:List Nat),bq<ta.heap.size)→ma [.int .i64 (if x5<pa then x5 else pa),.int .i64 (x1+1)] ta∧na [.int .i64 (if x5<pa then x5 else pa),.int .i64 (x1+1)] ta<na [.int .i64 pa,.int .i64 x1] qa)) ∧
 (sa=false →
 InR .i64 (x1+1) ∧
 (∀ua,ExtX [b] qa ua→(∀bq∈([b,b1]:List Nat),bq<ua.heap.size)→ma [.int .i64 pa,.int .i64 (x1+1)] ua∧na [.int .i64 pa,.int .i64 (x1+1)] ua<na [.int .i64 pa,.int .i64 x1] qa)))))) ∧
 ((decide (x1<(ka:Int)))=false →
 p0.isSome=true ∧
 (∃va wa xa,
 zaa [b] qa p0 (0+3) [.slice va wa xa] ∧
 (∃(ya:List Value→World→Prop) (za:List Value→World→Nat),(∀ab,ExtX [b] qa ab→(∀bq∈([b]:List Nat),bq<ab.heap.size)→ya [.int .i64 pa,.int .i64 0] ab) ∧
 ∀(bb x9:Int) cb,(∀bq∈([b]:List Nat),bq<cb.heap.size)→ya [.int .i64 bb,.int .i64 x9] cb →
 ((decide (x9<(wa:Int)))=true →
 (∃db,
 zab [b] Tryz.prog zdl #[.agg #[.pointer p0,.int .i64 p1],.int .i64 x9,.int .i64 x] cb (.bool db) ∧
 (db=true →
 (∃eb,
 zab [b] Tryz.prog zah #[.agg #[.pointer p0,.int .i64 p1],.int .i64 x9] cb (.pointer eb) ∧
 eb.isSome=true ∧
 (∃v,
 zaa [b] cb eb (0+2) [.int .i64 v] ∧
 InR .i64 (x9+1) ∧
 (∀fb,ExtX [b] cb fb→(∀bq∈([b]:List Nat),bq<fb.heap.size)→ya [.int .i64 (if v<bb then v else bb),.int .i64 (x9+1)] fb∧za [.int .i64 (if v<bb then v else bb),.int .i64 (x9+1)] fb<za [.int .i64 bb,.int .i64 x9] cb)))) ∧
 (db=false →
 InR .i64 (x9+1) ∧
 (∀gb,ExtX [b] cb gb→(∀bq∈([b]:List Nat),bq<gb.heap.size)→ya [.int .i64 bb,.int .i64 (x9+1)] gb∧za [.int .i64 bb,.int .i64 (x9+1)] gb<za [.int .i64 bb,.int .i64 x9] cb)))) ∧
 ((decide (x9<(wa:Int)))=false →
 ((decide (bb≤100000000000000000))=true →
 (∃hb,
 zab [b] Tryz.prog zah #[.agg #[.pointer p0,.int .i64 p1],.int .i64 x] cb (.pointer hb) ∧
 (∃ib,
 zab [b] Tryz.prog zah #[.agg #[.pointer p0,.int .i64 p1],.int .i64 x] cb (.pointer ib) ∧
 ib.isSome=true ∧
 (∃jb,
 zaa [b] cb ib (0+0) [.int .i64 jb] ∧
 hb.isSome=true ∧
 WrX [b] cb hb (0+0) 1 ∧
 InR .i64 (x+1) ∧
 (∀kb,ExtX [b] (sto cb hb (0+0) [.int .i64 (if bb>jb then bb else jb)]) kb→(∀bq∈([b]:List Nat),bq<kb.heap.size)→da [.int .i64 (x+1)] kb∧mu [.int .i64 (x+1)] kb<mu [.int .i64 x] wv))))) ∧
 ((decide (bb≤100000000000000000))=false →
 InR .i64 (x+1) ∧
 (∀lb,ExtX [b] cb lb→(∀bq∈([b]:List Nat),bq<lb.heap.size)→da [.int .i64 (x+1)] lb∧mu [.int .i64 (x+1)] lb<mu [.int .i64 x] wv)))))))))))) ∧
 ((decide (x<(ba:Int)))=false →
 (∀mb,ExtX [b] wv mb→R (.tuple #[]) mb)))))
theorem zt4 (p0 p1):EfV (zts p0 p1) zho #[.agg #[.pointer p0,.int .i64 p1]]:=eV [] false [(2,⟨[(13,.int .i64)],[],[1,12],[],[]⟩),(7,⟨[(3,.int .i64),(32,.int .i64)],[],[1,2,12,13,30,31],[],[]⟩),(13,⟨[(3,.int .i64),(52,.int .i64)],[],[1,2,12,13,51],[],[]⟩)] Tryz.func135 (by kernel_rfl) (by kernel_rfl)
def zpv (wv:Option Addr) (w:World) (R:Value→World→Prop):Prop :=
 wv.isSome=true ∧
 (∃aa ba ca,
 zaa [] w wv (0+1) [.slice aa ba ca] ∧
 (∃(da:List Value→World→Prop) (mu:List Value→World→Nat),(∀wr,ExtX [] w wr→(∀bq∈([]:List Nat),bq<wr.heap.size)→da [.int .i64 0] wr) ∧
 ∀(x:Int) ea,(∀bq∈([]:List Nat),bq<ea.heap.size)→da [.int .i64 x] ea →
 ((decide (x<(ba:Int)))=true →
 (∃fa ga,
 zab [] Tryz.prog zbe #[.pointer wv,.int .i64 x] ea (.agg #[.pointer fa,.int .i64 ga]) ∧
 (∀ha,ExtX [] ea ha→(∀bq∈([]:List Nat),bq<ha.heap.size) →
 Calls Tryz.prog zb9 #[.agg #[.pointer fa,.int .i64 ga]] ha fun e ia =>
 e = .returned (.tuple #[])∧Kept [] ha ia ∧
 InR .i64 (x+1) ∧
 (∀ja,ExtX [] ia ja→(∀bq∈([]:List Nat),bq<ja.heap.size)→da [.int .i64 (x+1)] ja∧mu [.int .i64 (x+1)] ja<mu [.int .i64 x] ea)))) ∧
 ((decide (x<(ba:Int)))=false →
 wv.isSome=true ∧
 (∃ka la ma,
 zaa [] ea wv (0+3) [.slice ka la ma] ∧
 (∃(na:List Value→World→Prop) (oa:List Value→World→Nat),(∀pa,ExtX [] ea pa→(∀bq∈([]:List Nat),bq<pa.heap.size)→na [.int .i64 0] pa) ∧
 ∀(x1:Int) qa,(∀bq∈([]:List Nat),bq<qa.heap.size)→na [.int .i64 x1] qa →
 ((decide (x1<(la:Int)))=true →
 wv.isSome=true ∧
 (∃ra sa ta,
 zaa [] qa wv (0+3) [.slice ra sa ta] ∧
 Ix ra sa x1 ∧
 (∃ua va wa,
 zaa [] qa ra (Int.toNat x1*14+8+3) [.slice ua va wa] ∧
 (∃(xa:List Value→World→Prop) (ya:List Value→World→Nat),(∀za,ExtX [] qa za→(∀bq∈([]:List Nat),bq<za.heap.size)→xa [.int .i64 0] za) ∧
 ∀(x2:Int) ab,(∀bq∈([]:List Nat),bq<ab.heap.size)→xa [.int .i64 x2] ab →
 ((decide (x2<(va:Int)))=true →
 Ix ua va x2 ∧
 (∃x3,
 zaa [] ab ua (Int.toNat x2*1) [.int .i64 x3] ∧
 (∃bb cb,
 ((decide (x3>0))=true→zab [] Tryz.prog zbe #[.pointer wv,.int .i64 x2] ab (.agg #[.pointer bb,.int .i64 cb])) ∧
 (∃db,
 ((decide (x3>0))=true→zab [] Tryz.prog zcx #[.agg #[.pointer bb,.int .i64 cb],.int .i64 x1] ab (.bool db)) ∧
 (((decide (x3>0))&&(!db))=true →
 (∀eb,ExtX [] ab eb→(∀bq∈([]:List Nat),bq<eb.heap.size) →
 Calls Tryz.prog zez #[.pointer (ra.map (·.add (Int.toNat x1*14+8))),.agg #[.int .i64 3,.int .i64 x2,.int .i64 0]] eb fun e1 fb =>
 (∃gb,
 e1 = .returned (.int .i64 gb)∧Kept [] eb fb ∧
 InR .i64 (x2+1) ∧
 (∀hb,ExtX [] fb hb→(∀bq∈([]:List Nat),bq<hb.heap.size)→xa [.int .i64 (x2+1)] hb∧ya [.int .i64 (x2+1)] hb<ya [.int .i64 x2] ab)))) ∧
 (((decide (x3>0))&&(!db))=false →
 InR .i64 (x2+1) ∧
 (∀ib,ExtX [] ab ib→(∀bq∈([]:List Nat),bq<ib.heap.size)→xa [.int .i64 (x2+1)] ib∧ya [.int .i64 (x2+1)] ib<ya [.int .i64 x2] ab)))))) ∧
 ((decide (x2<(va:Int)))=false →
 InR .i64 (x1+1) ∧
 (∀jb,ExtX [] ab jb→(∀bq∈([]:List Nat),bq<jb.heap.size)→na [.int .i64 (x1+1)] jb∧oa [.int .i64 (x1+1)] jb<oa [.int .i64 x1] qa)))))) ∧
 ((decide (x1<(la:Int)))=false →
 wv.isSome=true ∧
 (∃kb lb mb,
 zaa [] qa wv (0+1) [.slice kb lb mb] ∧
 (∃(nb:List Value→World→Prop) (ob:List Value→World→Nat),(∀pb,ExtX [] qa pb→(∀bq∈([]:List Nat),bq<pb.heap.size)→nb [.int .i64 0] pb) ∧
 ∀(x4:Int) qb,(∀bq∈([]:List Nat),bq<qb.heap.size)→nb [.int .i64 x4] qb →
 ((decide (x4<(lb:Int)))=true →
 (∃rb sb,
 zab [] Tryz.prog zbe #[.pointer wv,.int .i64 x4] qb (.agg #[.pointer rb,.int .i64 sb]) ∧
 (∀b,qb.heap.size≤b →
 (∀tb,ExtX [] qb tb→(∀bq∈([b]:List Nat),bq<tb.heap.size) →
 Calls Tryz.prog zb9 #[.agg #[.pointer rb,.int .i64 sb]] tb fun e2 ub =>
 e2 = .returned (.tuple #[])∧Kept [b] tb ub ∧
 (∀vb,ExtX [b] ub vb→(∀bq∈([b]:List Nat),bq<vb.heap.size) →
 Calls Tryz.prog zho #[.agg #[.pointer rb,.int .i64 sb]] vb fun e3 wb =>
 e3 = .returned (.tuple #[])∧Kept [b] vb wb ∧
 (∃xb,
 zab [b] Tryz.prog zbi #[.agg #[.pointer rb,.int .i64 sb]] wb (.pointer xb) ∧
 xb.isSome=true ∧
 (∃yb,
 zaa [b] wb xb (0+1) [.int .i64 yb] ∧
 (∃zb,
 ((yb != (-1))=true→zab [b] Tryz.prog zbi #[.agg #[.pointer rb,.int .i64 sb]] wb (.pointer zb)) ∧
 ((yb != (-1))=true→zb.isSome=true) ∧
 (∃ac,
 ((yb != (-1))=true→zaa [b] wb zb (0+1) [.int .i64 ac]) ∧
 (∃bc,
 ((yb != (-1))=true→zab [b] Tryz.prog zd4 #[.agg #[.pointer rb,.int .i64 sb],.int .i64 ac] wb (.bool bc)) ∧
 (((yb != (-1))&&(!bc))=true →
 (∀cc,ExtX [b] wb cc→(∀bq∈([b]:List Nat),bq<cc.heap.size) →
 Calls Tryz.prog zbx #[.agg #[.pointer rb,.int .i64 sb]] cc fun e4 dc =>
 e4 = .returned (.tuple #[])∧Kept [b] cc dc ∧
 InR .i64 (x4+1) ∧
 (∀ec,ExtX [b] dc ec→(∀bq∈([b]:List Nat),bq<ec.heap.size)→nb [.int .i64 (x4+1)] ec∧ob [.int .i64 (x4+1)] ec<ob [.int .i64 x4] qb))) ∧
 (((yb != (-1))&&(!bc))=false →
 InR .i64 (x4+1) ∧
 (∀fc,ExtX [b] wb fc→(∀bq∈([b]:List Nat),bq<fc.heap.size)→nb [.int .i64 (x4+1)] fc∧ob [.int .i64 (x4+1)] fc<ob [.int .i64 x4] qb)))))))))))) ∧
 ((decide (x4<(lb:Int)))=false →
 (∀gc,ExtX [] qb gc→R (.tuple #[]) gc))))))))))
theorem zp0 (wv):EfV (zpv wv) za9 #[.pointer wv]:=eV [] false [(1,⟨[(14,.int .i64)],[],[0,13],[],[]⟩),(6,⟨[(27,.int .i64)],[],[0,26],[],[]⟩),(10,⟨[(42,.int .i64)],[],[0,3,4,26,27,40,41],[],[]⟩),(17,⟨[(68,.int .i64)],[],[0,67],[],[]⟩)] Tryz.func51 (by kernel_rfl) (by kernel_rfl)
end Go.Proofs.YthhmnlcimojhlaaGreatDoor
namespace Go.Proofs.YthhmnlcimojhlaaGreatDoor
open Go.RowKit
set_option linter.unusedVariables false
set_option maxRecDepth 100000
set_option maxHeartbeats 1600000
def z3a (w0:Int) (ma:Option Addr) (na oa:Nat) (pa:Option Addr) (qa ra:Nat) (sa:Option Addr) (ta ua:Nat) (g c:Int) (w:World) (R:Value→World→Prop):Prop :=
 (∀b,w.heap.size≤b →
 (∃aa ba,
 zab [] Tryz.prog zg4 #[.agg #[.int .i64 w0,.slice ma na oa,.slice pa qa ra,.slice sa ta ua],.int .i64 g,.int .i64 c] w (.tuple #[.int .i64 aa,.bool ba]) ∧
 ((!ba)=true →
 R (.int .i64 (-1)) w) ∧
 ((!ba)=false →
 (∃(ca:List Value→Prop) (mu:List Value→Nat),ca [.int .i64 0] ∧
 ∀(t:Int),ca [.int .i64 t] →
 ((decide (t<(qa:Int)))=true →
 Ix pa qa t ∧
 (∃x0 x1 x2 x3 x4 x5 x6 x7 x8,
 zaa [] w pa (Int.toNat t*9) [.int .i64 x0,.int .i64 x1,.int .i64 x2,.int .i64 x3,.int .i64 x4,.int .i64 x5,.int .i64 x6,.int .i64 x7,.int .i64 x8] ∧
 (∀b1,w.heap.size≤b1 →
 (((((x0==1)&&(x1==g))&&(x2==c))&&(x5==aa))=true →
 R (.int .i64 t) w) ∧
 (((((x0==1)&&(x1==g))&&(x2==c))&&(x5==aa))=false →
 InR .i64 (t+1) ∧
 ca [.int .i64 (t+1)]∧mu [.int .i64 (t+1)]<mu [.int .i64 t])))) ∧
 ((decide (t<(qa:Int)))=false →
 (∃(da:List Value→Prop) (ea:List Value→Nat),da [.int .i64 1] ∧
 ∀(h:Int),da [.int .i64 h] →
 ((decide (h<(ta:Int)))=true →
 Ix sa ta h ∧
 (∃fa,
 zaa [] w sa (Int.toNat h*14+0) [.bool fa] ∧
 (fa=true→Ix sa ta h) ∧
 (∃ga,
 (fa=true→zaa [] w sa (Int.toNat h*14+1) [.int .i64 ga]) ∧
 (∃ha,
 ((fa&&(ga==g))=true→zab [] Tryz.prog zde #[.agg #[.int .i64 w0,.slice ma na oa,.slice pa qa ra,.slice sa ta ua],.int .i64 h,.int .i64 c] w (.bool ha)) ∧
 (((fa&&(ga==g))&&ha)=true→Ix sa ta h) ∧
 (∃ia ja ka,
 (((fa&&(ga==g))&&ha)=true→zaa [] w sa (Int.toNat h*14+13) [.slice ia ja ka]) ∧
 (((fa&&(ga==g))&&ha)=true→Ix ia ja c) ∧
 (∃v,
 (((fa&&(ga==g))&&ha)=true→zaa [] w ia (Int.toNat c*5+2) [.int .i64 v]) ∧
 ((((fa&&(ga==g))&&ha)&&(v==aa))=true →
 (∃la,
 zab [] Tryz.prog zfx #[.agg #[.int .i64 w0,.slice ma na oa,.slice pa qa ra,.slice sa ta ua],.int .i64 h,.int .i64 c] w (.int .i64 la) ∧
 R (.int .i64 la) w)) ∧
 ((((fa&&(ga==g))&&ha)&&(v==aa))=false →
 InR .i64 (h+1) ∧
 da [.int .i64 (h+1)]∧ea [.int .i64 (h+1)]<ea [.int .i64 h]))))))) ∧
 ((decide (h<(ta:Int)))=false →
 R (.int .i64 (-1)) w)))))))
theorem z5d (w0 w1O w1L w1C w2O w2L w2C w3O w3L w3C g c):PuV (z3a w0 w1O w1L w1C w2O w2L w2C w3O w3L w3C g c) zfx #[.agg #[.int .i64 w0,.slice w1O w1L w1C,.slice w2O w2L w2C,.slice w3O w3L w3C],.int .i64 g,.int .i64 c]:=pV [] false [(5,⟨[(9,.int .i64)],[],[1,2,3,7],[],[]⟩),(11,⟨[(11,.int .i64)],[],[1,2,3,7],[],[]⟩)] Tryz.func175 (by kernel_rfl) (by kernel_rfl)
def z3b (w0:Int) (ea:Option Addr) (fa ga:Nat) (ha:Option Addr) (ia ja:Nat) (ka:Option Addr) (la ma:Nat) (c:Int) (w:World) (R:Value→World→Prop):Prop :=
 (∀b,w.heap.size≤b →
 Ix ea fa c ∧
 (∃aa,
 zaa [] w ea (Int.toNat c*5+1) [.int .i64 aa] ∧
 ((decide (aa≥0))=true→Ix ea fa c) ∧
 (∃ba,
 ((decide (aa≥0))=true→zaa [] w ea (Int.toNat c*5+2) [.int .i64 ba]) ∧
 (((decide (aa≥0))&&(decide (ba<50)))=true →
 Ix ea fa c ∧
 (∃ca,
 zaa [] w ea (Int.toNat c*5+1) [.int .i64 ca] ∧
 R (.int .i64 ca) w)) ∧
 (((decide (aa≥0))&&(decide (ba<50)))=false →
 (∃da,
 zab [] Tryz.prog zfx #[.agg #[.int .i64 w0,.slice ea fa ga,.slice ha ia ja,.slice ka la ma],.int .i64 0,.int .i64 c] w (.int .i64 da) ∧
 R (.int .i64 da) w)))))
theorem z5e (w0 w1O w1L w1C w2O w2L w2C w3O w3L w3C c):PuV (z3b w0 w1O w1L w1C w2O w2L w2C w3O w3L w3C c) zll #[.agg #[.int .i64 w0,.slice w1O w1L w1C,.slice w2O w2L w2C,.slice w3O w3L w3C],.int .i64 c]:=pV [] false [] Tryz.func105 (by kernel_rfl) (by kernel_rfl)
def zv9 (w0:Int) (na:Option Addr) (oa pa:Nat) (qa:Option Addr) (ra sa:Nat) (ta:Option Addr) (ua va:Nat) (t:Int) (w:World) (R:Value→World→Prop):Prop :=
 (∀b,w.heap.size≤b →
 Ix qa ra t ∧
 (∃aa,
 zaa [] w qa (Int.toNat t*9+1) [.int .i64 aa] ∧
 (∀b1 wb,ExtX [] w wb→w.heap.size≤b1→wb.heap[b1]? = some (Obj.cells ([.int .i64 aa]:List Value).toArray ty_int (0,0))→b1∉([b]:List Nat) →
 (∃(ba:List Value→World→Prop) (mu:List Value→World→Nat),(∀wr,ExtX [b] wb wr→(∀bq∈([b]:List Nat),bq<wr.heap.size)→ba [.int .i64 aa,.slice (some (Addr.mk b1 0 none)) 1 1] wr) ∧
 ∀(g:Int) (ca:Option Addr) (da ea:Nat) wv,(∀bq∈([b]:List Nat),bq<wv.heap.size)→ba [.int .i64 g,.slice ca da ea] wv →
 ((g != 0)=true →
 Ix ta ua g ∧
 (∃fa,
 zaa [b] wv ta (Int.toNat g*14+1) [.int .i64 fa] ∧
 (∀b2,wv.heap.size≤b2 →
 (∀ga,ExtX [b] wv ga→(∀bq∈([b,b2]:List Nat),bq<ga.heap.size)→ga.heap[b2]? = some (Obj.cells ([.int .i64 fa]:List Value).toArray ty_int (0,0)) →
 (∃ha ia ja,
 ∃ka,(builtin .append #[zb5,zb5] zb5 #[false,false] #[.slice ca da ea,.slice (some (Addr.mk b2 0 none)) 1 1]).run Tryz.prog ga = .ok (.value (.slice ha ia ja)) ka∧Kept [b,b2] ga ka ∧
 (∀la,ExtX [b,b2] ka la→(∀bq∈([b,b2]:List Nat),bq<la.heap.size)→ba [.int .i64 fa,.slice ha ia ja] la∧mu [.int .i64 fa,.slice ha ia ja] la<mu [.int .i64 g,.slice ca da ea] wv)))))) ∧
 ((g != 0)=false →
 (∀ma,ExtX [b] wv ma→R (.slice ca da ea) ma))))))
theorem zwy (w0 w1O w1L w1C w2O w2L w2C w3O w3L w3C t):EfV (zv9 w0 w1O w1L w1C w2O w2L w2C w3O w3L w3C t) zi5 #[.agg #[.int .i64 w0,.slice w1O w1L w1C,.slice w2O w2L w2C,.slice w3O w3L w3C],.int .i64 t]:=eV [14] false [(3,⟨[(5,.int .i64),(6,.slice)],[],[2],[],[]⟩)] Tryz.func106 (by kernel_rfl) (by kernel_rfl)
def z3c (w0:Int) (zb:Option Addr) (ac bc:Nat) (cc:Option Addr) (dc ec:Nat) (fc:Option Addr) (gc hc:Nat) (ic:Option Addr) (jc kc:Nat) (c:Int) (w:World) (R:Value→World→Prop):Prop :=
 (∀b,w.heap.size≤b →
 (∀b1,w.heap.size≤b1 →
 (∃(aa:List Value→World→Prop) (ba:List Value→World→Nat),(∀ca,ExtX [] w ca→(∀bq∈([b,b1]:List Nat),bq<ca.heap.size)→aa [.int .i64 0,.int .i64 0,.slice none 0 0,.slice none 0 0,.slice none 0 0] ca) ∧
 ∀(i1 l:Int) (da:Option Addr) (ea fa:Nat) (ga:Option Addr) (ha ia:Nat) (ja:Option Addr) (ka la:Nat) ma,(∀bq∈([b,b1]:List Nat),bq<ma.heap.size)→aa [.int .i64 i1,.int .i64 l,.slice da ea fa,.slice ga ha ia,.slice ja ka la] ma →
 ((decide (i1<(jc:Int)))=true →
 Ix ic jc i1 ∧
 (∃na,
 zaa [b,b1] ma ic (Int.toNat i1*1) [.int .i64 na] ∧
 Ix fc gc na ∧
 (∃(oa:Bool) (pa:Int) (qa:ByteArray) (ra sa ta ua va wa xa ya:Int) (za:Option Addr) (ab bb:Nat) (cb:Option Addr) (db eb:Nat) (fb:Option Addr) (gb hb:Nat),
 zaa [b,b1] ma fc (Int.toNat na*14) [.bool oa,.int .i64 pa,.string qa,.int .i64 ra,.int .i64 sa,.int .i64 ta,.int .i64 ua,.int .i64 va,.int .i64 wa,.int .i64 xa,.int .i64 ya,.slice za ab bb,.slice cb db eb,.slice fb gb hb] ∧
 (∀b4,ma.heap.size≤b4 →
 zaa [b,b1] ma fc (Int.toNat na*14) [.bool oa,.int .i64 pa,.string qa,.int .i64 ra,.int .i64 sa,.int .i64 ta,.int .i64 ua,.int .i64 va,.int .i64 wa,.int .i64 xa,.int .i64 ya,.slice za ab bb,.slice cb db eb,.slice fb gb hb] ∧
 zaa [b,b1] ma ic (Int.toNat i1*1) [.int .i64 na] ∧
 (some (zak,([.int .i64 w0,.slice zb ac bc,.slice cc dc ec,.slice fc gc hc]:List Value))=some (zak,([.int .i64 w0,.slice zb ac bc,.slice cc dc ec,.slice fc gc hc]:List Value))) ∧
 ((wa==0)=true →
 InR .i64 (i1+1) ∧
 (∀ib,ExtX [b,b1] ma ib→(∀bq∈([b,b1,b4]:List Nat),bq<ib.heap.size)→aa [.int .i64 (i1+1),.int .i64 l,.slice da ea fa,.slice ga ha ia,.slice ja ka la] ib∧ba [.int .i64 (i1+1),.int .i64 l,.slice da ea fa,.slice ga ha ia,.slice ja ka la] ib<ba [.int .i64 i1,.int .i64 l,.slice da ea fa,.slice ga ha ia,.slice ja ka la] ma)) ∧
 ((wa==0)=false →
 (∀jb,ExtX [b,b1] ma jb→(∀bq∈([b,b1,b4]:List Nat),bq<jb.heap.size) →
 Calls Tryz.prog zek #[.agg #[.int .i64 wa,.int .i64 xa,.int .i64 ya,.slice za ab bb,.slice cb db eb],.agg #[.int .i64 1,.int .i64 c,.int .i64 0]] jb fun e1 kb =>
 (∃lb mb nb ob pb qb rb sb tb ub,
 e1 = .returned (.tuple #[.agg #[.int .i64 lb,.int .i64 mb,.int .i64 nb,.slice ob pb qb,.slice rb sb tb],.int .i64 ub])∧Kept [b,b1,b4] jb kb ∧
 (∀b5,kb.heap.size≤b5 →
 Ix ic jc i1 ∧
 (∃vb,
 zaa [b,b1,b4] kb ic (Int.toNat i1*1) [.int .i64 vb] ∧
 Ix fc gc vb ∧
 WrX [b,b1,b4] kb fc (Int.toNat vb*14+8) 5 ∧
 ((ub==2)=true →
 (∀wb,ExtX [b,b1,b4] (sto kb fc (Int.toNat vb*14+8) [.int .i64 lb,.int .i64 mb,.int .i64 nb,.slice ob pb qb,.slice rb sb tb]) wb→R (.tuple #[.agg #[.int .i64 w0,.slice zb ac bc,.slice cc dc ec,.slice fc gc hc],.bool false]) wb)) ∧
 ((ub==2)=false →
 InR .i64 (i1+1) ∧
 (∀xb,ExtX [b,b1,b4] (sto kb fc (Int.toNat vb*14+8) [.int .i64 lb,.int .i64 mb,.int .i64 nb,.slice ob pb qb,.slice rb sb tb]) xb→(∀bq∈([b,b1,b4,b5]:List Nat),bq<xb.heap.size)→aa [.int .i64 (i1+1),.int .i64 l,.slice da ea fa,.slice ga ha ia,.slice ja ka la] xb∧ba [.int .i64 (i1+1),.int .i64 l,.slice da ea fa,.slice ga ha ia,.slice ja ka la] xb<ba [.int .i64 i1,.int .i64 l,.slice da ea fa,.slice ga ha ia,.slice ja ka la] ma))))))))))) ∧
 ((decide (i1<(jc:Int)))=false →
 (∀yb,ExtX [b,b1] ma yb→R (.tuple #[.agg #[.int .i64 w0,.slice zb ac bc,.slice cc dc ec,.slice fc gc hc],.bool true]) yb)))))
theorem z3r (w0 w1O w1L w1C w2O w2L w2C w3O w3L w3C pathO pathL pathC c):EfV (z3c w0 w1O w1L w1C w2O w2L w2C w3O w3L w3C pathO pathL pathC c) zlm #[.agg #[.int .i64 w0,.slice w1O w1L w1C,.slice w2O w2L w2C,.slice w3O w3L w3C],.slice pathO pathL pathC,.int .i64 c]:=eV [] false [(2,⟨[(8,.int .i64)],[(1,[.int .i64,.slice,.slice,.slice])],[1,2,3,6],[],[]⟩)] Tryz.func107 (by kernel_rfl) (by kernel_rfl)
def z29 (w0:Int) (la:Option Addr) (ma na:Nat) (oa:Option Addr) (pa qa:Nat) (ra:Option Addr) (sa ta:Nat) (ua:Option Addr) (va wa:Nat) (c n:Int) (w:World) (R:Value→World→Prop):Prop :=
 (∀b,w.heap.size≤b →
 (∃(aa:List Value→Prop) (mu:List Value→Nat),aa [.int .i64 n,.int .i64 0] ∧
 ∀(n1 i:Int),aa [.int .i64 n1,.int .i64 i] →
 ((decide (i<(va:Int)))=true →
 Ix ua va i ∧
 (∃x,
 zaa [] w ua (Int.toNat i*1) [.int .i64 x] ∧
 Ix ra sa x ∧
 (∃ba ca da ea fa ga ha ia ja,
 zaa [] w ra (Int.toNat x*14+8) [.int .i64 ba,.int .i64 ca,.int .i64 da,.slice ea fa ga,.slice ha ia ja] ∧
 (∀b1,w.heap.size≤b1 →
 zaa [] w ra (Int.toNat x*14+8) [.int .i64 ba,.int .i64 ca,.int .i64 da,.slice ea fa ga,.slice ha ia ja] ∧
 zaa [] w ua (Int.toNat i*1) [.int .i64 x] ∧
 (some (zak,([.int .i64 w0,.slice la ma na,.slice oa pa qa,.slice ra sa ta]:List Value))=some (zak,([.int .i64 w0,.slice la ma na,.slice oa pa qa,.slice ra sa ta]:List Value))) ∧
 ((decide (ba>0))=true →
 Ix ea fa c ∧
 (∃x1,
 zaa [] w ea (Int.toNat c*1) [.int .i64 x1] ∧
 (∃ka,
 zab [] Tryz.prog zg1 #[.int .i64 n1,.int .i64 x1] w (.int .i64 ka) ∧
 InR .i64 (i+1) ∧
 aa [.int .i64 ka,.int .i64 (i+1)]∧mu [.int .i64 ka,.int .i64 (i+1)]<mu [.int .i64 n1,.int .i64 i]))) ∧
 ((decide (ba>0))=false →
 InR .i64 (i+1) ∧
 aa [.int .i64 n1,.int .i64 (i+1)]∧mu [.int .i64 n1,.int .i64 (i+1)]<mu [.int .i64 n1,.int .i64 i]))))) ∧
 ((decide (i<(va:Int)))=false →
 R (.int .i64 n1) w)))
theorem z5c (w0 w1O w1L w1C w2O w2L w2C w3O w3L w3C pathO pathL pathC c n):PuV (z29 w0 w1O w1L w1C w2O w2L w2C w3O w3L w3C pathO pathL pathC c n) zlk #[.agg #[.int .i64 w0,.slice w1O w1L w1C,.slice w2O w2L w2C,.slice w3O w3L w3C],.slice pathO pathL pathC,.int .i64 c,.int .i64 n]:=pV [] false [(2,⟨[(3,.int .i64),(9,.int .i64)],[],[1,2,4],[],[]⟩)] Tryz.func108 (by kernel_rfl) (by kernel_rfl)
def zv8 (w0:Int) (gd:Option Addr) (hd id:Nat) (jd:Option Addr) (kd ld:Nat) (md:Option Addr) (nd od:Nat) (t:Int) (pd:Option Addr) (qd rd:Nat) (c n:Int) (w:World) (R:Value→World→Prop):Prop :=
 (∀b,w.heap.size≤b →
 (∀b1,w.heap.size≤b1 →
 Ix jd kd t ∧
 (∃x0 x1 x2 x3 x4 x5 x6 x7 x8,
 zaa [] w jd (Int.toNat t*9) [.int .i64 x0,.int .i64 x1,.int .i64 x2,.int .i64 x3,.int .i64 x4,.int .i64 x5,.int .i64 x6,.int .i64 x7,.int .i64 x8] ∧
 (∀b2,w.heap.size≤b2 →
 (∃aa,
 zab [] Tryz.prog zdc #[.int .i64 x3] w (.int .i64 aa) ∧
 (∃ba,
 zab [] Tryz.prog zbw #[.int .i64 n,.int .i64 aa] w (.int .i64 ba) ∧
 InR .i64 (x5+ba) ∧
 InR .i64 (x6+n) ∧
 InR .i64 (x7+n) ∧
 Ix jd kd t ∧
 WrX [] w jd (Int.toNat t*9) 9 ∧
 (∃(ca:List Value→World→Prop) (mu:List Value→World→Nat),(∀wr,ExtX [] (sto w jd (Int.toNat t*9) [.int .i64 x0,.int .i64 x1,.int .i64 x2,.int .i64 x3,.int .i64 x4,.int .i64 (x5+ba),.int .i64 (x6+n),.int .i64 (x7+n),.int .i64 x8]) wr→(∀bq∈([b,b1,b2]:List Nat),bq<wr.heap.size)→ca [.int .i64 0] wr) ∧
 ∀(i:Int) wv,(∀bq∈([b,b1,b2]:List Nat),bq<wv.heap.size)→ca [.int .i64 i] wv →
 ((decide (i<(qd:Int)))=true →
 Ix pd qd i ∧
 (∃x,
 zaa [b,b1,b2] wv pd (Int.toNat i*1) [.int .i64 x] ∧
 Ix md nd x ∧
 (∃(da:Bool) (ea:Int) (fa:ByteArray) (ga ha ia ja ka la x9 ma:Int) (na:Option Addr) (oa pa:Nat) (qa:Option Addr) (ra sa:Nat) (ta:Option Addr) (ua va:Nat),
 zaa [b,b1,b2] wv md (Int.toNat x*14) [.bool da,.int .i64 ea,.string fa,.int .i64 ga,.int .i64 ha,.int .i64 ia,.int .i64 ja,.int .i64 ka,.int .i64 la,.int .i64 x9,.int .i64 ma,.slice na oa pa,.slice qa ra sa,.slice ta ua va] ∧
 (∀b3,wv.heap.size≤b3 →
 zaa [b,b1,b2] wv md (Int.toNat x*14) [.bool da,.int .i64 ea,.string fa,.int .i64 ga,.int .i64 ha,.int .i64 ia,.int .i64 ja,.int .i64 ka,.int .i64 la,.int .i64 x9,.int .i64 ma,.slice na oa pa,.slice qa ra sa,.slice ta ua va] ∧
 zaa [b,b1,b2] wv pd (Int.toNat i*1) [.int .i64 x] ∧
 (some (zak,([.int .i64 w0,.slice gd hd id,.slice jd kd ld,.slice md nd od]:List Value))=some (zak,([.int .i64 w0,.slice gd hd id,.slice jd kd ld,.slice md nd od]:List Value))) ∧
 Ix ta ua c ∧
 (∃wa xa ya za ab,
 zaa [b,b1,b2] wv ta (Int.toNat c*5) [.int .i64 wa,.bool xa,.int .i64 ya,.int .i64 za,.int .i64 ab] ∧
 (∀b4,wv.heap.size≤b4 →
 Ix pd qd i ∧
 (∃bb,
 zaa [b,b1,b2] wv pd (Int.toNat i*1) [.int .i64 bb] ∧
 ((bb != 0)=true →
 (∃cb,
 zab [b,b1,b2] Tryz.prog zbw #[.int .i64 n,.int .i64 za] wv (.int .i64 cb) ∧
 InR .i64 (ya+cb) ∧
 InR .i64 (ab+n) ∧
 Ix pd qd i ∧
 (∃db,
 zaa [b,b1,b2] wv pd (Int.toNat i*1) [.int .i64 db] ∧
 Ix md nd db ∧
 (∃eb fb gb,
 zaa [b,b1,b2] wv md (Int.toNat db*14+13) [.slice eb fb gb] ∧
 Ix eb fb c ∧
 WrX [b,b1,b2] wv eb (Int.toNat c*5) 5 ∧
 Ix pd qd i ∧
 (∃hb,
 zaa [b,b1,b2] (sto wv eb (Int.toNat c*5) [.int .i64 wa,.bool xa,.int .i64 (ya+cb),.int .i64 za,.int .i64 (ab+n)]) pd (Int.toNat i*1) [.int .i64 hb] ∧
 InR .i64 (ka+n) ∧
 Ix md nd hb ∧
 WrX [b,b1,b2] (sto wv eb (Int.toNat c*5) [.int .i64 wa,.bool xa,.int .i64 (ya+cb),.int .i64 za,.int .i64 (ab+n)]) md (Int.toNat hb*14+7) 1 ∧
 ((decide (la>0))=true →
 (∀ib,ExtX [b,b1,b2] (sto (sto wv eb (Int.toNat c*5) [.int .i64 wa,.bool xa,.int .i64 (ya+cb),.int .i64 za,.int .i64 (ab+n)]) md (Int.toNat hb*14+7) [.int .i64 (ka+n)]) ib→(∀bq∈([b,b1,b2,b3,b4]:List Nat),bq<ib.heap.size) →
 Calls Tryz.prog zek #[.agg #[.int .i64 la,.int .i64 x9,.int .i64 ma,.slice na oa pa,.slice qa ra sa],.agg #[.int .i64 2,.int .i64 c,.int .i64 n]] ib fun e jb =>
 (∃kb lb mb nb ob pb qb rb sb tb,
 e = .returned (.tuple #[.agg #[.int .i64 kb,.int .i64 lb,.int .i64 mb,.slice nb ob pb,.slice qb rb sb],.int .i64 tb])∧Kept [b,b1,b2,b3,b4] ib jb ∧
 (∀b5,jb.heap.size≤b5 →
 Ix pd qd i ∧
 (∃ub,
 zaa [b,b1,b2,b3,b4] jb pd (Int.toNat i*1) [.int .i64 ub] ∧
 Ix md nd ub ∧
 WrX [b,b1,b2,b3,b4] jb md (Int.toNat ub*14+8) 5 ∧
 InR .i64 (i+1) ∧
 (∀vb,ExtX [b,b1,b2,b3,b4] (sto jb md (Int.toNat ub*14+8) [.int .i64 kb,.int .i64 lb,.int .i64 mb,.slice nb ob pb,.slice qb rb sb]) vb→(∀bq∈([b,b1,b2,b3,b4,b5]:List Nat),bq<vb.heap.size)→ca [.int .i64 (i+1)] vb∧mu [.int .i64 (i+1)] vb<mu [.int .i64 i] wv)))))) ∧
 ((decide (la>0))=false →
 InR .i64 (i+1) ∧
 (∀wb,ExtX [b,b1,b2] (sto (sto wv eb (Int.toNat c*5) [.int .i64 wa,.bool xa,.int .i64 (ya+cb),.int .i64 za,.int .i64 (ab+n)]) md (Int.toNat hb*14+7) [.int .i64 (ka+n)]) wb→(∀bq∈([b,b1,b2,b3,b4]:List Nat),bq<wb.heap.size)→ca [.int .i64 (i+1)] wb∧mu [.int .i64 (i+1)] wb<mu [.int .i64 i] wv))))))) ∧
 ((bb != 0)=false →
 InR .i64 (ab+n) ∧
 Ix pd qd i ∧
 (∃xb,
 zaa [b,b1,b2] wv pd (Int.toNat i*1) [.int .i64 xb] ∧
 Ix md nd xb ∧
 (∃yb zb ac,
 zaa [b,b1,b2] wv md (Int.toNat xb*14+13) [.slice yb zb ac] ∧
 Ix yb zb c ∧
 WrX [b,b1,b2] wv yb (Int.toNat c*5) 5 ∧
 Ix pd qd i ∧
 (∃bc,
 zaa [b,b1,b2] (sto wv yb (Int.toNat c*5) [.int .i64 wa,.bool xa,.int .i64 ya,.int .i64 za,.int .i64 (ab+n)]) pd (Int.toNat i*1) [.int .i64 bc] ∧
 InR .i64 (ka+n) ∧
 Ix md nd bc ∧
 WrX [b,b1,b2] (sto wv yb (Int.toNat c*5) [.int .i64 wa,.bool xa,.int .i64 ya,.int .i64 za,.int .i64 (ab+n)]) md (Int.toNat bc*14+7) 1 ∧
 ((decide (la>0))=true →
 (∀cc,ExtX [b,b1,b2] (sto (sto wv yb (Int.toNat c*5) [.int .i64 wa,.bool xa,.int .i64 ya,.int .i64 za,.int .i64 (ab+n)]) md (Int.toNat bc*14+7) [.int .i64 (ka+n)]) cc→(∀bq∈([b,b1,b2,b3,b4]:List Nat),bq<cc.heap.size) →
 Calls Tryz.prog zek #[.agg #[.int .i64 la,.int .i64 x9,.int .i64 ma,.slice na oa pa,.slice qa ra sa],.agg #[.int .i64 2,.int .i64 c,.int .i64 n]] cc fun e1 dc =>
 (∃ec fc gc hc ic jc kc lc mc nc,
 e1 = .returned (.tuple #[.agg #[.int .i64 ec,.int .i64 fc,.int .i64 gc,.slice hc ic jc,.slice kc lc mc],.int .i64 nc])∧Kept [b,b1,b2,b3,b4] cc dc ∧
 (∀b6,dc.heap.size≤b6 →
 Ix pd qd i ∧
 (∃oc,
 zaa [b,b1,b2,b3,b4] dc pd (Int.toNat i*1) [.int .i64 oc] ∧
 Ix md nd oc ∧
 WrX [b,b1,b2,b3,b4] dc md (Int.toNat oc*14+8) 5 ∧
 InR .i64 (i+1) ∧
 (∀pc,ExtX [b,b1,b2,b3,b4] (sto dc md (Int.toNat oc*14+8) [.int .i64 ec,.int .i64 fc,.int .i64 gc,.slice hc ic jc,.slice kc lc mc]) pc→(∀bq∈([b,b1,b2,b3,b4,b6]:List Nat),bq<pc.heap.size)→ca [.int .i64 (i+1)] pc∧mu [.int .i64 (i+1)] pc<mu [.int .i64 i] wv)))))) ∧
 ((decide (la>0))=false →
 InR .i64 (i+1) ∧
 (∀qc,ExtX [b,b1,b2] (sto (sto wv yb (Int.toNat c*5) [.int .i64 wa,.bool xa,.int .i64 ya,.int .i64 za,.int .i64 (ab+n)]) md (Int.toNat bc*14+7) [.int .i64 (ka+n)]) qc→(∀bq∈([b,b1,b2,b3,b4]:List Nat),bq<qc.heap.size)→ca [.int .i64 (i+1)] qc∧mu [.int .i64 (i+1)] qc<mu [.int .i64 i] wv))))))))))))) ∧
 ((decide (i<(qd:Int)))=false →
 Ix gd hd c ∧
 (∃rc,
 zaa [b,b1,b2] wv gd (Int.toNat c*5+3) [.int .i64 rc] ∧
 InR .i64 (rc+n) ∧
 Ix gd hd c ∧
 WrX [b,b1,b2] wv gd (Int.toNat c*5+3) 1 ∧
 Ix gd hd c ∧
 (∃sc,
 zaa [b,b1,b2] (sto wv gd (Int.toNat c*5+3) [.int .i64 (rc+n)]) gd (Int.toNat c*5+2) [.int .i64 sc] ∧
 InR .i64 (sc+n) ∧
 Ix gd hd c ∧
 WrX [b,b1,b2] (sto wv gd (Int.toNat c*5+3) [.int .i64 (rc+n)]) gd (Int.toNat c*5+2) 1 ∧
 (∀tc,ExtX [b,b1,b2] (sto (sto wv gd (Int.toNat c*5+3) [.int .i64 (rc+n)]) gd (Int.toNat c*5+2) [.int .i64 (sc+n)]) tc→(∀bq∈([b,b1,b2]:List Nat),bq<tc.heap.size) →
 Calls Tryz.prog zee #[.agg #[.int .i64 w0,.slice gd hd id,.slice jd kd ld,.slice md nd od]] tc fun e2 uc =>
 (∃vc wc xc yc zc ad bd cd dd ed,
 e2 = .returned (.agg #[.int .i64 vc,.slice wc xc yc,.slice zc ad bd,.slice cd dd ed])∧Kept [b,b1,b2] tc uc ∧
 (∀fd,ExtX [b,b1,b2] uc fd→R (.agg #[.int .i64 vc,.slice wc xc yc,.slice zc ad bd,.slice cd dd ed]) fd)))))))))))))
theorem zwx (w0 w1O w1L w1C w2O w2L w2C w3O w3L w3C t pathO pathL pathC c n):EfV (zv8 w0 w1O w1L w1C w2O w2L w2C w3O w3L w3C t pathO pathL pathC c n) zi4 #[.agg #[.int .i64 w0,.slice w1O w1L w1C,.slice w2O w2L w2C,.slice w3O w3L w3C],.int .i64 t,.slice pathO pathL pathC,.int .i64 c,.int .i64 n]:=eV [] false [(7,⟨[(12,.int .i64)],[],[2,3,4,5,10],[],[]⟩)] Tryz.func109 (by kernel_rfl) (by kernel_rfl)
def zvx (w0:Int) (jf:Option Addr) (kf lf:Nat) (mf:Option Addr) (nf pf:Nat) (qf:Option Addr) (rf sf:Nat) (tf n:Int) (w:World) (R:Value→World→Prop):Prop :=
 (∀b,w.heap.size≤b →
 (∀b1,w.heap.size≤b1 →
 (∃aa,
 zab [] Tryz.prog zg0 #[.agg #[.int .i64 w0,.slice jf kf lf,.slice mf nf pf,.slice qf rf sf]] w (.bool aa) ∧
 ((!aa)=true →
 (∀wr,ExtX [] w wr→R (.tuple #[.agg #[.int .i64 0,.slice none 0 0,.slice none 0 0,.slice none 0 0],.int .i64 1]) wr)) ∧
 ((!aa)=false →
 (∀ba,ExtX [] w ba→(∀bq∈([b,b1]:List Nat),bq<ba.heap.size) →
 Calls Tryz.prog zmm #[.agg #[.int .i64 w0,.slice jf kf lf,.slice mf nf pf,.slice qf rf sf]] ba fun e wv =>
 (∃ca da ea fa ga ha ia ja ka la,
 e = .returned (.agg #[.int .i64 ca,.slice da ea fa,.slice ga ha ia,.slice ja ka la])∧Kept [b,b1] ba wv ∧
 (∃ma,
 zab [b,b1] Tryz.prog zan #[.int .i64 n,.int .i64 1,.int .i64 100] wv (.bool ma) ∧
 ((!ma)=false→InR .i64 ((ea:Int) - 1)) ∧
 (∃na,
 ((!ma)=false→zab [b,b1] Tryz.prog zan #[.int .i64 tf,.int .i64 0,.int .i64 ((ea:Int) - 1)] wv (.bool na)) ∧
 (((!ma)||(!na))=true →
 (∀oa,ExtX [b,b1] wv oa→R (.tuple #[.agg #[.int .i64 ca,.slice da ea fa,.slice ga ha ia,.slice ja ka la],.int .i64 1]) oa)) ∧
 (((!ma)||(!na))=false →
 Ix da ea tf ∧
 (∃up,
 zaa [b,b1] wv da (Int.toNat tf*5+0) [.bool up] ∧
 ((!up)=true →
 (∀pa,ExtX [b,b1] wv pa→R (.tuple #[.agg #[.int .i64 ca,.slice da ea fa,.slice ga ha ia,.slice ja ka la],.int .i64 6]) pa)) ∧
 ((!up)=false →
 (∃qa,
 zab [b,b1] Tryz.prog zht #[.agg #[.int .i64 ca,.slice da ea fa,.slice ga ha ia,.slice ja ka la]] wv (.bool qa) ∧
 ((!qa)=true →
 (∀ra,ExtX [b,b1] wv ra→R (.tuple #[.agg #[.int .i64 ca,.slice da ea fa,.slice ga ha ia,.slice ja ka la],.int .i64 10]) ra)) ∧
 ((!qa)=false →
 (∃(sa:List Value→List Nat→World→Prop),
 ((∃(ta:List Value→World→Prop) (ua:List Value→World→Nat),(∀va,ExtX [b,b1] wv va→(∀bq∈([b,b1]:List Nat),bq<va.heap.size)→ta [.int .i64 n,.int .i64 ca,.slice da ea fa,.slice ga ha ia,.slice ja ka la] va) ∧
 ∀(wa l:Int) (xa:Option Addr) (ya za:Nat) (ab:Option Addr) (bb cb:Nat) (db:Option Addr) (eb fb:Nat) gb,(∀bq∈([b,b1]:List Nat),bq<gb.heap.size)→ta [.int .i64 wa,.int .i64 l,.slice xa ya za,.slice ab bb cb,.slice db eb fb] gb →
 ((decide (wa>0))=true →
 (∃hb,
 zab [b,b1] Tryz.prog zll #[.agg #[.int .i64 l,.slice xa ya za,.slice ab bb cb,.slice db eb fb],.int .i64 tf] gb (.int .i64 hb) ∧
 ((decide (hb<0))=true →
 Ix xa ya tf ∧
 (∃ib,
 zaa [b,b1] gb xa (Int.toNat tf*5+4) [.int .i64 ib] ∧
 InR .i64 (ib+wa) ∧
 Ix xa ya tf ∧
 WrX [b,b1] gb xa (Int.toNat tf*5+4) 1 ∧
 (∀jb,ExtX [b,b1] (sto gb xa (Int.toNat tf*5+4) [.int .i64 (ib+wa)]) jb→(∀bq∈([b,b1]:List Nat),bq<jb.heap.size) →
 Calls Tryz.prog zg3 #[.agg #[.int .i64 l,.slice xa ya za,.slice ab bb cb,.slice db eb fb],.int .i64 tf] jb fun e2 kb =>
 (∃lb mb nb ob pb qb rb sb tb ub,
 e2 = .returned (.agg #[.int .i64 lb,.slice mb nb ob,.slice pb qb rb,.slice sb tb ub])∧Kept [b,b1] jb kb ∧
 (∀vb,ExtX [b,b1] kb vb→(∀bq∈([b,b1]:List Nat),bq<vb.heap.size)→sa [.int .i64 lb,.slice mb nb ob,.slice pb qb rb,.slice sb tb ub] [] vb))))) ∧
 ((decide (hb<0))=false →
 (∃(wb:List Value→List Nat→World→Prop),
 (Ix xa ya tf ∧
 (∃xb,
 zaa [b,b1] gb xa (Int.toNat tf*5+1) [.int .i64 xb] ∧
 ((hb != xb)=false→Ix xa ya tf) ∧
 (∃yb,
 ((hb != xb)=false→zaa [b,b1] gb xa (Int.toNat tf*5+2) [.int .i64 yb]) ∧
 (((hb != xb)||(decide (yb≥50)))=true →
 Ix xa ya tf ∧
 WrX [b,b1] gb xa (Int.toNat tf*5+1) 1 ∧
 Ix xa ya tf ∧
 WrX [b,b1] (sto gb xa (Int.toNat tf*5+1) [.int .i64 hb]) xa (Int.toNat tf*5+2) 1 ∧
 (∀zb,ExtX [b,b1] (sto (sto gb xa (Int.toNat tf*5+1) [.int .i64 hb]) xa (Int.toNat tf*5+2) [.int .i64 0]) zb→(∀bq∈([b,b1]:List Nat),bq<zb.heap.size)→wb [] [] zb)) ∧
 (((hb != xb)||(decide (yb≥50)))=false →
 (∀ac,ExtX [b,b1] gb ac→(∀bq∈([b,b1]:List Nat),bq<ac.heap.size)→wb [] [] ac))))) ∧
 (∀(bc:World),(∀bq∈([b,b1]:List Nat),bq<bc.heap.size)→wb [] [] bc →
 (∀cc,ExtX [b,b1] bc cc→(∀bq∈([b,b1]:List Nat),bq<cc.heap.size) →
 Calls Tryz.prog zi5 #[.agg #[.int .i64 l,.slice xa ya za,.slice ab bb cb,.slice db eb fb],.int .i64 hb] cc fun e3 dc =>
 (∃ec fc gc,
 e3 = .returned (.slice ec fc gc)∧Kept [b,b1] cc dc ∧
 (∀hc,ExtX [b,b1] dc hc→(∀bq∈([b,b1]:List Nat),bq<hc.heap.size) →
 Calls Tryz.prog zlm #[.agg #[.int .i64 l,.slice xa ya za,.slice ab bb cb,.slice db eb fb],.slice ec fc gc,.int .i64 tf] hc fun e4 ic =>
 (∃jc kc lc mc nc oc pc qc rc sc tc,
 e4 = .returned (.tuple #[.agg #[.int .i64 jc,.slice kc lc mc,.slice nc oc pc,.slice qc rc sc],.bool tc])∧Kept [b,b1] hc ic ∧
 ((!tc)=true →
 (∀uc,ExtX [b,b1] ic uc→(∀bq∈([b,b1]:List Nat),bq<uc.heap.size) →
 Calls Tryz.prog zg3 #[.agg #[.int .i64 jc,.slice kc lc mc,.slice nc oc pc,.slice qc rc sc],.int .i64 tf] uc fun e5 vc =>
 (∃wc xc yc zc ad bd cd dd ed fd,
 e5 = .returned (.agg #[.int .i64 wc,.slice xc yc zc,.slice ad bd cd,.slice dd ed fd])∧Kept [b,b1] uc vc ∧
 (∀gd,ExtX [b,b1] vc gd→(∀bq∈([b,b1]:List Nat),bq<gd.heap.size) →
 Calls Tryz.prog zee #[.agg #[.int .i64 wc,.slice xc yc zc,.slice ad bd cd,.slice dd ed fd]] gd fun e6 hd =>
 (∃id jd kd ld md nd od pd qd rd,
 e6 = .returned (.agg #[.int .i64 id,.slice jd kd ld,.slice md nd od,.slice pd qd rd])∧Kept [b,b1] gd hd ∧
 (∀sd,ExtX [b,b1] hd sd→(∀bq∈([b,b1]:List Nat),bq<sd.heap.size)→ta [.int .i64 wa,.int .i64 id,.slice jd kd ld,.slice md nd od,.slice pd qd rd] sd∧ua [.int .i64 wa,.int .i64 id,.slice jd kd ld,.slice md nd od,.slice pd qd rd] sd<ua [.int .i64 wa,.int .i64 l,.slice xa ya za,.slice ab bb cb,.slice db eb fb] gb)))))) ∧
 ((!tc)=false →
 (∃td,
 zab [b,b1] Tryz.prog zlk #[.agg #[.int .i64 jc,.slice kc lc mc,.slice nc oc pc,.slice qc rc sc],.slice ec fc gc,.int .i64 tf,.int .i64 wa] ic (.int .i64 td) ∧
 (∀ud,ExtX [b,b1] ic ud→(∀bq∈([b,b1]:List Nat),bq<ud.heap.size) →
 Calls Tryz.prog zi4 #[.agg #[.int .i64 jc,.slice kc lc mc,.slice nc oc pc,.slice qc rc sc],.int .i64 hb,.slice ec fc gc,.int .i64 tf,.int .i64 td] ud fun e7 vd =>
 (∃wd xd yd zd ae be ce de ee fe,
 e7 = .returned (.agg #[.int .i64 wd,.slice xd yd zd,.slice ae be ce,.slice de ee fe])∧Kept [b,b1] ud vd ∧
 InR .i64 (wa - td) ∧
 (∀he,ExtX [b,b1] vd he→(∀bq∈([b,b1]:List Nat),bq<he.heap.size)→ta [.int .i64 (wa - td),.int .i64 wd,.slice xd yd zd,.slice ae be ce,.slice de ee fe] he∧ua [.int .i64 (wa - td),.int .i64 wd,.slice xd yd zd,.slice ae be ce,.slice de ee fe] he<ua [.int .i64 wa,.int .i64 l,.slice xa ya za,.slice ab bb cb,.slice db eb fb] gb)))))))))))))) ∧
 ((decide (wa>0))=false →
 (∀ie,ExtX [b,b1] gb ie→(∀bq∈([b,b1]:List Nat),bq<ie.heap.size)→sa [.int .i64 l,.slice xa ya za,.slice ab bb cb,.slice db eb fb] [] ie)))) ∧
 (∀(l4:Int) (je:Option Addr) (ke me:Nat) (oe:Option Addr) (pe qe:Nat) (re:Option Addr) (se te:Nat) (ue:World),(∀bq∈([b,b1]:List Nat),bq<ue.heap.size)→sa [.int .i64 l4,.slice je ke me,.slice oe pe qe,.slice re se te] [] ue →
 (∀ve,ExtX [b,b1] ue ve→(∀bq∈([b,b1]:List Nat),bq<ve.heap.size) →
 Calls Tryz.prog zee #[.agg #[.int .i64 l4,.slice je ke me,.slice oe pe qe,.slice re se te]] ve fun e8 we =>
 (∃xe ye ze af bf cf df ef ff gf,
 e8 = .returned (.agg #[.int .i64 xe,.slice ye ze af,.slice bf cf df,.slice ef ff gf])∧Kept [b,b1] ve we ∧
 (∀hf,ExtX [b,b1] we hf→R (.tuple #[.agg #[.int .i64 xe,.slice ye ze af,.slice bf cf df,.slice ef ff gf],.int .i64 0]) hf))))))))))))))))))
theorem zwu (w0 w1O w1L w1C w2O w2L w2C w3O w3L w3C cpu n):EfV (zvx w0 w1O w1L w1C w2O w2L w2C w3O w3L w3C cpu n) zi0 #[.agg #[.int .i64 w0,.slice w1O w1L w1C,.slice w2O w2L w2C,.slice w3O w3L w3C],.int .i64 cpu,.int .i64 n]:=eV [] false [(1000027,⟨[],[(0,[.int .i64,.slice,.slice,.slice])],[3,6],[],[]⟩),(11,⟨[(8,.int .i64)],[(0,[.int .i64,.slice,.slice,.slice])],[1,3,6],[],[]⟩),(1000019,⟨[],[],[1,3,6,8,9],[],[]⟩)] Tryz.func31 (by kernel_rfl) (by kernel_rfl)
def zvk (w0:Int) (oa:Option Addr) (pa qa:Nat) (ra:Option Addr) (sa ta:Nat) (ua:Option Addr) (va wa:Nat) (xa n:Int) (ya:Fn) (za:Array Value) (ab:Array Value) (w:World) (R:Value→World→Prop):Prop :=
 (∀b,w.heap.size≤b →
 (∀b1 wb,ExtX [] w wb→w.heap.size≤b1→wb.heap[b1]? = some (Obj.cells ([.int .i64 xa]:List Value).toArray ty_int (0,0))→b1∉([b]:List Nat) →
 (∀b2 aa,ExtX [b] wb aa→wb.heap.size≤b2→aa.heap[b2]? = some (Obj.cells ([.int .i64 n]:List Value).toArray ty_int (0,0))→b2∉([b]:List Nat) →
 (∀b3 ba,ExtX [b] aa ba→aa.heap.size≤b3→ba.heap[b3]? = some (Obj.cells ([.func ya za ab]:List Value).toArray 71 (0,0))→b3∉([b]:List Nat) →
 (∀b4,ba.heap.size≤b4 →
 (∀wr,ExtX [b] ba wr→(∀bq∈([b,b4]:List Nat),bq<wr.heap.size) →
 Calls Tryz.prog zgq #[.agg #[.int .i64 w0,.slice oa pa qa,.slice ra sa ta,.slice ua va wa],.func (.func zer) #[] #[.pointer ((some (Addr.mk b2 0 none)).map (·.add 0)),.pointer ((some (Addr.mk b1 0 none)).map (·.add 0)),.pointer ((some (Addr.mk b3 0 none)).map (·.add 0))]] wr fun e wv =>
 (∃ca da ea fa ga ha ia ja ka la ma,
 e = .returned (.tuple #[.agg #[.int .i64 ca,.slice da ea fa,.slice ga ha ia,.slice ja ka la],.int .i64 ma])∧Kept [b,b4] wr wv ∧
 (∀na,ExtX [b,b4] wv na→R (.tuple #[.agg #[.int .i64 ca,.slice da ea fa,.slice ga ha ia,.slice ja ka la],.int .i64 ma]) na))))))))
theorem zwo (w0 w1O w1L w1C w2O w2L w2C w3O w3L w3C cpu n toldF toldA toldK):EfV (zvk w0 w1O w1L w1C w2O w2L w2C w3O w3L w3C cpu n toldF toldA toldK) zio #[.agg #[.int .i64 w0,.slice w1O w1L w1C,.slice w2O w2L w2C,.slice w3O w3L w3C],.int .i64 cpu,.int .i64 n,.func toldF toldA toldK]:=eV [5,6,7] false [] Tryz.func110 (by kernel_rfl) (by kernel_rfl)
def zrw (x x1:Int) (w:World) (R:Value→World→Prop):Prop :=
 R (.tuple #[]) w
theorem zsl (x x1):PuV (zrw x x1) zdh #[.int .i64 x,.int .i64 x1]:=pV [] false [] Tryz.func111 (by kernel_rfl) (by kernel_rfl)
def zvc (w0:Int) (ma:Option Addr) (na oa:Nat) (pa:Option Addr) (qa ra:Nat) (sa:Option Addr) (ta ua:Nat) (va n:Int) (w:World) (R:Value→World→Prop):Prop :=
 (∀b,w.heap.size≤b →
 (∀b1,w.heap.size≤b1 →
 (∀wr,ExtX [] w wr→(∀bq∈([b,b1]:List Nat),bq<wr.heap.size) →
 Calls Tryz.prog zio #[.agg #[.int .i64 w0,.slice ma na oa,.slice pa qa ra,.slice sa ta ua],.int .i64 va,.int .i64 n,.func (.func zdh) #[] #[]] wr fun e wv =>
 (∃aa ba ca da ea fa ga ha ia ja ka,
 e = .returned (.tuple #[.agg #[.int .i64 aa,.slice ba ca da,.slice ea fa ga,.slice ha ia ja],.int .i64 ka])∧Kept [b,b1] wr wv ∧
 (∀la,ExtX [b,b1] wv la→R (.tuple #[.agg #[.int .i64 aa,.slice ba ca da,.slice ea fa ga,.slice ha ia ja],.int .i64 ka]) la)))))
theorem zwl (w0 w1O w1L w1C w2O w2L w2C w3O w3L w3C cpu n):EfV (zvc w0 w1O w1L w1C w2O w2L w2C w3O w3L w3C cpu n) zf1 #[.agg #[.int .i64 w0,.slice w1O w1L w1C,.slice w2O w2L w2C,.slice w3O w3L w3C],.int .i64 cpu,.int .i64 n]:=eV [] false [] Tryz.func32 (by kernel_rfl) (by kernel_rfl)
def zm8 (ee:Int) (fe:Option Addr) (he ie:Nat) (je:Option Addr) (ke me:Nat) (oe:Option Addr) (pe qe:Nat) (re aN:Int) (w:World) (R:Value→World→Prop):Prop :=
 (∀b,w.heap.size≤b →
 (∃aa,
 zab [] Tryz.prog zjw #[.agg #[.int .i64 ee,.slice fe he ie,.slice je ke me,.slice oe pe qe],.int .i64 1048576] w (.int .i64 aa) ∧
 ((decide (aa<0))=true →
 (∀wr,ExtX [] w wr→R (.bool true) wr)) ∧
 ((decide (aa<0))=false →
 (∀ba,ExtX [] w ba→(∀bq∈([b]:List Nat),bq<ba.heap.size) →
 Calls Tryz.prog zc0 #[.agg #[.int .i64 ee,.slice fe he ie,.slice je ke me,.slice oe pe qe]] ba fun e wv =>
 (∃ca da ea fa ga ha ia ja ka la,
 e = .returned (.agg #[.int .i64 ca,.slice da ea fa,.slice ga ha ia,.slice ja ka la])∧Kept [b] ba wv ∧
 (∀ma,ExtX [b] wv ma→(∀bq∈([b]:List Nat),bq<ma.heap.size) →
 Calls Tryz.prog zi0 #[.agg #[.int .i64 ca,.slice da ea fa,.slice ga ha ia,.slice ja ka la],.int .i64 re,.int .i64 aN] ma fun e1 na =>
 (∃oa pa qa ra sa ta ua va wa xa ya,
 e1 = .returned (.tuple #[.agg #[.int .i64 oa,.slice pa qa ra,.slice sa ta ua,.slice va wa xa],.int .i64 ya])∧Kept [b] ma na ∧
 (∀b1,na.heap.size≤b1 →
 (∀za,ExtX [b] na za→(∀bq∈([b,b1]:List Nat),bq<za.heap.size) →
 Calls Tryz.prog zc0 #[.agg #[.int .i64 ee,.slice fe he ie,.slice je ke me,.slice oe pe qe]] za fun e2 ab =>
 (∃bb cb db eb fb gb hb ib jb kb,
 e2 = .returned (.agg #[.int .i64 bb,.slice cb db eb,.slice fb gb hb,.slice ib jb kb])∧Kept [b,b1] za ab ∧
 (∀b2,ab.heap.size≤b2 →
 (∀lb,ExtX [b,b1] ab lb→(∀bq∈([b,b1,b2]:List Nat),bq<lb.heap.size) →
 Calls Tryz.prog zf1 #[.agg #[.int .i64 bb,.slice cb db eb,.slice fb gb hb,.slice ib jb kb],.int .i64 re,.int .i64 aN] lb fun e3 mb =>
 (∃nb ob pb qb rb sb tb ub vb wb xb,
 e3 = .returned (.tuple #[.agg #[.int .i64 nb,.slice ob pb qb,.slice rb sb tb,.slice ub vb wb],.int .i64 xb])∧Kept [b,b1,b2] lb mb ∧
 (∀b3,mb.heap.size≤b3 →
 (∃yb,
 zab [b,b1,b2] Tryz.prog zcz #[.agg #[.int .i64 nb,.slice ob pb qb,.slice rb sb tb,.slice ub vb wb],.agg #[.int .i64 oa,.slice pa qa ra,.slice sa ta ua,.slice va wa xa]] mb (.bool yb) ∧
 (((!yb)||(xb != ya))=true →
 (∀zb,ExtX [b,b1,b2] mb zb→R (.bool false) zb)) ∧
 (((!yb)||(xb != ya))=false →
 (∀ac,ExtX [b,b1,b2] mb ac→(∀bq∈([b,b1,b2,b3]:List Nat),bq<ac.heap.size) →
 Calls Tryz.prog zc0 #[.agg #[.int .i64 ee,.slice fe he ie,.slice je ke me,.slice oe pe qe]] ac fun e4 bc =>
 (∃cc dc ec fc gc hc ic jc kc lc,
 e4 = .returned (.agg #[.int .i64 cc,.slice dc ec fc,.slice gc hc ic,.slice jc kc lc])∧Kept [b,b1,b2,b3] ac bc ∧
 (some (zak,([.int .i64 bb,.slice cb db eb,.slice fb gb hb,.slice ib jb kb]:List Value))=some (zak,([.int .i64 bb,.slice cb db eb,.slice fb gb hb,.slice ib jb kb]:List Value))) ∧
 (∃mc,
 zab [b,b1,b2,b3] Tryz.prog zcz #[.agg #[.int .i64 bb,.slice cb db eb,.slice fb gb hb,.slice ib jb kb],.agg #[.int .i64 cc,.slice dc ec fc,.slice gc hc ic,.slice jc kc lc]] bc (.bool mc) ∧
 ((!mc)=true →
 (∀nc,ExtX [b,b1,b2,b3] bc nc→R (.bool false) nc)) ∧
 ((!mc)=false →
 (∀oc,ExtX [b,b1,b2,b3] bc oc→(∀bq∈([b,b1,b2,b3]:List Nat),bq<oc.heap.size) →
 Calls Tryz.prog zfh #[.agg #[.int .i64 bb,.slice cb db eb,.slice fb gb hb,.slice ib jb kb],.int .i64 1] oc fun e5 pc =>
 (∃qc,
 e5 = .returned (.int .i64 qc)∧Kept [b,b1,b2,b3] oc pc ∧
 (∃rc,
 ((decide (qc<0))=false→zab [b,b1,b2,b3] Tryz.prog zcz #[.agg #[.int .i64 nb,.slice ob pb qb,.slice rb sb tb,.slice ub vb wb],.agg #[.int .i64 oa,.slice pa qa ra,.slice sa ta ua,.slice va wa xa]] pc (.bool rc)) ∧
 ((((decide (qc<0))||(!rc))||(xb != ya))=true →
 (∀sc,ExtX [b,b1,b2,b3] pc sc→R (.bool false) sc)) ∧
 ((((decide (qc<0))||(!rc))||(xb != ya))=false →
 (∀tc,ExtX [b,b1,b2,b3] pc tc→(∀bq∈([b,b1,b2,b3]:List Nat),bq<tc.heap.size) →
 Calls Tryz.prog zfh #[.agg #[.int .i64 nb,.slice ob pb qb,.slice rb sb tb,.slice ub vb wb],.int .i64 1] tc fun e6 uc =>
 (∃vc,
 e6 = .returned (.int .i64 vc)∧Kept [b,b1,b2,b3] tc uc ∧
 (∃wc,
 zab [b,b1,b2,b3] Tryz.prog zfg #[.agg #[.int .i64 nb,.slice ob pb qb,.slice rb sb tb,.slice ub vb wb],.int .i64 1] uc (.int .i64 wc) ∧
 ((decide (wc<0))=true →
 (∀xc,ExtX [b,b1,b2,b3] uc xc→R (.bool false) xc)) ∧
 ((decide (wc<0))=false →
 ((wc != vc)=true →
 (∀yc,ExtX [b,b1,b2,b3] uc yc→R (.bool false) yc)) ∧
 ((wc != vc)=false →
 (∀zc,ExtX [b,b1,b2,b3] uc zc→(∀bq∈([b,b1,b2,b3]:List Nat),bq<zc.heap.size) →
 Calls Tryz.prog zc0 #[.agg #[.int .i64 ee,.slice fe he ie,.slice je ke me,.slice oe pe qe]] zc fun e7 ad =>
 (∃bd cd dd ed fd gd hd id jd kd,
 e7 = .returned (.agg #[.int .i64 bd,.slice cd dd ed,.slice fd gd hd,.slice id jd kd])∧Kept [b,b1,b2,b3] zc ad ∧
 (∀ld,ExtX [b,b1,b2,b3] ad ld→(∀bq∈([b,b1,b2,b3]:List Nat),bq<ld.heap.size) →
 Calls Tryz.prog zf1 #[.agg #[.int .i64 bd,.slice cd dd ed,.slice fd gd hd,.slice id jd kd],.int .i64 re,.int .i64 aN] ld fun e8 md =>
 (∃nd od pd qd rd sd td ud vd wd xd,
 e8 = .returned (.tuple #[.agg #[.int .i64 nd,.slice od pd qd,.slice rd sd td,.slice ud vd wd],.int .i64 xd])∧Kept [b,b1,b2,b3] ld md ∧
 (∀b4,md.heap.size≤b4 →
 (∃yd,
 zab [b,b1,b2,b3] Tryz.prog zcz #[.agg #[.int .i64 nd,.slice od pd qd,.slice rd sd td,.slice ud vd wd],.agg #[.int .i64 oa,.slice pa qa ra,.slice sa ta ua,.slice va wa xa]] md (.bool yd) ∧
 (((!yd)||(xd != ya))=true →
 (∀zd,ExtX [b,b1,b2,b3] md zd→R (.bool false) zd)) ∧
 (((!yd)||(xd != ya))=false →
 (∃ae,
 zab [b,b1,b2,b3] Tryz.prog zfg #[.agg #[.int .i64 nb,.slice ob pb qb,.slice rb sb tb,.slice ub vb wb],.int .i64 1] md (.int .i64 ae) ∧
 ((decide (ae<0))=true →
 (∀be,ExtX [b,b1,b2,b3] md be→R (.bool false) be)) ∧
 ((decide (ae<0))=false →
 ((ae != vc)=true →
 (∀ce,ExtX [b,b1,b2,b3] md ce→R (.bool false) ce)) ∧
 ((ae != vc)=false →
 (∀de,ExtX [b,b1,b2,b3] md de→R (.bool true) de))))))))))))))))))))))))))))))))))))))))
theorem zm9 (aW0 aW1O aW1L aW1C aW2O aW2L aW2C aW3O aW3L aW3C aCpu aN):EfV (zm8 aW0 aW1O aW1L aW1C aW2O aW2L aW2C aW3O aW3L aW3C aCpu aN) zgu #[.agg #[.int .i64 aW0,.slice aW1O aW1L aW1C,.slice aW2O aW2L aW2C,.slice aW3O aW3L aW3C],.int .i64 aCpu,.int .i64 aN]:=eV [] false [] Tryz.func10 (by kernel_rfl) (by kernel_rfl)
def z5r (ba:Option Addr) (ca da:Nat) (w:World) (R:Value→World→Prop):Prop :=
 (∃(aa:List Value→Prop) (mu:List Value→Nat),aa [.int .i64 0] ∧
 ∀(x:Int),aa [.int .i64 x] →
 ((decide (x<(ca:Int)))=true →
 Ix ba ca x ∧
 (∃x1,
 zaa [] w ba (Int.toNat x*1) [.int .i64 x1] ∧
 ((decide (x1>50000000000000000))=true →
 R (.bool false) w) ∧
 ((decide (x1>50000000000000000))=false →
 InR .i64 (x+1) ∧
 aa [.int .i64 (x+1)]∧mu [.int .i64 (x+1)]<mu [.int .i64 x]))) ∧
 ((decide (x<(ca:Int)))=false →
 R (.bool true) w))
theorem z68 (timesO timesL timesC):PuV (z5r timesO timesL timesC) zbu #[.slice timesO timesL timesC]:=pV [] false [(2,⟨[(7,.int .i64)],[],[5,6],[],[]⟩)] Tryz.func129 (by kernel_rfl) (by kernel_rfl)
end Go.Proofs.YthhmnlcimojhlaaGreatDoor
namespace Go.Proofs.YthhmnlcimojhlaaGreatDoor
open Go.RowKit
set_option linter.unusedVariables false
set_option maxRecDepth 100000
set_option maxHeartbeats 1600000
def zrz (wv:Option Addr) (w:World) (R:Value→World→Prop):Prop :=
 wv.isSome=true ∧
 (∃aa,
 zaa [] w wv (0+0) [.int .i64 aa] ∧
 (∀b,w.heap.size≤b →
 (∃ba,
 (∀wx,ExtX [] w wx→wx.heap[b]? = some (Obj.cells ([.int .i64 aa]:List Value).toArray ty_int (0,0))→zab [] Tryz.prog zbu #[.slice (some (Addr.mk b 0 none)) 1 1] wx (.bool ba)) ∧
 wv.isSome=true ∧
 (∃ca da ea,
 zaa [] w wv (0+1) [.slice ca da ea] ∧
 (∃(fa:List Value→Prop) (mu:List Value→Nat),fa [.bool ba,.int .i64 0] ∧
 ∀(ok:Bool) (x:Int),fa [.bool ok,.int .i64 x] →
 ((decide (x<(da:Int)))=true →
 Ix ca da x ∧
 (∃x0 x1 x2 x3 x4,
 zaa [] w ca (Int.toNat x*5) [.bool x0,.int .i64 x1,.int .i64 x2,.int .i64 x3,.int .i64 x4] ∧
 (∀b1,w.heap.size≤b1 →
 (ok=true→(∀b2,w.heap.size≤b2 →
 (∃ga,
 (ok=true→(∀ha,ExtX [] w ha→ha.heap[b2]? = some (Obj.cells ([.int .i64 x3,.int .i64 x4]:List Value).toArray ty_int (0,0))→zab [] Tryz.prog zbu #[.slice (some (Addr.mk b2 0 none)) 2 2] ha (.bool ga))) ∧
 InR .i64 (x+1) ∧
 fa [.bool (ok&&ga),.int .i64 (x+1)]∧mu [.bool (ok&&ga),.int .i64 (x+1)]<mu [.bool ok,.int .i64 x]))) ∧
 ((ok=true→False) →
 InR .i64 (x+1) ∧
 fa [.bool false,.int .i64 (x+1)]∧mu [.bool false,.int .i64 (x+1)]<mu [.bool ok,.int .i64 x])))) ∧
 ((decide (x<(da:Int)))=false →
 wv.isSome=true ∧
 (∃ia ja ka,
 zaa [] w wv (0+2) [.slice ia ja ka] ∧
 (∃(la:List Value→Prop) (ma:List Value→Nat),la [.bool ok,.int .i64 0] ∧
 ∀(na:Bool) (x5:Int),la [.bool na,.int .i64 x5] →
 ((decide (x5<(ja:Int)))=true →
 Ix ia ja x5 ∧
 (∃oa pa qa ra sa ta x6 x7 x8,
 zaa [] w ia (Int.toNat x5*9) [.int .i64 oa,.int .i64 pa,.int .i64 qa,.int .i64 ra,.int .i64 sa,.int .i64 ta,.int .i64 x6,.int .i64 x7,.int .i64 x8] ∧
 (∀b3,w.heap.size≤b3 →
 (na=true→(∀b4,w.heap.size≤b4 →
 (∃ua,
 (na=true→(∀va,ExtX [] w va→va.heap[b4]? = some (Obj.cells ([.int .i64 ta,.int .i64 x6,.int .i64 x7]:List Value).toArray ty_int (0,0))→zab [] Tryz.prog zbu #[.slice (some (Addr.mk b4 0 none)) 3 3] va (.bool ua))) ∧
 InR .i64 (x5+1) ∧
 la [.bool (na&&ua),.int .i64 (x5+1)]∧ma [.bool (na&&ua),.int .i64 (x5+1)]<ma [.bool na,.int .i64 x5]))) ∧
 ((na=true→False) →
 InR .i64 (x5+1) ∧
 la [.bool false,.int .i64 (x5+1)]∧ma [.bool false,.int .i64 (x5+1)]<ma [.bool na,.int .i64 x5])))) ∧
 ((decide (x5<(ja:Int)))=false →
 wv.isSome=true ∧
 (∃wa xa ya,
 zaa [] w wv (0+3) [.slice wa xa ya] ∧
 (∃(za:List Value→Prop) (ab:List Value→Nat),za [.bool na,.int .i64 0] ∧
 ∀(bb:Bool) (x9:Int),za [.bool bb,.int .i64 x9] →
 ((decide (x9<(xa:Int)))=true →
 Ix wa xa x9 ∧
 (∃(cb:Bool) (db:Int) (eb:ByteArray) (fb gb hb ib jb kb lb mb:Int) (nb:Option Addr) (ob pb:Nat) (qb:Option Addr) (rb sb:Nat) (tb:Option Addr) (ub vb:Nat),
 zaa [] w wa (Int.toNat x9*14) [.bool cb,.int .i64 db,.string eb,.int .i64 fb,.int .i64 gb,.int .i64 hb,.int .i64 ib,.int .i64 jb,.int .i64 kb,.int .i64 lb,.int .i64 mb,.slice nb ob pb,.slice qb rb sb,.slice tb ub vb] ∧
 (∀b5,w.heap.size≤b5 →
 (bb=true→(∀b6,w.heap.size≤b6 →
 (∃wb,
 (bb=true→(∀xb,ExtX [] w xb→xb.heap[b6]? = some (Obj.cells ([.int .i64 jb]:List Value).toArray ty_int (0,0))→zab [] Tryz.prog zbu #[.slice (some (Addr.mk b6 0 none)) 1 1] xb (.bool wb))) ∧
 (∃(yb:List Value→Prop) (zb:List Value→Nat),yb [.bool (bb&&wb),.int .i64 0] ∧
 ∀(ac:Bool) (bc:Int),yb [.bool ac,.int .i64 bc] →
 ((decide (bc<(ub:Int)))=true →
 Ix tb ub bc ∧
 (∃cc dc ec fc gc,
 zaa [] w tb (Int.toNat bc*5) [.int .i64 cc,.bool dc,.int .i64 ec,.int .i64 fc,.int .i64 gc] ∧
 (∀b7,w.heap.size≤b7 →
 (ac=true→(∀b8,w.heap.size≤b8 →
 (∃hc,
 (ac=true→(∀ic,ExtX [] w ic→ic.heap[b8]? = some (Obj.cells ([.int .i64 cc,.int .i64 ec,.int .i64 gc]:List Value).toArray ty_int (0,0))→zab [] Tryz.prog zbu #[.slice (some (Addr.mk b8 0 none)) 3 3] ic (.bool hc))) ∧
 InR .i64 (bc+1) ∧
 yb [.bool (ac&&hc),.int .i64 (bc+1)]∧zb [.bool (ac&&hc),.int .i64 (bc+1)]<zb [.bool ac,.int .i64 bc]))) ∧
 ((ac=true→False) →
 InR .i64 (bc+1) ∧
 yb [.bool false,.int .i64 (bc+1)]∧zb [.bool false,.int .i64 (bc+1)]<zb [.bool ac,.int .i64 bc])))) ∧
 ((decide (bc<(ub:Int)))=false →
 InR .i64 (x9+1) ∧
 za [.bool ac,.int .i64 (x9+1)]∧ab [.bool ac,.int .i64 (x9+1)]<ab [.bool bb,.int .i64 x9]))))) ∧
 ((bb=true→False) →
 (∃(jc:List Value→Prop) (kc:List Value→Nat),jc [.bool false,.int .i64 0] ∧
 ∀(lc:Bool) (mc:Int),jc [.bool lc,.int .i64 mc] →
 ((decide (mc<(ub:Int)))=true →
 Ix tb ub mc ∧
 (∃nc oc pc qc rc,
 zaa [] w tb (Int.toNat mc*5) [.int .i64 nc,.bool oc,.int .i64 pc,.int .i64 qc,.int .i64 rc] ∧
 (∀b9,w.heap.size≤b9 →
 (lc=true→(∀sc,w.heap.size≤sc →
 (∃tc,
 (lc=true→(∀uc,ExtX [] w uc→uc.heap[sc]? = some (Obj.cells ([.int .i64 nc,.int .i64 pc,.int .i64 rc]:List Value).toArray ty_int (0,0))→zab [] Tryz.prog zbu #[.slice (some (Addr.mk sc 0 none)) 3 3] uc (.bool tc))) ∧
 InR .i64 (mc+1) ∧
 jc [.bool (lc&&tc),.int .i64 (mc+1)]∧kc [.bool (lc&&tc),.int .i64 (mc+1)]<kc [.bool lc,.int .i64 mc]))) ∧
 ((lc=true→False) →
 InR .i64 (mc+1) ∧
 jc [.bool false,.int .i64 (mc+1)]∧kc [.bool false,.int .i64 (mc+1)]<kc [.bool lc,.int .i64 mc])))) ∧
 ((decide (mc<(ub:Int)))=false →
 InR .i64 (x9+1) ∧
 za [.bool lc,.int .i64 (x9+1)]∧ab [.bool lc,.int .i64 (x9+1)]<ab [.bool bb,.int .i64 x9])))))) ∧
 ((decide (x9<(xa:Int)))=false →
 R (.bool bb) w))))))))))))
theorem zso (wv):PuV (zrz wv) zgp #[.pointer wv]:=pV [] false [(3,⟨[(3,.bool),(23,.int .i64)],[],[0,21,22],[],[]⟩),(8,⟨[(3,.bool),(42,.int .i64)],[],[0,40,41],[],[]⟩),(13,⟨[(3,.bool),(63,.int .i64)],[],[61,62],[],[]⟩),(17,⟨[(3,.bool),(77,.int .i64)],[],[61,62,63,75,76],[],[]⟩)] Tryz.func48 (by kernel_rfl) (by kernel_rfl)
def zni (wv:Option Addr) (ea:Int) (w:World) (R:Value→World→Prop):Prop :=
 wv.isSome=true ∧
 (∃aa ba ca,
 zaa [] w wv (0+1) [.slice aa ba ca] ∧
 InR .i64 ((ba:Int) - 1) ∧
 (∃da,
 zab [] Tryz.prog zaf #[.int .i64 ea,.int .i64 0,.int .i64 ((ba:Int) - 1)] w (.bool da) ∧
 R (.bool da) w))
theorem zoa (wv cpu):PuV (zni wv cpu) zel #[.pointer wv,.int .i64 cpu]:=pV [] false [] Tryz.func156 (by kernel_rfl) (by kernel_rfl)
def zpw (p0:Option Addr) (p1 g:Int) (w:World) (R:Value→World→Prop):Prop :=
 (∀b,w.heap.size≤b →
 p0.isSome=true ∧
 (∃aa ba ca,
 zaa [] w p0 (0+2) [.slice aa ba ca] ∧
 (∃(da:List Value→World→Prop) (mu:List Value→World→Nat),(∀wr,ExtX [] w wr→(∀bq∈([b]:List Nat),bq<wr.heap.size)→da [.slice none 0 0,.int .i64 0] wr) ∧
 ∀(ea:Option Addr) (fa ga:Nat) (x:Int) wv,(∀bq∈([b]:List Nat),bq<wv.heap.size)→da [.slice ea fa ga,.int .i64 x] wv →
 ((decide (x<(ba:Int)))=true →
 Ix aa ba x ∧
 (∃x0 x1 x2 x3 x4 x5 x6 x7 x8,
 zaa [b] wv aa (Int.toNat x*9) [.int .i64 x0,.int .i64 x1,.int .i64 x2,.int .i64 x3,.int .i64 x4,.int .i64 x5,.int .i64 x6,.int .i64 x7,.int .i64 x8] ∧
 (∀b1,wv.heap.size≤b1 →
 (∃ha,
 zab [b] Tryz.prog zcy #[.agg #[.pointer p0,.int .i64 p1],.int .i64 x,.int .i64 g] wv (.bool ha) ∧
 (ha=true →
 (∀b2,wv.heap.size≤b2 →
 (∀ia,ExtX [b] wv ia→(∀bq∈([b,b1,b2]:List Nat),bq<ia.heap.size)→ia.heap[b2]? = some (Obj.cells ([.iface zdt (.agg #[.int .i64 x,.int .i64 x0,.int .i64 x1,.int .i64 x2,.int .i64 x3,.int .i64 x4,.int .i64 x5,.int .i64 x6,.int .i64 x7,.int .i64 x8])]:List Value).toArray za8 (0,0)) →
 (∃ja ka la,
 ∃ma,(builtin .append #[zbn,zbn] zbn #[false,false] #[.slice ea fa ga,.slice (some (Addr.mk b2 0 none)) 1 1]).run Tryz.prog ia = .ok (.value (.slice ja ka la)) ma∧Kept [b,b1,b2] ia ma ∧
 InR .i64 (x+1) ∧
 (∀na,ExtX [b,b1,b2] ma na→(∀bq∈([b,b1,b2]:List Nat),bq<na.heap.size)→da [.slice ja ka la,.int .i64 (x+1)] na∧mu [.slice ja ka la,.int .i64 (x+1)] na<mu [.slice ea fa ga,.int .i64 x] wv))))) ∧
 (ha=false →
 InR .i64 (x+1) ∧
 (∀oa,ExtX [b] wv oa→(∀bq∈([b,b1]:List Nat),bq<oa.heap.size)→da [.slice ea fa ga,.int .i64 (x+1)] oa∧mu [.slice ea fa ga,.int .i64 (x+1)] oa<mu [.slice ea fa ga,.int .i64 x] wv)))))) ∧
 ((decide (x<(ba:Int)))=false →
 p0.isSome=true ∧
 (∃pa qa ra,
 zaa [b] wv p0 (0+3) [.slice pa qa ra] ∧
 (∃(sa:List Value→World→Prop) (ta:List Value→World→Nat),(∀ua,ExtX [b] wv ua→(∀bq∈([b]:List Nat),bq<ua.heap.size)→sa [.slice ea fa ga,.int .i64 0] ua) ∧
 ∀(va:Option Addr) (wa xa:Nat) (x9:Int) ya,(∀bq∈([b]:List Nat),bq<ya.heap.size)→sa [.slice va wa xa,.int .i64 x9] ya →
 ((decide (x9<(qa:Int)))=true →
 (∃za,
 zab [b] Tryz.prog zdl #[.agg #[.pointer p0,.int .i64 p1],.int .i64 x9,.int .i64 g] ya (.bool za) ∧
 (za=true →
 (∃ab,
 zab [b] Tryz.prog zah #[.agg #[.pointer p0,.int .i64 p1],.int .i64 x9] ya (.pointer ab) ∧
 ab.isSome=true ∧
 (∃bb cb db eb fb,
 zaa [b] ya ab 0 [.int .i64 bb,.bool cb,.int .i64 db,.int .i64 eb,.int .i64 fb] ∧
 (∀b3,ya.heap.size≤b3 →
 (∀gb,ExtX [b] ya gb→(∀bq∈([b,b3]:List Nat),bq<gb.heap.size)→gb.heap[b3]? = some (Obj.cells ([.iface zd9 (.agg #[.int .i64 x9,.int .i64 bb,.bool cb,.int .i64 db,.int .i64 eb,.int .i64 fb])]:List Value).toArray za8 (0,0)) →
 (∃hb ib jb,
 ∃kb,(builtin .append #[zbn,zbn] zbn #[false,false] #[.slice va wa xa,.slice (some (Addr.mk b3 0 none)) 1 1]).run Tryz.prog gb = .ok (.value (.slice hb ib jb)) kb∧Kept [b,b3] gb kb ∧
 InR .i64 (x9+1) ∧
 (∀lb,ExtX [b,b3] kb lb→(∀bq∈([b,b3]:List Nat),bq<lb.heap.size)→sa [.slice hb ib jb,.int .i64 (x9+1)] lb∧ta [.slice hb ib jb,.int .i64 (x9+1)] lb<ta [.slice va wa xa,.int .i64 x9] ya))))))) ∧
 (za=false →
 InR .i64 (x9+1) ∧
 (∀mb,ExtX [b] ya mb→(∀bq∈([b]:List Nat),bq<mb.heap.size)→sa [.slice va wa xa,.int .i64 (x9+1)] mb∧ta [.slice va wa xa,.int .i64 (x9+1)] mb<ta [.slice va wa xa,.int .i64 x9] ya)))) ∧
 ((decide (x9<(qa:Int)))=false →
 (∀nb,ExtX [b] ya nb→R (.slice va wa xa) nb))))))))
theorem zp1 (p0 p1 g):EfV (zpw p0 p1 g) zfr #[.agg #[.pointer p0,.int .i64 p1],.int .i64 g]:=eV [] false [(3,⟨[(5,.slice),(15,.int .i64)],[],[1,2,13,14],[],[]⟩),(9,⟨[(5,.slice),(38,.int .i64)],[],[1,2,37],[],[]⟩)] Tryz.func263 (by kernel_rfl) (by kernel_rfl)
def zeu (xO:Option Addr) (xL xC:Nat) (ga:Fn) (ha:Array Value) (ia:Array Value) (w:World) (R:Value→World→Prop):Prop :=
 ((decide ((xL:Int)<1))=true →
 False) ∧
 ((decide ((xL:Int)<1))=false →
 Ix xO xL 0 ∧
 (∃(x1:Value),
 zaa [] w xO (Int.toNat 0*1) [x1] ∧
 (∃(aa:List Value→World→Prop) (mu:List Value→World→Nat),(∀wr,ExtX [] w wr→(∀bq∈([]:List Nat),bq<wr.heap.size)→aa [x1,.int .i64 1] wr) ∧
 ∀(m:Value) (i:Int) wv,(∀bq∈([]:List Nat),bq<wv.heap.size)→aa [m,.int .i64 i] wv →
 ((decide (i<(xL:Int)))=true →
 Ix xO xL i ∧
 (∃(x2:Value),
 zaa [] wv xO (Int.toNat i*1) [x2] ∧
 (∀ba,ExtX [] wv ba→(∀bq∈([]:List Nat),bq<ba.heap.size) →
 zm3 Tryz.prog (.func ga ha ia) [x2,m] ba fun e ca =>
 (∃rv,
 e = .returned (.int .i64 rv)∧Kept [] ba ca ∧
 ((decide (rv<0))=true →
 Ix xO xL i ∧
 (∃(x3:Value),
 zaa [] ca xO (Int.toNat i*1) [x3] ∧
 InR .i64 (i+1) ∧
 (∀da,ExtX [] ca da→(∀bq∈([]:List Nat),bq<da.heap.size)→aa [x3,.int .i64 (i+1)] da∧mu [x3,.int .i64 (i+1)] da<mu [m,.int .i64 i] wv))) ∧
 ((decide (rv<0))=false →
 InR .i64 (i+1) ∧
 (∀ea,ExtX [] ca ea→(∀bq∈([]:List Nat),bq<ea.heap.size)→aa [m,.int .i64 (i+1)] ea∧mu [m,.int .i64 (i+1)] ea<mu [m,.int .i64 i] wv)))))) ∧
 ((decide (i<(xL:Int)))=false →
 (∀fa,ExtX [] wv fa→R m fa)))))
theorem zev (xO xL xC cmpF cmpA cmpK):EfV (zeu xO xL xC cmpF cmpA cmpK) zbd #[.slice xO xL xC,.func cmpF cmpA cmpK]:=eV [] false [(5,⟨[(5,.other),(6,.int .i64)],[],[0,1],[],[]⟩)] Tryz.func264 (by kernel_rfl) (by kernel_rfl)
def zu9 (x:Int) (w:World) (R:Value→World→Prop):Prop :=
 R (.bool (x != x)) w
theorem zx1 (x):PuV (zu9 x) zfz #[.int .i64 x]:=pV [] false [] Tryz.func273 (by kernel_rfl) (by kernel_rfl)
def zru (x y:Int) (w:World) (R:Value→World→Prop):Prop :=
 (∃(aa:Bool),
 zab [] Tryz.prog zfz #[.int .i64 x] w (.bool aa) ∧
 (∃ba,
 zab [] Tryz.prog zfz #[.int .i64 y] w (.bool ba) ∧
 (aa=true →
 (ba=true →
 R (.int .i64 0) w) ∧
 (ba=false →
 R (.int .i64 (-1)) w)) ∧
 (aa=false →
 (ba=true →
 R (.int .i64 1) w) ∧
 (ba=false →
 ((decide (x<y))=true →
 R (.int .i64 (-1)) w) ∧
 ((decide (x<y))=false →
 ((decide (x>y))=true →
 R (.int .i64 1) w) ∧
 ((decide (x>y))=false →
 R (.int .i64 0) w))))))
theorem zsk (x y):PuV (zru x y) zgl #[.int .i64 x,.int .i64 y]:=pV [] false [] Tryz.func266 (by kernel_rfl) (by kernel_rfl)
def zqk (a:Value) (b:Value) (w:World) (R:Value→World→Prop):Prop :=
 (∀wr,ExtX [] w wr→(∀bq∈([]:List Nat),bq<wr.heap.size) →
 (∃ (ff : FuncId) (aa : Array Value), (z74 "loop.example/stint/impl.time" a []).run Tryz.prog wr = .ok (.enter ff aa) wr ∧
 Calls Tryz.prog ff aa wr fun e wv =>
 (∃rv,
 e = .returned (.int .i64 rv)∧Kept [] wr wv ∧
 (∀ba,ExtX [] wv ba→(∀bq∈([]:List Nat),bq<ba.heap.size) →
 (∃ (ca : FuncId) (da : Array Value), (z74 "loop.example/stint/impl.time" b []).run Tryz.prog ba = .ok (.enter ca da) ba ∧
 Calls Tryz.prog ca da ba fun e1 ea =>
 (∃fa,
 e1 = .returned (.int .i64 fa)∧Kept [] ba ea ∧
 (∃(ga:Int),
 zab [] Tryz.prog zgl #[.int .i64 rv,.int .i64 fa] ea (.int .i64 ga) ∧
 (∀ha,ExtX [] ea ha→R (.int .i64 ga) ha))))))))
theorem zqt (a b):EfV (zqk a b) zb7 #[a,b]:=eV [] false [] Tryz.func265 (by kernel_rfl) (by kernel_rfl)
def ztr (p0:Option Addr) (p1:Int) (w:World) (R:Value→World→Prop):Prop :=
 (∀b,w.heap.size≤b →
 (∃aa,
 zab [] Tryz.prog zbi #[.agg #[.pointer p0,.int .i64 p1]] w (.pointer aa) ∧
 aa.isSome=true ∧
 (∃up,
 zaa [] w aa (0+0) [.bool up] ∧
 ((!up)=true →
 (∀wr,ExtX [] w wr→R (.int .i64 (-1)) wr)) ∧
 ((!up)=false →
 aa.isSome=true ∧
 (∃ba,
 zaa [] w aa (0+1) [.int .i64 ba] ∧
 ((ba != (-1))=true→aa.isSome=true) ∧
 (∃ca,
 ((ba != (-1))=true→zaa [] w aa (0+2) [.int .i64 ca]) ∧
 (((ba != (-1))&&(decide (ca<50)))=true →
 aa.isSome=true ∧
 (∃da,
 zaa [] w aa (0+1) [.int .i64 da] ∧
 (∀ea,ExtX [] w ea→R (.int .i64 da) ea))) ∧
 (((ba != (-1))&&(decide (ca<50)))=false →
 (∃(fa:List Value→World→Prop) (mu:List Value→World→Nat),(∀ga,ExtX [] w ga→(∀bq∈([b]:List Nat),bq<ga.heap.size)→fa [.int .i64 0] ga) ∧
 ∀(g:Int) wv,(∀bq∈([b]:List Nat),bq<wv.heap.size)→fa [.int .i64 g] wv →
 (∀ha,ExtX [b] wv ha→(∀bq∈([b]:List Nat),bq<ha.heap.size) →
 Calls Tryz.prog zfr #[.agg #[.pointer p0,.int .i64 p1],.int .i64 g] ha fun e ia =>
 (∃ja ka la,
 e = .returned (.slice ja ka la)∧Kept [b] ha ia ∧
 (((ka:Int)==0)=true →
 (∀ma,ExtX [b] ia ma→R (.int .i64 (-1)) ma)) ∧
 (((ka:Int)==0)=false →
 (∀na,ExtX [b] ia na→(∀bq∈([b]:List Nat),bq<na.heap.size) →
 Calls Tryz.prog zbd #[.slice ja ka la,.func (.func zb7) #[] #[]] na fun e1 oa =>
 (∃(pa:Value),
 e1 = .returned pa∧Kept [b] na oa ∧
 (∃ta qa ra sa ua va wa xa ya za ab,
 (∀wq,(Instr.typeAssert pa za8 zdt true).run Tryz.prog wq = .ok (.tuple #[.agg #[.int .i64 ta,.int .i64 qa,.int .i64 ra,.int .i64 sa,.int .i64 ua,.int .i64 va,.int .i64 wa,.int .i64 xa,.int .i64 ya,.int .i64 za],.bool ab]) wq) ∧
 (ab=true →
 (∀b1,oa.heap.size≤b1 →
 (∀bb,ExtX [b] oa bb→R (.int .i64 ta) bb))) ∧
 (ab=false →
 (∃cb db eb fb gb hb ib,
 (∀jb,(Instr.typeAssert pa za8 zd9 true).run Tryz.prog jb = .ok (.tuple #[.agg #[.int .i64 cb,.int .i64 db,.bool eb,.int .i64 fb,.int .i64 gb,.int .i64 hb],.bool ib]) jb) ∧
 (ib=true →
 (∀b2,oa.heap.size≤b2 →
 (∀kb,ExtX [b] oa kb→(∀bq∈([b,b2]:List Nat),bq<kb.heap.size)→fa [.int .i64 cb] kb∧mu [.int .i64 cb] kb<mu [.int .i64 g] wv))) ∧
 (ib=false →
 (∀lb,ExtX [b] oa lb→(∀bq∈([b]:List Nat),bq<lb.heap.size)→fa [.int .i64 g] lb∧mu [.int .i64 g] lb<mu [.int .i64 g] wv))))))))))))))))))
theorem zt3 (p0 p1):EfV (ztr p0 p1) zhn #[.agg #[.pointer p0,.int .i64 p1]]:=eV [] false [(7,⟨[(4,.int .i64)],[],[1],[],[]⟩)] Tryz.func236 (by kernel_rfl) (by kernel_rfl)
def zr1 (p0:Option Addr) (p1 uc vc:Int) (w:World) (R:Value→World→Prop):Prop :=
 (∀b,w.heap.size≤b →
 p0.isSome=true ∧
 (∃aa ba ca,
 zaa [] w p0 (0+2) [.slice aa ba ca] ∧
 Ix aa ba uc ∧
 (∃da,
 zaa [] w aa (Int.toNat uc*9+1) [.int .i64 da] ∧
 (∃(ea:List Value→World→Prop) (mu:List Value→World→Nat),(∀wr,ExtX [] w wr→(∀bq∈([b]:List Nat),bq<wr.heap.size)→ea [.int .i64 vc,.int .i64 da] wr) ∧
 ∀(fa g:Int) wv,(∀bq∈([b]:List Nat),bq<wv.heap.size)→ea [.int .i64 fa,.int .i64 g] wv →
 ((g != 0)=true →
 p0.isSome=true ∧
 (∃ga ha ia,
 zaa [b] wv p0 (0+3) [.slice ga ha ia] ∧
 Ix ga ha g ∧
 (∃ja ka la ma na oa pa qa ra,
 zaa [b] wv ga (Int.toNat g*14+8) [.int .i64 ja,.int .i64 ka,.int .i64 la,.slice ma na oa,.slice pa qa ra] ∧
 (∀b1,wv.heap.size≤b1 →
 ((decide (ja>0))=true →
 Ix ma na p1 ∧
 (∃x,
 zaa [b] wv ma (Int.toNat p1*1) [.int .i64 x] ∧
 p0.isSome=true ∧
 (∃sa ta ua,
 zaa [b] wv p0 (0+3) [.slice sa ta ua] ∧
 Ix sa ta g ∧
 (∃va,
 zaa [b] wv sa (Int.toNat g*14+1) [.int .i64 va] ∧
 (∀wa,ExtX [b] wv wa→(∀bq∈([b,b1]:List Nat),bq<wa.heap.size)→ea [.int .i64 (if x<fa then x else fa),.int .i64 va] wa∧mu [.int .i64 (if x<fa then x else fa),.int .i64 va] wa<mu [.int .i64 fa,.int .i64 g] wv))))) ∧
 ((decide (ja>0))=false →
 p0.isSome=true ∧
 (∃xa ya za,
 zaa [b] wv p0 (0+3) [.slice xa ya za] ∧
 Ix xa ya g ∧
 (∃ab,
 zaa [b] wv xa (Int.toNat g*14+1) [.int .i64 ab] ∧
 (∀bb,ExtX [b] wv bb→(∀bq∈([b,b1]:List Nat),bq<bb.heap.size)→ea [.int .i64 fa,.int .i64 ab] bb∧mu [.int .i64 fa,.int .i64 ab] bb<mu [.int .i64 fa,.int .i64 g] wv)))))))) ∧
 ((g != 0)=false →
 (∃v,
 zaa [b] wv aa (Int.toNat uc*9+5) [.int .i64 v] ∧
 (∃cb,
 zaa [b] wv aa (Int.toNat uc*9+3) [.int .i64 cb] ∧
 (∃db,
 zab [b] Tryz.prog zea #[.int .i64 cb] wv (.int .i64 db) ∧
 (∃eb,
 zab [b] Tryz.prog zbv #[.int .i64 fa,.int .i64 db] wv (.int .i64 eb) ∧
 InR .i64 (v+eb) ∧
 WrX [b] wv aa (Int.toNat uc*9+5) 1 ∧
 (∃fb,
 zaa [b] (sto wv aa (Int.toNat uc*9+5) [.int .i64 (v+eb)]) aa (Int.toNat uc*9+6) [.int .i64 fb] ∧
 InR .i64 (fb+fa) ∧
 WrX [b] (sto wv aa (Int.toNat uc*9+5) [.int .i64 (v+eb)]) aa (Int.toNat uc*9+6) 1 ∧
 (∃gb,
 zaa [b] (sto (sto wv aa (Int.toNat uc*9+5) [.int .i64 (v+eb)]) aa (Int.toNat uc*9+6) [.int .i64 (fb+fa)]) aa (Int.toNat uc*9+7) [.int .i64 gb] ∧
 InR .i64 (gb+fa) ∧
 WrX [b] (sto (sto wv aa (Int.toNat uc*9+5) [.int .i64 (v+eb)]) aa (Int.toNat uc*9+6) [.int .i64 (fb+fa)]) aa (Int.toNat uc*9+7) 1 ∧
 (∃hb,
 zaa [b] (sto (sto (sto wv aa (Int.toNat uc*9+5) [.int .i64 (v+eb)]) aa (Int.toNat uc*9+6) [.int .i64 (fb+fa)]) aa (Int.toNat uc*9+7) [.int .i64 (gb+fa)]) aa (Int.toNat uc*9+1) [.int .i64 hb] ∧
 (∃(ib:List Value→World→Prop) (jb:List Value→World→Nat),(∀kb,ExtX [b] (sto (sto (sto wv aa (Int.toNat uc*9+5) [.int .i64 (v+eb)]) aa (Int.toNat uc*9+6) [.int .i64 (fb+fa)]) aa (Int.toNat uc*9+7) [.int .i64 (gb+fa)]) kb→(∀bq∈([b]:List Nat),bq<kb.heap.size)→ib [.int .i64 hb] kb) ∧
 ∀(g1:Int) lb,(∀bq∈([b]:List Nat),bq<lb.heap.size)→ib [.int .i64 g1] lb →
 ((g1 != (-1))=true →
 (∃mb,
 zab [b] Tryz.prog zah #[.agg #[.pointer p0,.int .i64 p1],.int .i64 g1] lb (.pointer mb) ∧
 mb.isSome=true ∧
 (∃nb,
 zaa [b] lb mb (0+4) [.int .i64 nb] ∧
 InR .i64 (nb+fa) ∧
 mb.isSome=true ∧
 WrX [b] lb mb (0+4) 1 ∧
 p0.isSome=true ∧
 (∃ob pb qb,
 zaa [b] (sto lb mb (0+4) [.int .i64 (nb+fa)]) p0 (0+3) [.slice ob pb qb] ∧
 Ix ob pb g1 ∧
 (∃rb,
 zaa [b] (sto lb mb (0+4) [.int .i64 (nb+fa)]) ob (Int.toNat g1*14+7) [.int .i64 rb] ∧
 InR .i64 (rb+fa) ∧
 Ix ob pb g1 ∧
 WrX [b] (sto lb mb (0+4) [.int .i64 (nb+fa)]) ob (Int.toNat g1*14+7) 1 ∧
 (∃(sb:List Value→List Nat→World→Prop),
 (((g1 != 0)=true →
 mb.isSome=true ∧
 (∃v1,
 zaa [b] (sto (sto lb mb (0+4) [.int .i64 (nb+fa)]) ob (Int.toNat g1*14+7) [.int .i64 (rb+fa)]) mb (0+2) [.int .i64 v1] ∧
 mb.isSome=true ∧
 (∃tb,
 zaa [b] (sto (sto lb mb (0+4) [.int .i64 (nb+fa)]) ob (Int.toNat g1*14+7) [.int .i64 (rb+fa)]) mb (0+3) [.int .i64 tb] ∧
 (∃ub,
 zab [b] Tryz.prog zbv #[.int .i64 fa,.int .i64 tb] (sto (sto lb mb (0+4) [.int .i64 (nb+fa)]) ob (Int.toNat g1*14+7) [.int .i64 (rb+fa)]) (.int .i64 ub) ∧
 InR .i64 (v1+ub) ∧
 mb.isSome=true ∧
 WrX [b] (sto (sto lb mb (0+4) [.int .i64 (nb+fa)]) ob (Int.toNat g1*14+7) [.int .i64 (rb+fa)]) mb (0+2) 1 ∧
 (∀vb,ExtX [b] (sto (sto (sto lb mb (0+4) [.int .i64 (nb+fa)]) ob (Int.toNat g1*14+7) [.int .i64 (rb+fa)]) mb (0+2) [.int .i64 (v1+ub)]) vb→(∀bq∈([b]:List Nat),bq<vb.heap.size)→sb [] [] vb))))) ∧
 ((g1 != 0)=false →
 (∀wb,ExtX [b] (sto (sto lb mb (0+4) [.int .i64 (nb+fa)]) ob (Int.toNat g1*14+7) [.int .i64 (rb+fa)]) wb→(∀bq∈([b]:List Nat),bq<wb.heap.size)→sb [] [] wb))) ∧
 (∀(xb:World),(∀bq∈([b]:List Nat),bq<xb.heap.size)→sb [] [] xb →
 p0.isSome=true ∧
 (∃yb zb ac,
 zaa [b] xb p0 (0+3) [.slice yb zb ac] ∧
 Ix yb zb g1 ∧
 (∃bc,
 zaa [b] xb yb (Int.toNat g1*14+8+0) [.int .i64 bc] ∧
 ((decide (bc>0))=true →
 (∀cc,ExtX [b] xb cc→(∀bq∈([b]:List Nat),bq<cc.heap.size) →
 Calls Tryz.prog zez #[.pointer (yb.map (·.add (Int.toNat g1*14+8))),.agg #[.int .i64 2,.int .i64 p1,.int .i64 fa]] cc fun e dc =>
 (∃ec,
 e = .returned (.int .i64 ec)∧Kept [b] cc dc ∧
 p0.isSome=true ∧
 (∃fc gc hc,
 zaa [b] dc p0 (0+3) [.slice fc gc hc] ∧
 Ix fc gc g1 ∧
 (∃ic,
 zaa [b] dc fc (Int.toNat g1*14+1) [.int .i64 ic] ∧
 (∀jc,ExtX [b] dc jc→(∀bq∈([b]:List Nat),bq<jc.heap.size)→ib [.int .i64 ic] jc∧jb [.int .i64 ic] jc<jb [.int .i64 g1] lb)))))) ∧
 ((decide (bc>0))=false →
 p0.isSome=true ∧
 (∃kc lc mc,
 zaa [b] xb p0 (0+3) [.slice kc lc mc] ∧
 Ix kc lc g1 ∧
 (∃nc,
 zaa [b] xb kc (Int.toNat g1*14+1) [.int .i64 nc] ∧
 (∀oc,ExtX [b] xb oc→(∀bq∈([b]:List Nat),bq<oc.heap.size)→ib [.int .i64 nc] oc∧jb [.int .i64 nc] oc<jb [.int .i64 g1] lb))))))))))))) ∧
 ((g1 != (-1))=false →
 (∃pc,
 zab [b] Tryz.prog zbi #[.agg #[.pointer p0,.int .i64 p1]] lb (.pointer pc) ∧
 pc.isSome=true ∧
 (∃qc,
 zaa [b] lb pc (0+3) [.int .i64 qc] ∧
 InR .i64 (qc+fa) ∧
 pc.isSome=true ∧
 WrX [b] lb pc (0+3) 1 ∧
 (∃rc,
 zab [b] Tryz.prog zbi #[.agg #[.pointer p0,.int .i64 p1]] (sto lb pc (0+3) [.int .i64 (qc+fa)]) (.pointer rc) ∧
 rc.isSome=true ∧
 (∃sc,
 zaa [b] (sto lb pc (0+3) [.int .i64 (qc+fa)]) rc (0+2) [.int .i64 sc] ∧
 InR .i64 (sc+fa) ∧
 rc.isSome=true ∧
 WrX [b] (sto lb pc (0+3) [.int .i64 (qc+fa)]) rc (0+2) 1 ∧
 (∀tc,ExtX [b] (sto (sto lb pc (0+3) [.int .i64 (qc+fa)]) rc (0+2) [.int .i64 (sc+fa)]) tc→R (.int .i64 fa) tc)))))))))))))))))))
theorem zsc (p0 p1 task leftv):EfV (zr1 p0 p1 task leftv) zeq #[.agg #[.pointer p0,.int .i64 p1],.int .i64 task,.int .i64 leftv]:=eV [] false [(3,⟨[(8,.int .i64),(9,.int .i64)],[],[3,7],[],[]⟩),(12,⟨[(11,.int .i64)],[],[3,8],[],[]⟩),(1000019,⟨[],[],[3,8,11],[],[]⟩)] Tryz.func238 (by kernel_rfl) (by kernel_rfl)
def zvh (p0:Option Addr) (p1 n:Int) (ac:Fn) (bc:Array Value) (cc:Array Value) (w:World) (R:Value→World→Prop):Prop :=
 (∀b,w.heap.size≤b →
 (∃aa,
 zab [] Tryz.prog zbi #[.agg #[.pointer p0,.int .i64 p1]] w (.pointer aa) ∧
 (∃(ba:List Value→World→Prop) (mu:List Value→World→Nat),(∀wr,ExtX [] w wr→(∀bq∈([b]:List Nat),bq<wr.heap.size)→ba [.int .i64 n] wr) ∧
 ∀(ca:Int) wv,(∀bq∈([b]:List Nat),bq<wv.heap.size)→ba [.int .i64 ca] wv →
 ((decide (ca>0))=true →
 (∃da,
 zab [b] Tryz.prog zhn #[.agg #[.pointer p0,.int .i64 p1]] wv (.int .i64 da) ∧
 ((decide (da<0))=true →
 aa.isSome=true ∧
 (∃ea,
 zaa [b] wv aa (0+4) [.int .i64 ea] ∧
 InR .i64 (ea+ca) ∧
 aa.isSome=true ∧
 WrX [b] wv aa (0+4) 1 ∧
 (∀fa,ExtX [b] (sto wv aa (0+4) [.int .i64 (ea+ca)]) fa→(∀bq∈([b]:List Nat),bq<fa.heap.size) →
 Calls Tryz.prog zbx #[.agg #[.pointer p0,.int .i64 p1]] fa fun e ga =>
 e = .returned (.tuple #[])∧Kept [b] fa ga ∧
 (∀ha,ExtX [b] ga ha→(∀bq∈([b]:List Nat),bq<ha.heap.size) →
 Calls Tryz.prog za9 #[.pointer p0] ha fun e1 ia =>
 e1 = .returned (.tuple #[])∧Kept [b] ha ia ∧
 (∀ja,ExtX [b] ia ja→R (.tuple #[]) ja))))) ∧
 ((decide (da<0))=false →
 aa.isSome=true ∧
 (∃ka,
 zaa [b] wv aa (0+1) [.int .i64 ka] ∧
 ((da != ka)=false→aa.isSome=true) ∧
 (∃la,
 ((da != ka)=false→zaa [b] wv aa (0+2) [.int .i64 la]) ∧
 (((da != ka)||(decide (la≥50)))=true →
 aa.isSome=true ∧
 WrX [b] wv aa (0+1) 1 ∧
 aa.isSome=true ∧
 WrX [b] (sto wv aa (0+1) [.int .i64 da]) aa (0+2) 1 ∧
 (∀ma,ExtX [b] (sto (sto wv aa (0+1) [.int .i64 da]) aa (0+2) [.int .i64 0]) ma→(∀bq∈([b]:List Nat),bq<ma.heap.size) →
 Calls Tryz.prog zgs #[.agg #[.pointer p0,.int .i64 p1],.int .i64 da] ma fun e2 na =>
 (∃oa,
 e2 = .returned (.bool oa)∧Kept [b] ma na ∧
 (oa=true →
 (∀pa,ExtX [b] na pa→(∀bq∈([b]:List Nat),bq<pa.heap.size) →
 Calls Tryz.prog zbx #[.agg #[.pointer p0,.int .i64 p1]] pa fun e3 qa =>
 e3 = .returned (.tuple #[])∧Kept [b] pa qa ∧
 (∀ra,ExtX [b] qa ra→(∀bq∈([b]:List Nat),bq<ra.heap.size) →
 Calls Tryz.prog za9 #[.pointer p0] ra fun e4 sa =>
 e4 = .returned (.tuple #[])∧Kept [b] ra sa ∧
 (∀ta,ExtX [b] sa ta→(∀bq∈([b]:List Nat),bq<ta.heap.size)→ba [.int .i64 ca] ta∧mu [.int .i64 ca] ta<mu [.int .i64 ca] wv)))) ∧
 (oa=false →
 (∀ua,ExtX [b] na ua→(∀bq∈([b]:List Nat),bq<ua.heap.size) →
 Calls Tryz.prog zeq #[.agg #[.pointer p0,.int .i64 p1],.int .i64 da,.int .i64 ca] ua fun e5 va =>
 (∃wa,
 e5 = .returned (.int .i64 wa)∧Kept [b] ua va ∧
 (∀xa,ExtX [b] va xa→(∀bq∈([b]:List Nat),bq<xa.heap.size) →
 zm3 Tryz.prog (.func ac bc cc) [.int .i64 da,.int .i64 wa] xa fun e6 ya =>
 e6 = .returned (.tuple #[])∧Kept [b] xa ya ∧
 (∀za,ExtX [b] ya za→(∀bq∈([b]:List Nat),bq<za.heap.size) →
 Calls Tryz.prog za9 #[.pointer p0] za fun e7 ab =>
 e7 = .returned (.tuple #[])∧Kept [b] za ab ∧
 InR .i64 (ca - wa) ∧
 (∀bb,ExtX [b] ab bb→(∀bq∈([b]:List Nat),bq<bb.heap.size)→ba [.int .i64 (ca - wa)] bb∧mu [.int .i64 (ca - wa)] bb<mu [.int .i64 ca] wv))))))))) ∧
 (((da != ka)||(decide (la≥50)))=false →
 (∀cb,ExtX [b] wv cb→(∀bq∈([b]:List Nat),bq<cb.heap.size) →
 Calls Tryz.prog zgs #[.agg #[.pointer p0,.int .i64 p1],.int .i64 da] cb fun e8 db =>
 (∃eb,
 e8 = .returned (.bool eb)∧Kept [b] cb db ∧
 (eb=true →
 (∀fb,ExtX [b] db fb→(∀bq∈([b]:List Nat),bq<fb.heap.size) →
 Calls Tryz.prog zbx #[.agg #[.pointer p0,.int .i64 p1]] fb fun e9 gb =>
 e9 = .returned (.tuple #[])∧Kept [b] fb gb ∧
 (∀hb,ExtX [b] gb hb→(∀bq∈([b]:List Nat),bq<hb.heap.size) →
 Calls Tryz.prog za9 #[.pointer p0] hb fun ib jb =>
 ib = .returned (.tuple #[])∧Kept [b] hb jb ∧
 (∀kb,ExtX [b] jb kb→(∀bq∈([b]:List Nat),bq<kb.heap.size)→ba [.int .i64 ca] kb∧mu [.int .i64 ca] kb<mu [.int .i64 ca] wv)))) ∧
 (eb=false →
 (∀lb,ExtX [b] db lb→(∀bq∈([b]:List Nat),bq<lb.heap.size) →
 Calls Tryz.prog zeq #[.agg #[.pointer p0,.int .i64 p1],.int .i64 da,.int .i64 ca] lb fun mb nb =>
 (∃ob,
 mb = .returned (.int .i64 ob)∧Kept [b] lb nb ∧
 (∀pb,ExtX [b] nb pb→(∀bq∈([b]:List Nat),bq<pb.heap.size) →
 zm3 Tryz.prog (.func ac bc cc) [.int .i64 da,.int .i64 ob] pb fun qb rb =>
 qb = .returned (.tuple #[])∧Kept [b] pb rb ∧
 (∀sb,ExtX [b] rb sb→(∀bq∈([b]:List Nat),bq<sb.heap.size) →
 Calls Tryz.prog za9 #[.pointer p0] sb fun tb ub =>
 tb = .returned (.tuple #[])∧Kept [b] sb ub ∧
 InR .i64 (ca - ob) ∧
 (∀vb,ExtX [b] ub vb→(∀bq∈([b]:List Nat),bq<vb.heap.size)→ba [.int .i64 (ca - ob)] vb∧mu [.int .i64 (ca - ob)] vb<mu [.int .i64 ca] wv)))))))))))))) ∧
 ((decide (ca>0))=false →
 (∀wb,ExtX [b] wv wb→(∀bq∈([b]:List Nat),bq<wb.heap.size) →
 Calls Tryz.prog za9 #[.pointer p0] wb fun xb yb =>
 xb = .returned (.tuple #[])∧Kept [b] wb yb ∧
 (∀zb,ExtX [b] yb zb→R (.tuple #[]) zb))))))
theorem zwn (p0 p1 n toldF toldA toldK):EfV (zvh p0 p1 n toldF toldA toldK) zin #[.agg #[.pointer p0,.int .i64 p1],.int .i64 n,.func toldF toldA toldK]:=eV [] false [(3,⟨[(7,.int .i64)],[],[2,3,6],[],[]⟩)] Tryz.func180 (by kernel_rfl) (by kernel_rfl)
def zr5 (wv qa ra sa:Option Addr) (w:World) (R:Value→World→Prop):Prop :=
 (∃x,
 zaa [] w qa 0 [.int .i64 x] ∧
 (∃aa,
 zab [] Tryz.prog zaf #[.int .i64 x,.int .i64 1,.int .i64 100] w (.bool aa) ∧
 (∃x1,
 ((!aa)=false→zaa [] w ra 0 [.int .i64 x1]) ∧
 (∃ba,
 ((!aa)=false→zab [] Tryz.prog zel #[.pointer wv,.int .i64 x1] w (.bool ba)) ∧
 (((!aa)||(!ba))=true →
 (∀wr,ExtX [] w wr→R (.iface zbs (.agg #[.int .i64 1])) wr)) ∧
 (((!aa)||(!ba))=false →
 wv.isSome=true ∧
 (∃ca da ea,
 zaa [] w wv (0+1) [.slice ca da ea] ∧
 (∃x2,
 zaa [] w ra 0 [.int .i64 x2] ∧
 Ix ca da x2 ∧
 (∃up,
 zaa [] w ca (Int.toNat x2*5+0) [.bool up] ∧
 ((!up)=true →
 (∀fa,ExtX [] w fa→R (.iface zbs (.agg #[.int .i64 6])) fa)) ∧
 ((!up)=false →
 (∃ga,
 zab [] Tryz.prog zgp #[.pointer wv] w (.bool ga) ∧
 ((!ga)=true →
 (∀ha,ExtX [] w ha→R (.iface zbs (.agg #[.int .i64 10])) ha)) ∧
 ((!ga)=false →
 (∃x3,
 zaa [] w ra 0 [.int .i64 x3] ∧
 (∃ia ja,
 zab [] Tryz.prog zbe #[.pointer wv,.int .i64 x3] w (.agg #[.pointer ia,.int .i64 ja]) ∧
 (∃x4,
 zaa [] w qa 0 [.int .i64 x4] ∧
 (∃(ka:Fn) (la:Array Value) (ma:Array Value),
 zaa [] w sa 0 [.func ka la ma] ∧
 (∀na,ExtX [] w na→(∀bq∈([]:List Nat),bq<na.heap.size) →
 Calls Tryz.prog zin #[.agg #[.pointer ia,.int .i64 ja],.int .i64 x4,.func ka la ma] na fun e oa =>
 e = .returned (.tuple #[])∧Kept [] na oa ∧
 (∀pa,ExtX [] oa pa→R .nilIface pa)))))))))))))))))
theorem zsd (wv cap cap1 cap2):EfV (zr5 wv cap cap1 cap2) zer #[.pointer wv,.pointer cap,.pointer cap1,.pointer cap2]:=eV [] false [] Tryz.func179 (by kernel_rfl) (by kernel_rfl)
def zm7 (m0 m1 m2 m3 m4 m5 m6 m7 m8 m9:Int) (w:World) (R:Value→World→Prop):Prop :=
 (∀b,w.heap.size≤b →
 R (.int .i64 m6) w)
theorem znf (m0 m1 m2 m3 m4 m5 m6 m7 m8 m9):PuV (zm7 m0 m1 m2 m3 m4 m5 m6 m7 m8 m9) zcs #[.agg #[.int .i64 m0,.int .i64 m1,.int .i64 m2,.int .i64 m3,.int .i64 m4,.int .i64 m5,.int .i64 m6,.int .i64 m7,.int .i64 m8,.int .i64 m9]]:=pV [] false [] Tryz.func309 (by kernel_rfl) (by kernel_rfl)
def zmc (m0 m1:Int) (m2:Bool) (m3 m4 m5:Int) (w:World) (R:Value→World→Prop):Prop :=
 (∀b,w.heap.size≤b →
 R (.int .i64 m3) w)
theorem zmr (m0 m1 m2 m3 m4 m5):PuV (zmc m0 m1 m2 m3 m4 m5) zci #[.agg #[.int .i64 m0,.int .i64 m1,.bool m2,.int .i64 m3,.int .i64 m4,.int .i64 m5]]:=pV [] false [] Tryz.func312 (by kernel_rfl) (by kernel_rfl)
end Go.Proofs.YthhmnlcimojhlaaGreatDoor
namespace Go.Proofs.YthhmnlcimojhlaaGreatDoor
open Go.RowKit
set_option linter.unusedVariables false
set_option linter.unusedSimpArgs false
set_option maxRecDepth 10000
theorem zagl {o:Option Addr} {n c:Nat} {left:Int} {w:World} {bs:List Nat} (hn:n≤maxLen) (hl:0≤left) (hl2:left≤1048576):zab bs Tryz.prog zk9 #[.slice o n c,.int .i64 left] w (.int .i64 (szN n left)) :=
 z40 o n c left fun wr hx=>by
  have:=zdp
  exact ⟨⟨by omega,by omega⟩,fun h=>by rw [szN,if_pos (of_decide_eq_true h)],fun h=>by rw [szN,if_neg (of_decide_eq_false h)]⟩
theorem zagg {a b:List Int} {aO bO:Option Addr} {aC bC:Nat} {w:World} {bs:List Nat} (ha:RdI bs w aO a) (hb:RdI bs w bO b) (ha9:a.length≤maxLen):zab bs Tryz.prog zk5 #[.slice aO a.length aC,.slice bO b.length bC] w (.bool (decide (a=b))) :=
 z4w aO a.length aC bO b.length bC fun wr hx=>by
  have ha:=(ha.ext hx).less (cs:=[]) (by simp)
  have hb:=(hb.ext hx).less (cs:=[]) (by simp)
  refine ⟨fun h => ?_,fun h => ?_⟩
  ·have h:a.length≠b.length:=by simpa [Int.ofNat_inj] using h
   rw [decide_eq_false fun e=>h (by rw [e])]
  ·have hl:a.length=b.length:=by simpa [Int.ofNat_inj] using h
   refine zgd a.length 0 rfl (fun k=>k≤a.length∧∀j:Nat,j<k→gi a (j:Int)=gi b (j:Int)) ⟨Nat.zero_le _,fun j hj=>absurd hj (Nat.not_lt_zero j)⟩ fun k ⟨hk,hI⟩=>⟨fun hlt => ?_,fun hge => ?_⟩
   ·have hlt:=of_decide_eq_true hlt
    refine ⟨ha.ix zex (by omega) hlt,_,ha k (by omega) hlt,hb.ix zex (by omega) (by omega),_,hb k (by omega) (by omega),fun hne => ?_,fun heq=>⟨zfs hlt ha9,zal (by omega) ?_⟩⟩
    ·have hne:gi a (k:Int)≠gi b (k:Int):=by simpa using hne
     rw [decide_eq_false fun e=>hne (by rw [e])]
    ·have heq:gi a (k:Int)=gi b (k:Int):=by simpa using heq
     exact ⟨by omega,fun j hj=>by
      by_cases hjk:j<k
      ·exact hI j hjk
      ·have:j=k:=by omega
       subst this; exact heq⟩
   ·have hge:=of_decide_eq_false hge
    have hk:k=a.length:=by omega
    subst hk
    rw [decide_eq_true (zpe hl hI)]
theorem zagq {l:List Int} {o:Option Addr} {c:Nat} {w:World} (h:RdI [] w o l) (hl:l.length≤1048576) :
  Calls Tryz.prog zlc #[.slice o l.length c] w fun e w'=>∃o' c',e = .returned (.slice o' l.length c')∧Own encI 1 ty_int w.heap.size w' o' c' l∧ExtX [] w w':=by
 refine (z3o o l.length c (R:=fun v w'=>∃o' c',v = .slice o' l.length c'∧Own encI 1 ty_int w.heap.size w' o' c' l∧ExtX [] w w') ?_).mono fun e w' ⟨v,he,o',c',hv,h1,h2⟩=>⟨o',c',by rw [he,hv],h1,h2⟩
 have hm:=zb3
 refine fun wr hx _=>⟨_,_,_,_,zpq zcq zmx l.length (by omega) (by omega) wr,zby,?_⟩
 refine ze5 l.length 0 rfl (fun k w1=>k≤l.length∧Own encI 1 ty_int wr.heap.size w1 (some ⟨wr.heap.size,0,none⟩) l.length (l.take k++List.replicate (l.length - k) 0)∧ExtX [] wr w1) (fun w1 hx1 _=>⟨Nat.zero_le _,by simpa using (zh8 (enc:=encI) zcq.len ty_int l.length 0 wr).ext0 hx1,(zb1 wr _).trans hx1⟩) fun k w1 _ ⟨hk,hO,hX⟩=>⟨fun hlt => ?_,fun hge => ?_⟩
 ·have hlt:=of_decide_eq_true hlt
  have hr:=(h.ext hx).ext hX
  have hlen:(l.take k++List.replicate (l.length - k) 0).length=l.length:=by simp; omega
  have hi:((k:Int))<((l.take k++List.replicate (l.length - k) 0).length:Int):=by rw [hlen]; exact hlt
  refine ⟨hr.ix zex (by omega) hlt,_,hr k (by omega) hlt,by have:=hO.ix (i:=(k:Int)) (by omega) hi; rwa [hlen] at this,hO.wr zcq.len (by simp) (by omega) hi (j:=0) (by omega),zfs hlt (by omega),fun w2 hx2 _=>zae (by omega) ⟨by omega,?_,?_⟩⟩
  ·have:=(hO.sto zcq.len (i:=(k:Int)) (by omega) hi (j:=0) (vs:=encI (gi l k)) (x:=gi l k) (by rw [List.take_zero,List.nil_append,List.drop_eq_nil_iff.2 (by rw [Nat.zero_add,zcq.len,zcq.len]; exact Nat.le_refl _),List.append_nil]) (by rw [Nat.zero_add,zcq.len]; exact Nat.le_refl _)).ext0 hx2
   rwa [Int.toNat_natCast,znp l k (by omega)] at this
  ·exact (hO.stoB _ _ hX (Nat.le_refl _)).trans hx2
 ·have hge:=of_decide_eq_false hge
  have hk:k=l.length:=by omega
  subst hk
  simp only [List.take_length,Nat.sub_self,List.replicate_zero,List.append_nil] at hO
  exact fun w2 hx2=>⟨_,_,rfl,(hO.ext0 hx2).mono hx.size,(hx.trans hX).trans hx2⟩
theorem zada {o:Option Addr} {n c:Nat} {left:Int} {w:World} {bs:List Nat} (hn:n≤maxLen) (hl:0≤left) (hl2:left≤1048576):zab bs Tryz.prog zjt #[.slice o n c,.int .i64 left] w (.int .i64 (szN n left)) :=
 z0y o n c left fun wr hx=>by
  have:=zdp
  exact ⟨⟨by omega,by omega⟩,fun h=>by rw [szN,if_pos (of_decide_eq_true h)],fun h=>by rw [szN,if_neg (of_decide_eq_false h)]⟩
theorem zac5 {a b:List Bool} {aO bO:Option Addr} {aC bC:Nat} {w:World} {bs:List Nat} (ha:RdB bs w aO a) (hb:RdB bs w bO b) (ha9:a.length≤maxLen):zab bs Tryz.prog zjp #[.slice aO a.length aC,.slice bO b.length bC] w (.bool (decide (a=b))) :=
 z0t aO a.length aC bO b.length bC fun wr hx=>by
  have ha:=(ha.ext hx).less (cs:=[]) (by simp)
  have hb:=(hb.ext hx).less (cs:=[]) (by simp)
  refine ⟨fun h => ?_,fun h => ?_⟩
  ·have h:a.length≠b.length:=by simpa [Int.ofNat_inj] using h
   rw [decide_eq_false fun e=>h (by rw [e])]
  ·have hl:a.length=b.length:=by simpa [Int.ofNat_inj] using h
   refine zgd a.length 0 rfl (fun k=>k≤a.length∧∀j:Nat,j<k→gi a (j:Int)=gi b (j:Int)) ⟨Nat.zero_le _,fun j hj=>absurd hj (Nat.not_lt_zero j)⟩ fun k ⟨hk,hI⟩=>⟨fun hlt => ?_,fun hge => ?_⟩
   ·have hlt:=of_decide_eq_true hlt
    refine ⟨ha.ix znn (by omega) hlt,_,ha k (by omega) hlt,hb.ix znn (by omega) (by omega),_,hb k (by omega) (by omega),fun hne => ?_,fun heq=>⟨zfs hlt ha9,zal (by omega) ?_⟩⟩
    ·have hne:gi a (k:Int)≠gi b (k:Int):=by simpa using hne
     rw [decide_eq_false fun e=>hne (by rw [e])]
    ·have heq:gi a (k:Int)=gi b (k:Int):=by simpa using heq
     exact ⟨by omega,fun j hj=>by
      by_cases hjk:j<k
      ·exact hI j hjk
      ·have:j=k:=by omega
       subst this; exact heq⟩
   ·have hge:=of_decide_eq_false hge
    have hk:k=a.length:=by omega
    subst hk
    rw [decide_eq_true (zpe hl hI)]
theorem zade {l:List Bool} {o:Option Addr} {c:Nat} {w:World} (h:RdB [] w o l) (hl:l.length≤1048576) :
  Calls Tryz.prog zjx #[.slice o l.length c] w fun e w'=>∃o' c',e = .returned (.slice o' l.length c')∧Own encB 1 za2 w.heap.size w' o' c' l∧ExtX [] w w':=by
 refine (zz3 o l.length c (R:=fun v w'=>∃o' c',v = .slice o' l.length c'∧Own encB 1 za2 w.heap.size w' o' c' l∧ExtX [] w w') ?_).mono fun e w' ⟨v,he,o',c',hv,h1,h2⟩=>⟨o',c',by rw [he,hv],h1,h2⟩
 have hm:=zb3
 refine fun wr hx _=>⟨_,_,_,_,zpq zcp zok l.length (by omega) (by omega) wr,zby,?_⟩
 refine ze5 l.length 0 rfl (fun k w1=>k≤l.length∧Own encB 1 za2 wr.heap.size w1 (some ⟨wr.heap.size,0,none⟩) l.length (l.take k++List.replicate (l.length - k) false)∧ExtX [] wr w1) (fun w1 hx1 _=>⟨Nat.zero_le _,by simpa using (zh8 (enc:=encB) zcp.len za2 l.length false wr).ext0 hx1,(zb1 wr _).trans hx1⟩) fun k w1 _ ⟨hk,hO,hX⟩=>⟨fun hlt => ?_,fun hge => ?_⟩
 ·have hlt:=of_decide_eq_true hlt
  have hr:=(h.ext hx).ext hX
  have hlen:(l.take k++List.replicate (l.length - k) false).length=l.length:=by simp; omega
  have hi:((k:Int))<((l.take k++List.replicate (l.length - k) false).length:Int):=by rw [hlen]; exact hlt
  refine ⟨hr.ix znn (by omega) hlt,_,hr k (by omega) hlt,by have:=hO.ix (i:=(k:Int)) (by omega) hi; rwa [hlen] at this,hO.wr zcp.len (by simp) (by omega) hi (j:=0) (by omega),zfs hlt (by omega),fun w2 hx2 _=>zae (by omega) ⟨by omega,?_,?_⟩⟩
  ·have:=(hO.sto zcp.len (i:=(k:Int)) (by omega) hi (j:=0) (vs:=encB (gi l k)) (x:=gi l k) (by rw [List.take_zero,List.nil_append,List.drop_eq_nil_iff.2 (by rw [Nat.zero_add,zcp.len,zcp.len]; exact Nat.le_refl _),List.append_nil]) (by rw [Nat.zero_add,zcp.len]; exact Nat.le_refl _)).ext0 hx2
   rwa [Int.toNat_natCast,znp l k (by omega)] at this
  ·exact (hO.stoB _ _ hX (Nat.le_refl _)).trans hx2
 ·have hge:=of_decide_eq_false hge
  have hk:k=l.length:=by omega
  subst hk
  simp only [List.take_length,Nat.sub_self,List.replicate_zero,List.append_nil] at hO
  exact fun w2 hx2=>⟨_,_,rfl,(hO.ext0 hx2).mono hx.size,(hx.trans hX).trans hx2⟩
theorem zbo:Elt Tryz.prog encS 5 za4 40 (⟨0,false,0,0,0⟩:Shf):=zs9 (by kernel_rfl) fun _=>rfl
theorem zkf:Tryz.prog.underlying zbk=some (.slice za4):=by kernel_rfl
theorem zaa3 {o:Option Addr} {n c:Nat} {left:Int} {w:World} {bs:List Nat} (hn:n≤maxLen) (hl:0≤left) (hl2:left≤1048576):zab bs Tryz.prog zix #[.slice o n c,.int .i64 left] w (.int .i64 (szN n left)) :=
 zyd o n c left fun wr hx=>by
  have:=zdp
  exact ⟨⟨by omega,by omega⟩,fun h=>by rw [szN,if_pos (of_decide_eq_true h)],fun h=>by rw [szN,if_neg (of_decide_eq_false h)]⟩
theorem zac7 {a b:Shf} {w:World} {bs:List Nat}:zab bs Tryz.prog zjr #[.agg (encS a).toArray,.agg (encS b).toArray] w (.bool (decide (a=b))) :=
 z0v a.floor a.on a.v a.w a.sum b.floor b.on b.v b.w b.sum fun wr hx=>by
  cases a; cases b
  intro _ _ _ _
  repeat' (apply And.intro <;> intro h)
  all_goals (congr 1; simp_all)
theorem zadg {a:Shf} {w:World} {bs:List Nat}:zab bs Tryz.prog zjz #[.agg (encS a).toArray] w (.agg (encS a).toArray) :=
 z02 a.floor a.on a.v a.w a.sum fun wr hx=>by
  intro _ _ _ _ _ _
  rfl
theorem zaaw {a b:List Shf} {aO bO:Option Addr} {aC bC:Nat} {w:World} {bs:List Nat} (ha:RdS bs w aO a) (hb:RdS bs w bO b) (ha9:a.length≤maxLen):zab bs Tryz.prog zir #[.slice aO a.length aC,.slice bO b.length bC] w (.bool (decide (a=b))) :=
 zx9 aO a.length aC bO b.length bC fun wr hx=>by
  have ha:=(ha.ext hx).less (cs:=[]) (by simp)
  have hb:=(hb.ext hx).less (cs:=[]) (by simp)
  refine ⟨fun h => ?_,fun h => ?_⟩
  ·have h:a.length≠b.length:=by simpa [Int.ofNat_inj] using h
   rw [decide_eq_false fun e=>h (by rw [e])]
  ·have hl:a.length=b.length:=by simpa [Int.ofNat_inj] using h
   refine zgd a.length 0 rfl (fun k=>k≤a.length∧∀j:Nat,j<k→gi a (j:Int)=gi b (j:Int)) ⟨Nat.zero_le _,fun j hj=>absurd hj (Nat.not_lt_zero j)⟩ fun k ⟨hk,hI⟩=>⟨fun hlt => ?_,fun hge => ?_⟩
   ·have hlt:=of_decide_eq_true hlt
    refine ⟨ha.ix zey (by omega) hlt,_,_,_,_,_,ha k (by omega) hlt,hb.ix zey (by omega) (by omega),_,_,_,_,_,hb k (by omega) (by omega),_,zac7 (a:=gi a k) (b:=gi b k),fun hne => ?_,fun heq=>⟨zfs hlt ha9,zal (by omega) ?_⟩⟩
    ·have hne:gi a (k:Int)≠gi b (k:Int):=by simpa using hne
     rw [decide_eq_false fun e=>hne (by rw [e])]
    ·have heq:gi a (k:Int)=gi b (k:Int):=by simpa using heq
     exact ⟨by omega,fun j hj=>by
      by_cases hjk:j<k
      ·exact hI j hjk
      ·have:j=k:=by omega
       subst this; exact heq⟩
   ·have hge:=of_decide_eq_false hge
    have hk:k=a.length:=by omega
    subst hk
    rw [decide_eq_true (zpe hl hI)]
theorem zaa5 {l:List Shf} {o:Option Addr} {c:Nat} {w:World} (h:RdS [] w o l) (hl:l.length≤1048576) :
  Calls Tryz.prog ziz #[.slice o l.length c] w fun e w'=>∃o' c',e = .returned (.slice o' l.length c')∧Own encS 5 za4 w.heap.size w' o' c' l∧ExtX [] w w':=by
 refine (zwt o l.length c (R:=fun v w'=>∃o' c',v = .slice o' l.length c'∧Own encS 5 za4 w.heap.size w' o' c' l∧ExtX [] w w') ?_).mono fun e w' ⟨v,he,o',c',hv,h1,h2⟩=>⟨o',c',by rw [he,hv],h1,h2⟩
 have hm:=zb3
 refine fun wr hx _=>⟨_,_,_,_,zpq zbo zkf l.length (by omega) (by omega) wr,zby,?_⟩
 refine ze5 l.length 0 rfl (fun k w1=>k≤l.length∧Own encS 5 za4 wr.heap.size w1 (some ⟨wr.heap.size,0,none⟩) l.length (l.take k++List.replicate (l.length - k) (⟨0,false,0,0,0⟩:Shf))∧ExtX [] wr w1) (fun w1 hx1 _=>⟨Nat.zero_le _,by simpa using (zh8 (enc:=encS) zbo.len za4 l.length (⟨0,false,0,0,0⟩:Shf) wr).ext0 hx1,(zb1 wr _).trans hx1⟩) fun k w1 _ ⟨hk,hO,hX⟩=>⟨fun hlt => ?_,fun hge => ?_⟩
 ·have hlt:=of_decide_eq_true hlt
  have hr:=(h.ext hx).ext hX
  have hlen:(l.take k++List.replicate (l.length - k) (⟨0,false,0,0,0⟩:Shf)).length=l.length:=by simp; omega
  have hi:((k:Int))<((l.take k++List.replicate (l.length - k) (⟨0,false,0,0,0⟩:Shf)).length:Int):=by rw [hlen]; exact hlt
  refine ⟨hr.ix zey (by omega) hlt,_,_,_,_,_,hr k (by omega) hlt,_,_,_,_,_,(zadg (a:=gi l k)),by have:=hO.ix (i:=(k:Int)) (by omega) hi; rwa [hlen] at this,hO.wr zbo.len (by simp) (by omega) hi (j:=0) (by omega),zfs hlt (by omega),fun w2 hx2 _=>zae (by omega) ⟨by omega,?_,?_⟩⟩
  ·have:=(hO.sto zbo.len (i:=(k:Int)) (by omega) hi (j:=0) (vs:=encS (gi l k)) (x:=gi l k) (by rw [List.take_zero,List.nil_append,List.drop_eq_nil_iff.2 (by rw [Nat.zero_add,zbo.len,zbo.len]; exact Nat.le_refl _),List.append_nil]) (by rw [Nat.zero_add,zbo.len]; exact Nat.le_refl _)).ext0 hx2
   rwa [Int.toNat_natCast,znp l k (by omega)] at this
  ·exact (hO.stoB _ _ hX (Nat.le_refl _)).trans hx2
 ·have hge:=of_decide_eq_false hge
  have hk:k=l.length:=by omega
  subst hk
  simp only [List.take_length,Nat.sub_self,List.replicate_zero,List.append_nil] at hO
  exact fun w2 hx2=>⟨_,_,rfl,(hO.ext0 hx2).mono hx.size,(hx.trans hX).trans hx2⟩
end Go.Proofs.YthhmnlcimojhlaaGreatDoor
namespace Go.Proofs.YthhmnlcimojhlaaGreatDoor
open Go.RowKit
set_option linter.unusedVariables false
set_option linter.unusedSimpArgs false
set_option maxRecDepth 10000
def zcw (b:Bnd) (m:MG):List Value:=[.int .i64 b.quota,.int .i64 b.pool,.int .i64 b.spent,.slice m.lO b.locals.length m.lC,.slice m.dO b.dry.length m.dC]
structure SmG (g:Grp):Prop where
 nm:g.name.size≤1048576
 lo:g.band.locals.length≤1048576
 dr:g.band.dry.length≤1048576
 sh:g.shelves.length≤1048576
def szBd (b:Bnd) (left:Int):Int:=if szN b.locals.length left<0 then -1 else if szN b.dry.length (szN b.locals.length left)<0 then -1 else szN b.dry.length (szN b.locals.length left)
theorem zako {n:Nat} {left:Int} (h:0≤left):szN n left≤left:=by unfold szN; split <;> omega
theorem zagj {b:Bnd} {m:MG} {left:Int} {w:World} {bs:List Nat} (h1:b.locals.length≤maxLen) (h2:b.dry.length≤maxLen) (hl:0≤left) (hl2:left≤1048576):zab bs Tryz.prog zk7 #[.agg (zcw b m).toArray,.int .i64 left] w (.int .i64 (szBd b left)) :=
 z4y b.quota b.pool b.spent m.lO b.locals.length m.lC m.dO b.dry.length m.dC left fun wr hx=>by
  intro _ _
  have hn:=zako (n:=b.locals.length) hl
  refine ⟨_,zagl h1 hl hl2,fun h => ?_,fun h => ?_⟩
  ·have h:=of_decide_eq_true h
   rw [szBd,if_pos h]
  ·have h:=of_decide_eq_false h
   refine ⟨_,zada h2 (by omega) (by omega),fun h' => ?_,fun h' => ?_⟩
   ·rw [szBd,if_neg h,if_pos (of_decide_eq_true h')]
   ·rw [szBd,if_neg h,if_neg (of_decide_eq_false h')]
theorem zaet {b:Bnd} {left:Int} (hl:0≤left) (h:0≤szBd b left):szBd b left≤left∧(b.locals.length:Int)≤left∧(b.dry.length:Int)≤left:=by
 unfold szBd at h ⊢
 split at h
 ·omega
 ·split at h
  ·omega
  ·rename_i h1 h2
   rw [if_neg h1,if_neg h2]
   have a:=zyy (n:=b.locals.length) (left:=left) (by omega)
   have c:=zyy (n:=b.dry.length) h
   omega
def szGp (g:Grp) (left:Int):Int :=
 if left - (g.name.size:Int)<0 then -1 else if szBd g.band (left - (g.name.size:Int))<0 then -1 else if szN g.shelves.length (szBd g.band (left - (g.name.size:Int)))<0 then -1 else szN g.shelves.length (szBd g.band (left - (g.name.size:Int)))
theorem zaeu {g:Grp} {left:Int} (hl2:left≤1048576) (h:0≤szGp g left):szGp g left≤left∧SmG g:=by
 unfold szGp at h ⊢
 split at h
 ·omega
 ·split at h
  ·omega
  ·split at h
   ·omega
   ·rename_i h1 h2 h3
    rw [if_neg h1,if_neg h2,if_neg h3]
    have hb:=zaet (b:=g.band) (left:=left - (g.name.size:Int)) (by omega) (by omega)
    have hs:=zyy h
    exact ⟨by omega,by omega,by omega,by omega,by omega⟩
theorem zadb {g:Grp} {m:MG} {left:Int} {w:World} {bs:List Nat} (hf:FitG g) (hl:0≤left) (hl2:left≤1048576) :
  zab bs Tryz.prog zju #[.agg (encG g m).toArray,.int .i64 left] w (.int .i64 (szGp g left)) :=
 z0z g.used g.parent g.name g.weight g.cpus g.period g.next g.sum g.band.quota g.band.pool g.band.spent m.lO g.band.locals.length m.lC m.dO g.band.dry.length m.dC m.sO g.shelves.length m.sC left fun wr hx=>by
  have hm:=zdp
  have hnm:=hf.nm
  intro _ _
  refine ⟨⟨by omega,by omega⟩,fun h=>by rw [szGp,if_pos (of_decide_eq_true h)],fun h => ?_⟩
  have h:=of_decide_eq_false h
  refine ⟨_,zagj (m:=m) hf.lo hf.dr (by omega) (by omega),fun h2=>by rw [szGp,if_neg h,if_pos (of_decide_eq_true h2)],fun h2 => ?_⟩
  have h2:=of_decide_eq_false h2
  have hb:=zaet (b:=g.band) (left:=left - (g.name.size:Int)) (by omega) (by omega)
  exact ⟨_,zaa3 hf.sh (by omega) (by omega),fun h3=>by rw [szGp,if_neg h,if_neg h2,if_pos (of_decide_eq_true h3)],fun h3=>by rw [szGp,if_neg h,if_neg h2,if_neg (of_decide_eq_false h3)]⟩
def szGs:List Grp→Int→Int
 | [],x=>x
 | g::r,x=>if szGp g x<0 then -1 else szGs r (szGp g x)
theorem zaev:∀{gs:List Grp} {x:Int},x≤1048576→0≤szGs gs x→szGs gs x≤x∧∀g∈gs,SmG g
 | [],x,_,h=>⟨Int.le_refl _,fun g hg=>by cases hg⟩
 | g::r,x,hx,h=>by
  simp only [szGs] at h ⊢
  split at h
  ·omega
  ·rename_i h1
   rw [if_neg h1]
   obtain ⟨a,b⟩:=zaeu (g:=g) hx (by omega)
   obtain ⟨c,d⟩:=zaev (gs:=r) (x:=szGp g x) (by omega) h
   exact ⟨by omega,fun y hy=>by
    rcases List.mem_cons.1 hy with rfl | hy
    ·exact b
    ·exact d y hy⟩
def szGS (gs:List Grp) (left:Int):Int:=if left - (gs.length:Int)<0 then -1 else szGs gs (left - (gs.length:Int))
theorem zajp {gs:List Grp} {left:Int} (hl2:left≤1048576) (h:0≤szGS gs left):szGS gs left≤left∧gs.length≤1048576∧∀i:Int,0≤i→i<(gs.length:Int)→SmG (gi gs i):=by
 unfold szGS at h ⊢
 split at h
 ·omega
 ·rename_i h1
  rw [if_neg h1]
  obtain ⟨a,b⟩:=zaev (gs:=gs) (x:=left - (gs.length:Int)) (by omega) h
  exact ⟨by omega,by omega,fun i h0 hi=>b _ (z9p h0 hi)⟩
theorem zaa2 {gs:List Grp} {ms:Nat→MG} {o:Option Addr} {c:Nat} {left:Int} {w:World} (h:RdG [] w o gs ms) (hf:∀i:Int,0≤i→i<(gs.length:Int)→FitG (gi gs i)) (hl:0≤left) (hl2:left≤1048576) (hm:gs.length≤maxLen) :
  zab [] Tryz.prog ziw #[.slice o gs.length c,.int .i64 left] w (.int .i64 (szGS gs left)) :=
 zyc o gs.length c left fun wr hx=>by
  have hml:=zdp
  have h:=h.ext hx
  refine ⟨⟨by omega,by omega⟩,fun h1=>by rw [szGS,if_pos (of_decide_eq_true h1)],fun h1 => ?_⟩
  have h1:=of_decide_eq_false h1
  refine zq8 gs.length 0 rfl (fun x k=>k≤gs.length∧0≤x∧x≤left∧szGs (gs.drop k) x=szGS gs left) ⟨Nat.zero_le _,by omega,by omega,by rw [szGS,if_neg h1]; rfl⟩ fun x k ⟨hk,hx0,hx1,he⟩=>⟨fun hlt => ?_,fun hge => ?_⟩
  ·have hlt:=of_decide_eq_true hlt
   have hd:gs.drop k=gi gs (k:Int)::gs.drop (k+1):=by rw [List.drop_eq_getElem_cons (by omega),ze4 (by omega)]
   rw [hd] at he
   simp only [szGs] at he
   refine ⟨h.ix (by omega) hlt,_,_,_,_,_,_,_,_,_,_,_,_,_,_,_,_,_,_,_,_,h.cells k (by omega) hlt,_,zadb (m:=ms k) (hf k (by omega) hlt) hx0 (by omega),fun h2 => ?_,fun h2 => ?_⟩
   ·rw [if_pos (of_decide_eq_true h2)] at he
    rw [←he]
   ·have h2:=of_decide_eq_false h2
    rw [if_neg h2] at he
    have:=(zaeu (g:=gi gs (k:Int)) (left:=x) (by omega) (by omega)).1
    exact ⟨zfs hlt hm,zbp (by omega) ⟨by omega,by omega,by omega,he⟩⟩
  ·have hge:=of_decide_eq_false hge
   have hk:k=gs.length:=by omega
   subst hk
   rw [List.drop_length] at he
   rw [←he]; rfl
theorem zik {a b:ByteArray}:zck a b=true↔a=b:=by
 unfold zck
 rw [beq_iff_eq]
 constructor
 ·intro h
  have h1:∀x:ByteArray,x.toList=x.data.toList:=fun x=>by
   have key:∀(n i:Nat) (r:List UInt8),n=x.size - i→ByteArray.toList.loop x i r=r.reverse++x.data.toList.drop i:=by
    intro n
    induction n with
    | zero =>
     intro i r hn
     unfold ByteArray.toList.loop
     rw [if_neg (by omega),List.drop_eq_nil_iff.2 (by simp only [Array.length_toList]; show x.size≤i; omega),List.append_nil]
    | succ n ih =>
     intro i r hn
     unfold ByteArray.toList.loop
     have hi:i<x.data.toList.length:=by simp only [Array.length_toList]; show i<x.size; omega
     rw [if_pos (by omega),ih (i+1) _ (by omega),List.reverse_cons,List.append_assoc,List.singleton_append,List.drop_eq_getElem_cons hi]
     have:x.get! i=x.data.toList[i]:=by
      have hi':i<x.data.size:=by simpa using hi
      simp [ByteArray.get!,getElem!_pos x.data i hi']
     rw [this]
   have:=key _ 0 [] rfl
   simpa [ByteArray.toList] using this
  rw [h1,h1] at h
  cases a; cases b
  simp only at h
  congr 1
  exact Array.ext' h
 ·rintro rfl; rfl
theorem zrr (a b:ByteArray):zck a b=decide (a=b):=by
 cases h:zck a b with
 | true=>rw [decide_eq_true (zik.1 h)]
 | false=>rw [decide_eq_false fun e=>by rw [zik.2 e] at h; cases h]
theorem zage {a b:Bnd} {m n:MG} {w:World} {bs:List Nat} (h1:RdI bs w m.lO a.locals) (h2:RdB bs w m.dO a.dry) (k1:RdI bs w n.lO b.locals) (k2:RdB bs w n.dO b.dry) (l1:a.locals.length≤maxLen) (l2:a.dry.length≤maxLen) :
  zab bs Tryz.prog zk3 #[.agg (zcw a m).toArray,.agg (zcw b n).toArray] w (.bool (decide (a=b))) :=
 z4u a.quota a.pool a.spent m.lO a.locals.length m.lC m.dO a.dry.length m.dC b.quota b.pool b.spent n.lO b.locals.length n.lC n.dO b.dry.length n.dC fun wr hx=>by
  have h1:=(h1.ext hx).less (cs:=[]) (by simp)
  have h2:=(h2.ext hx).less (cs:=[]) (by simp)
  have k1:=(k1.ext hx).less (cs:=[]) (by simp)
  have k2:=(k2.ext hx).less (cs:=[]) (by simp)
  cases a; cases b
  intro _ _ _ _
  refine ⟨fun q => ?_,fun q1=>⟨fun q => ?_,fun q2=>⟨fun q => ?_,fun q3=>⟨_,zagg h1 k1 l1,fun q => ?_,fun q4=>⟨_,zac5 h2 k2 l2,fun q => ?_,fun q5 => ?_⟩⟩⟩⟩⟩ <;> (congr 1; simp_all)
theorem zac6 {a b:Grp} {m n:MG} {w:World} {bs:List Nat} (h1:RdI bs w m.lO a.band.locals) (h2:RdB bs w m.dO a.band.dry) (h3:RdS bs w m.sO a.shelves) (k1:RdI bs w n.lO b.band.locals) (k2:RdB bs w n.dO b.band.dry) (k3:RdS bs w n.sO b.shelves)
  (l1:a.band.locals.length≤maxLen) (l2:a.band.dry.length≤maxLen) (l3:a.shelves.length≤maxLen) :
  zab bs Tryz.prog zjq #[.agg (encG a m).toArray,.agg (encG b n).toArray] w (.bool (decide (a=b))) :=
 z0u a.used a.parent a.name a.weight a.cpus a.period a.next a.sum a.band.quota a.band.pool a.band.spent m.lO a.band.locals.length m.lC m.dO a.band.dry.length m.dC m.sO a.shelves.length m.sC
  b.used b.parent b.name b.weight b.cpus b.period b.next b.sum b.band.quota b.band.pool b.band.spent n.lO b.band.locals.length n.lC n.dO b.band.dry.length n.dC n.sO b.shelves.length n.sC fun wr hx=>by
  have h1:=(h1.ext hx).less (cs:=[]) (by simp)
  have h2:=(h2.ext hx).less (cs:=[]) (by simp)
  have h3:=(h3.ext hx).less (cs:=[]) (by simp)
  have k1:=(k1.ext hx).less (cs:=[]) (by simp)
  have k2:=(k2.ext hx).less (cs:=[]) (by simp)
  have k3:=(k3.ext hx).less (cs:=[]) (by simp)
  cases a; cases b
  intro _ _ _ _
  simp only [zrr]
  refine ⟨fun q => ?_,fun q1=>⟨fun q => ?_,fun q2=>⟨fun q => ?_,fun q3=>⟨fun q => ?_,fun q4=>⟨fun q => ?_,fun q5=>⟨fun q => ?_,fun q6=>⟨fun q => ?_,fun q7=>⟨fun q => ?_,fun q8=>⟨_,zage h1 h2 k1 k2 l1 l2,fun q => ?_,fun q9=>⟨_,zaaw h3 k3 l3,fun q => ?_,fun q10 => ?_⟩⟩⟩⟩⟩⟩⟩⟩⟩⟩ <;> (congr 1; simp_all)
theorem zaav {a b:List Grp} {am bm:Nat→MG} {aO bO:Option Addr} {aC bC:Nat} {w:World} {bs:List Nat} (ha:RdG bs w aO a am) (hb:RdG bs w bO b bm) (hs:∀i:Int,0≤i→i<(a.length:Int)→SmG (gi a i)) (ha9:a.length≤maxLen) :
  zab bs Tryz.prog ziq #[.slice aO a.length aC,.slice bO b.length bC] w (.bool (decide (a=b))) :=
 zx8 aO a.length aC bO b.length bC fun wr hx=>by
  have ha:=(ha.ext hx).less (cs:=[]) (by simp)
  have hb:=(hb.ext hx).less (cs:=[]) (by simp)
  have hm:=zb3
  refine ⟨fun h => ?_,fun h => ?_⟩
  ·have h:a.length≠b.length:=by simpa [Int.ofNat_inj] using h
   rw [decide_eq_false fun e=>h (by rw [e])]
  ·have hl:a.length=b.length:=by simpa [Int.ofNat_inj] using h
   refine zgd a.length 0 rfl (fun k=>k≤a.length∧∀j:Nat,j<k→gi a (j:Int)=gi b (j:Int)) ⟨Nat.zero_le _,fun j hj=>absurd hj (Nat.not_lt_zero j)⟩ fun k ⟨hk,hI⟩=>⟨fun hlt => ?_,fun hge => ?_⟩
   ·have hlt:=of_decide_eq_true hlt
    have h9:=hs k (by omega) hlt
    have hlt':(k:Int)<(b.length:Int):=by omega
    refine ⟨ha.ix (by omega) hlt,_,_,_,_,_,_,_,_,_,_,_,_,_,_,_,_,_,_,_,_,ha.cells k (by omega) hlt,hb.ix (by omega) hlt',_,_,_,_,_,_,_,_,_,_,_,_,_,_,_,_,_,_,_,_,hb.cells k (by omega) hlt',_,
     zac6 (a:=gi a k) (b:=gi b k) (ha.locals k (by omega) hlt) (ha.dry k (by omega) hlt) (ha.shelves k (by omega) hlt) (hb.locals k (by omega) hlt') (hb.dry k (by omega) hlt') (hb.shelves k (by omega) hlt') (by have:=h9.lo; omega) (by have:=h9.dr; omega) (by have:=h9.sh; omega),fun hne => ?_,fun heq=>⟨zfs hlt ha9,zal (by omega) ?_⟩⟩
    ·have hne:gi a (k:Int)≠gi b (k:Int):=by simpa using hne
     rw [decide_eq_false fun e=>hne (by rw [e])]
    ·have heq:gi a (k:Int)=gi b (k:Int):=by simpa using heq
     exact ⟨by omega,fun j hj=>by
      by_cases hjk:j<k
      ·exact hI j hjk
      ·have:j=k:=by omega
       subst this; exact heq⟩
   ·have hge:=of_decide_eq_false hge
    have hk:k=a.length:=by omega
    subst hk
    rw [decide_eq_true (zpe hl hI)]
def encP (p:Grp×MG):List Value:=encG p.1 p.2
def z87:Grp×MG:=(⟨false,0,ByteArray.empty,0,0,0,0,0,⟨0,0,0,[],[]⟩,[]⟩,⟨none,0,none,0,none,0⟩)
theorem zcl:Elt Tryz.prog encP 14 zbg 168 z87:=zs9 (by kernel_rfl) fun _=>rfl
theorem zke:Tryz.prog.underlying zar=some (.slice zbg):=by kernel_rfl
def zag (m:MG):List Nat:=zaq m.lO++zaq m.dO++zaq m.sO
structure OwnM (base:Nat) (w:World) (p:Grp×MG):Prop where
 loc:Own encI 1 ty_int base w p.2.lO p.2.lC p.1.band.locals
 dry:Own encB 1 za2 base w p.2.dO p.2.dC p.1.band.dry
 shl:Own encS 5 za4 base w p.2.sO p.2.sC p.1.shelves
theorem OwnM.ext {base:Nat} {w w':World} {p:Grp×MG} {bs:List Nat} (h:OwnM base w p) (hx:ExtX bs w w') (hd:∀b∈zag p.2,b∉bs):OwnM base w' p :=
 ⟨h.loc.ext hx fun b hb=>hd b (by simp [zag,hb]),h.dry.ext hx fun b hb=>hd b (by simp [zag,hb]),h.shl.ext hx fun b hb=>hd b (by simp [zag,hb])⟩
theorem OwnM.ext0 {base:Nat} {w w':World} {p:Grp×MG} (h:OwnM base w p) (hx:ExtX [] w w'):OwnM base w' p:=h.ext hx (by simp)
theorem OwnM.mono {base base':Nat} {w:World} {p:Grp×MG} (h:OwnM base w p) (hb:base'≤base):OwnM base' w p:=⟨h.loc.mono hb,h.dry.mono hb,h.shl.mono hb⟩
theorem OwnM.lt {base:Nat} {w:World} {p:Grp×MG} (h:OwnM base w p):∀b∈zag p.2,base≤b∧b<w.heap.size:=by
 intro b hb
 simp only [zag,List.mem_append] at hb
 rcases hb with (hb | hb) | hb
 ·exact h.loc.lt b hb
 ·exact h.dry.lt b hb
 ·exact h.shl.lt b hb
theorem OwnM.zero (base:Nat) (w:World):OwnM base w z87:=⟨.inl ⟨rfl,rfl,rfl⟩,.inl ⟨rfl,rfl,rfl⟩,.inl ⟨rfl,rfl,rfl⟩⟩
structure OwnG (base:Nat) (w:World) (o:Option Addr) (cap:Nat) (ps:List (Grp×MG)):Prop where
 row:Own encP 14 zbg base w o cap ps
 each:∀i:Int,0≤i→i<(ps.length:Int)→OwnM base w (gi ps i)
 dj:∀i j:Int,0≤i→i<(ps.length:Int)→0≤j→j<(ps.length:Int)→i≠j→∀b∈zag (gi ps i).2,b∉zag (gi ps j).2
theorem OwnG.ext0 {base:Nat} {w w':World} {o:Option Addr} {cap:Nat} {ps:List (Grp×MG)} (h:OwnG base w o cap ps) (hx:ExtX [] w w'):OwnG base w' o cap ps :=
 ⟨h.row.ext0 hx,fun i a b=>(h.each i a b).ext0 hx,h.dj⟩
theorem OwnG.mono {base base':Nat} {w:World} {o:Option Addr} {cap:Nat} {ps:List (Grp×MG)} (h:OwnG base w o cap ps) (hb:base'≤base):OwnG base' w o cap ps :=
 ⟨h.row.mono hb,fun i a b=>(h.each i a b).mono hb,h.dj⟩
theorem ze8 {base:Nat} {w:World} {o:Option Addr} {cap:Nat} {ps:List (Grp×MG)} (h:Own encP 14 zbg base w o cap ps) {base':Nat} {p:Grp×MG} (hp:OwnM base' w p):∀b∈zag p.2,b∉zaq o:=by
 intro b hb hx
 simp only [zag,List.mem_append] at hb
 rcases hb with (hb | hb) | hb
 ·exact hp.loc.ty_ne h (by decide) b hb hx
 ·exact hp.dry.ty_ne h (by decide) b hb hx
 ·exact hp.shl.ty_ne h (by decide) b hb hx
theorem OwnG.put {base:Nat} {w:World} {o:Option Addr} {cap:Nat} {ps:List (Grp×MG)} (h:OwnG base w o cap ps) {i:Int} (h0:0≤i) (hi:i<(ps.length:Int)) {p:Grp×MG} (hp:OwnM base w p)
  (hd:∀j:Int,0≤j→j<(ps.length:Int)→i≠j→∀b∈zag (gi ps j).2,b∉zag p.2):OwnG base (sto w o (Int.toNat i*14) (encP p)) o cap (ps.set i.toNat p):=by
 have hx:=h.row.stoX (Int.toNat i*14) (encP p)
 have hlen:(ps.set i.toNat p).length=ps.length:=List.length_set
 refine ⟨?_,fun j hj hjl => ?_,fun j k hj hjl hk hkl hjk b hb hb' => ?_⟩
 ·have:=h.row.sto zcl.len h0 hi (j:=0) (vs:=encP p) (x:=p) (by rw [List.take_zero,List.nil_append,List.drop_eq_nil_iff.2 (by rw [Nat.zero_add,zcl.len,zcl.len]; exact Nat.le_refl _),List.append_nil]) (by rw [Nat.zero_add,zcl.len]; exact Nat.le_refl _)
  exact this
 ·rw [hlen] at hjl
  rw [zba _ _ h0 hi hj]
  split
  ·exact hp.ext hx (ze8 h.row hp)
  ·exact (h.each j hj hjl).ext hx (ze8 h.row (h.each j hj hjl))
 ·rw [hlen] at hjl hkl
  rw [zba _ _ h0 hi hj] at hb
  rw [zba _ _ h0 hi hk] at hb'
  by_cases e1:i=j
  ·rw [if_pos e1] at hb
   by_cases e2:i=k
   ·omega
   ·rw [if_neg e2] at hb'
    exact hd k hk hkl e2 b hb' hb
  ·rw [if_neg e1] at hb
   by_cases e2:i=k
   ·rw [if_pos e2] at hb'
    exact hd j hj hjl e1 b hb hb'
   ·rw [if_neg e2] at hb'
    exact h.dj j k hj hjl hk hkl hjk b hb hb'
theorem zago {b:Bnd} {m:MG} {w:World} (h1:RdI [] w m.lO b.locals) (h2:RdB [] w m.dO b.dry) (l1:b.locals.length≤1048576) (l2:b.dry.length≤1048576) :
  Calls Tryz.prog zla #[.agg (zcw b m).toArray] w fun e w'=>∃lO lC dO dC,e = .returned (.agg (zcw b ⟨lO,lC,dO,dC,none,0⟩).toArray)∧Own encI 1 ty_int w.heap.size w' lO lC b.locals∧Own encB 1 za2 w.heap.size w' dO dC b.dry∧(∀x∈zaq lO,x∉zaq dO)∧ExtX [] w w':=by
 refine (z3m b.quota b.pool b.spent m.lO b.locals.length m.lC m.dO b.dry.length m.dC (R:=fun v w'=>∃lO lC dO dC,v = .agg (zcw b ⟨lO,lC,dO,dC,none,0⟩).toArray∧Own encI 1 ty_int w.heap.size w' lO lC b.locals∧Own encB 1 za2 w.heap.size w' dO dC b.dry∧(∀x∈zaq lO,x∉zaq dO)∧ExtX [] w w') ?_).mono fun e w' ⟨v,he,lO,lC,dO,dC,hv,h⟩=>⟨lO,lC,dO,dC,by rw [he,hv],h⟩
 intro b0 hb0 b1 hb1 b2 hb2 wr hx hs
 refine (zagq (h1.ext hx) l1).mono fun e w1 ⟨lO,lC,he,hO1,hx1⟩=>⟨_,_,_,he,za0 hx1 hs,fun wr1 hy1 hs1 => ?_⟩
 have hbs:∀x∈[b0,b1,b2],w.heap.size≤x∨x∈([]:List Nat):=fun x hm=>by
  simp only [List.mem_cons,List.not_mem_nil,or_false] at hm
  rcases hm with rfl | rfl | rfl <;> exact .inl (by assumption)
 have g1:ExtX [] w wr1:=(hx.trans hx1).fresh hy1 hbs
 refine (zade (h2.ext g1) l2).mono fun e w2 ⟨dO,dC,he2,hO2,hx2⟩=>⟨_,_,_,he2,za0 hx2 hs1,fun wr2 hy2=>⟨lO,lC,dO,dC,rfl,?_,?_,?_,(g1.trans hx2).fresh hy2 hbs⟩⟩
 ·have hw:∀x∈zaq lO,x∉[b0,b1,b2]:=fun x hm hm'=>by
   have:=(hO1.lt x hm).1
   have:=hs x hm'
   omega
  exact (((hO1.ext hy1 hw).ext0 hx2).ext hy2 hw).mono hx.size
 ·have hw:∀x∈zaq dO,x∉[b0,b1,b2]:=fun x hm hm'=>by
   have:=(hO2.lt x hm).1
   have:=hs1 x hm'
   omega
  exact (hO2.ext hy2 hw).mono g1.size
 ·intro x hm hm'
  have:=(hO1.lt x hm).2
  have:=hy1.size
  have:=(hO2.lt x hm').1
  omega
theorem zadf {g:Grp} {m:MG} {w:World} (h1:RdI [] w m.lO g.band.locals) (h2:RdB [] w m.dO g.band.dry) (h3:RdS [] w m.sO g.shelves) (hs:SmG g) :
  Calls Tryz.prog zjy #[.agg (encG g m).toArray] w fun e w'=>∃m',e = .returned (.agg (encG g m').toArray)∧OwnM w.heap.size w' (g,m')∧ExtX [] w w':=by
 refine (zz4 g.used g.parent g.name g.weight g.cpus g.period g.next g.sum g.band.quota g.band.pool g.band.spent m.lO g.band.locals.length m.lC m.dO g.band.dry.length m.dC m.sO g.shelves.length m.sC (R:=fun v w'=>∃m',v = .agg (encG g m').toArray∧OwnM w.heap.size w' (g,m')∧ExtX [] w w') ?_).mono fun e w' ⟨v,he,m',hv,h⟩=>⟨m',by rw [he,hv],h⟩
 intro b0 hb0 b1 hb1 b2 hb2 wr hx hs0
 refine (zago (m:=m) (h1.ext hx) (h2.ext hx) hs.lo hs.dr).mono fun e w1 ⟨lO,lC,dO,dC,he,hO1,hO2,_,hx1⟩=>⟨_,_,_,_,_,_,_,_,_,he,za0 hx1 hs0,fun wr1 hy1 hs1 => ?_⟩
 have hbs:∀x∈[b0,b1,b2],w.heap.size≤x∨x∈([]:List Nat):=fun x hm=>by
  simp only [List.mem_cons,List.not_mem_nil,or_false] at hm
  rcases hm with rfl | rfl | rfl <;> exact .inl (by assumption)
 have g1:ExtX [] w wr1:=(hx.trans hx1).fresh hy1 hbs
 refine (zaa5 (h3.ext g1) hs.sh).mono fun e w2 ⟨sO,sC,he2,hO3,hx2⟩=>⟨_,_,_,he2,za0 hx2 hs1,fun wr2 hy2=>⟨⟨lO,lC,dO,dC,sO,sC⟩,rfl,⟨?_,?_,?_⟩,(g1.trans hx2).fresh hy2 hbs⟩⟩
 ·have hw:∀x∈zaq lO,x∉[b0,b1,b2]:=fun x hm hm'=>by
   have:=(hO1.lt x hm).1
   have:=hs0 x hm'
   omega
  exact (((hO1.ext hy1 hw).ext0 hx2).ext hy2 hw).mono hx.size
 ·have hw:∀x∈zaq dO,x∉[b0,b1,b2]:=fun x hm hm'=>by
   have:=(hO2.lt x hm).1
   have:=hs0 x hm'
   omega
  exact (((hO2.ext hy1 hw).ext0 hx2).ext hy2 hw).mono hx.size
 ·have hw:∀x∈zaq sO,x∉[b0,b1,b2]:=fun x hm hm'=>by
   have:=(hO3.lt x hm).1
   have:=hs1 x hm'
   omega
  exact (hO3.ext hy2 hw).mono g1.size
theorem zaa4 {gs:List Grp} {ms:Nat→MG} {o:Option Addr} {c:Nat} {w:World} (h:RdG [] w o gs ms) (hs:∀i:Int,0≤i→i<(gs.length:Int)→SmG (gi gs i)) (hl:gs.length≤1048576) :
  Calls Tryz.prog ziy #[.slice o gs.length c] w fun e w'=>∃o' c' ps,e = .returned (.slice o' gs.length c')∧ps.map (·.1)=gs∧OwnG w.heap.size w' o' c' ps∧ExtX [] w w':=by
 refine (zws o gs.length c (R:=fun v w'=>∃o' c' ps,v = .slice o' gs.length c'∧ps.map (·.1)=gs∧OwnG w.heap.size w' o' c' ps∧ExtX [] w w') ?_).mono fun e w' ⟨v,he,o',c',ps,hv,h⟩=>⟨o',c',ps,by rw [he,hv],h⟩
 have hm:=zb3
 refine fun wr hx _=>⟨_,_,_,_,zpq zcl zke gs.length (by omega) (by omega) wr,zby,?_⟩
 refine ze5 gs.length 0 rfl (fun k w1=>k≤gs.length∧ExtX [] wr w1∧∃ps:List (Grp×MG),ps.length=gs.length∧(∀j:Nat,j<k→(gi ps (j:Int)).1=gi gs (j:Int))∧OwnG wr.heap.size w1 (some ⟨wr.heap.size,0,none⟩) gs.length ps) (fun w1 hx1 _=>⟨Nat.zero_le _,(zb1 wr _).trans hx1,List.replicate gs.length z87,by simp,fun j hj=>absurd hj (Nat.not_lt_zero j),?_⟩) fun k w1 _ ⟨hk,hX,ps,hpl,hpe,hO⟩=>⟨fun hlt => ?_,fun hge => ?_⟩
 ·have hz:∀i:Int,0≤i→i<((List.replicate gs.length z87).length:Int)→gi (List.replicate gs.length z87) i=z87:=fun i h0 hi=>by
   have:=z9p h0 hi
   exact List.eq_of_mem_replicate this
  refine ⟨(zh8 (enc:=encP) zcl.len zbg gs.length z87 wr).ext0 hx1,fun i h0 hi=>by rw [hz i h0 hi]; exact OwnM.zero _ _,fun i j h0 hi hj hjl _ b hb => ?_⟩
  rw [hz i h0 hi] at hb
  cases hb
 ·have hlt:=of_decide_eq_true hlt
  have hr:=(h.ext hx).ext hX
  have hi:(k:Int)<(ps.length:Int):=by omega
  refine ⟨hr.ix (by omega) hlt,_,_,_,_,_,_,_,_,_,_,_,_,_,_,_,_,_,_,_,_,hr.cells k (by omega) hlt,fun w2 hx2 _ => ?_⟩
  have hr2:=hr.ext hx2
  refine (zadf (hr2.locals k (by omega) hlt) (hr2.dry k (by omega) hlt) (hr2.shelves k (by omega) hlt) (hs k (by omega) hlt)).mono fun e w3 ⟨m',he,hM,hx3⟩ => ?_
  have hO3:=hO.ext0 (hx2.trans hx3)
  have hb:wr.heap.size≤w2.heap.size:=(hX.trans hx2).size
  have hdj:∀j:Int,0≤j→j<(ps.length:Int)→(k:Int)≠j→∀b∈zag (gi ps j).2,b∉zag m':=fun j hj hjl _ b hb hb'=>by
   have h1:=((hO.each j hj hjl).ext0 hx2).lt b hb
   have h2:=hM.lt b hb'
   omega
  have hput:=hO3.put (i:=(k:Int)) (by omega) hi (p:=(gi gs (k:Int),m')) (hM.mono hb) hdj
  refine ⟨_,_,_,_,_,_,_,_,_,_,_,_,_,_,_,_,_,_,_,_,he,zby,by have:=hO.row.ix (i:=(k:Int)) (by omega) hi; rwa [hpl] at this,hO3.row.wr zcl.len (by simp) (by omega) hi (j:=0) (n:=14) (by omega),zfs hlt (by omega),fun w4 hx4 _=>zae (by omega) ⟨by omega,?_,ps.set k (gi gs (k:Int),m'),by rw [List.length_set]; exact hpl,fun j hj => ?_,hput.ext0 hx4⟩⟩
  ·exact (hO3.row.stoB _ _ ((hX.trans hx2).trans hx3) (Nat.le_refl _)).trans hx4
  ·have:=zba ps (gi gs (k:Int),m') (i:=(k:Int)) (by omega) hi (j:=(j:Int)) (by omega)
   rw [Int.toNat_natCast] at this
   rw [this]
   by_cases hjk:(k:Int)=(j:Int)
   ·have:k=j:=by omega
    subst this; rw [if_pos rfl]
   ·rw [if_neg hjk]; exact hpe j (by omega)
 ·have hge:=of_decide_eq_false hge
  have hk:k=gs.length:=by omega
  subst hk
  refine fun w2 hx2=>⟨_,_,ps,rfl,zpe (by simpa using hpl) fun j hj => ?_,(hO.ext0 hx2).mono hx.size,(hx.trans hX).trans hx2⟩
  rw [List.length_map] at hj
  rw [zacs _ _ (by omega) (by omega)]
  exact hpe j (by omega)
end Go.Proofs.YthhmnlcimojhlaaGreatDoor
namespace Go.Proofs.YthhmnlcimojhlaaGreatDoor
open Go.RowKit
set_option linter.unusedVariables false
set_option linter.unusedSimpArgs false
set_option maxRecDepth 10000
theorem zaas {z:Int} (h1 : -9223372036854775808≤z) (h2:z≤9223372036854775807):InR .i64 z:=⟨h1,h2⟩
def stp (w:Int):Int:=Int.tdiv 232792560 w
def inB (n a b:Int):Bool:=decide (n≥a)&&decide (n≤b)
theorem zaz {n a b:Int}:inB n a b=true↔a≤n∧n≤b:=by simp [inB]
theorem zakb {n a b:Int}:inB n a b=false↔¬(a≤n∧n≤b):=by rw [←zaz]; simp
def zc2 (n w:Int):Int:=if inB n 0 100000000&&inB w 1 20 then n*stp w else 0
def zd6 (w:Int):Int:=zc2 149 w
theorem zajn:∀k:Fin 20,stp ((k.val:Int)+1)*((k.val:Int)+1)=232792560:=by decide
theorem zajo {w:Int} (h1:1≤w) (h2:w≤20):stp w*w=232792560:=by
 have:=zajn ⟨(w - 1).toNat,by omega⟩
 have e:(((w - 1).toNat:Nat):Int)+1=w:=by omega
 simp only [e] at this
 exact this
end Go.Proofs.YthhmnlcimojhlaaGreatDoor
