/- Part 7 of what the law FnExactTaskWake needs: the engine, the functions' propositions, the contracts. -/
import Derived.Test.YtajdcjidpolloaaGreatDoorFnExactTaskWakePf
namespace Go.Proofs.YtajdcjidpolloaaGreatDoor
open Go.RowKit
set_option linter.unusedVariables false
set_option maxRecDepth 100000
set_option maxHeartbeats 1600000
def V_impl_cpuSet_members (m:Int) (w:World) (R:Value→World→Prop):Prop :=
 (∀b wb,ExtX [] w wb→w.heap.size≤b→wb.heap[b]? = some (Obj.cells ([.int .i64 m]:List Value).toArray ty_impl_cpuSet (0,0))→b∉([]:List Nat) →
 (∀wr,ExtX [] wb wr→R (.func (.func fn_impl_cpuSet_members_1) #[] #[.pointer ((some (Addr.mk b 0 none)).map (·.add 0))]) wr))
theorem e_impl_cpuSet_members (m):EfV (V_impl_cpuSet_members m) fn_impl_cpuSet_members #[.int .i64 m]:=eV [1] false [] Tryz.func107 (by kernel_rfl) (by kernel_rfl)
def V_impl_World_online (wv:Option Addr) (w:World) (R:Value→World→Prop):Prop :=
 wv.isSome=true ∧
 (∃cpusO cpusL cpusC,
 CellsX [] w wv (0+1) [.slice cpusO cpusL cpusC] ∧
 (∃(xInv:List Value→Prop) (mu:List Value→Nat),xInv [.int .i64 0,.int .i64 0] ∧
 ∀(set x:Int),xInv [.int .i64 set,.int .i64 x] →
 ((decide (x<(cpusL:Int)))=true →
 Ix cpusO cpusL x ∧
 (∃x0 x1 x2 x3 x4,
 CellsX [] w cpusO (Int.toNat x*5) [.bool x0,.int .i64 x1,.int .i64 x2,.int .i64 x3,.int .i64 x4] ∧
 (∀b,w.heap.size≤b →
 (x0=true →
 (0≤x∧InR .i64 (1*2 ^ (min (Int.toNat x) 64))) ∧
 InR .i64 (x+1) ∧
 xInv [.int .i64 (BitI .or .i64 set (1*2 ^ (min (Int.toNat x) 64))),.int .i64 (x+1)]∧mu [.int .i64 (BitI .or .i64 set (1*2 ^ (min (Int.toNat x) 64))),.int .i64 (x+1)]<mu [.int .i64 set,.int .i64 x]) ∧
 (x0=false →
 InR .i64 (x+1) ∧
 xInv [.int .i64 set,.int .i64 (x+1)]∧mu [.int .i64 set,.int .i64 (x+1)]<mu [.int .i64 set,.int .i64 x])))) ∧
 ((decide (x<(cpusL:Int)))=false →
 R (.int .i64 set) w)))
theorem p_impl_World_online (wv):PuV (V_impl_World_online wv) fn_impl_World_online #[.pointer wv]:=pV [] false [(3,⟨[(3,.int .i64),(11,.int .i64)],[],[9,10],[],[]⟩)] Tryz.func38 (by kernel_rfl) (by kernel_rfl)
def V_impl_inRange (n least most:Int) (w:World) (R:Value→World→Prop):Prop :=
 R (.bool ((decide (n≥least))&&(decide (n≤most)))) w
theorem p_impl_inRange (n least most):PuV (V_impl_inRange n least most) fn_impl_inRange #[.int .i64 n,.int .i64 least,.int .i64 most]:=pV [] false [] Tryz.func134 (by kernel_rfl) (by kernel_rfl)
def V_impl_timeOk (timesO:Option Addr) (timesL timesC:Nat) (w:World) (R:Value→World→Prop):Prop :=
 (∃(xInv:List Value→Prop) (mu:List Value→Nat),xInv [.int .i64 0] ∧
 ∀(x:Int),xInv [.int .i64 x] →
 ((decide (x<(timesL:Int)))=true →
 Ix timesO timesL x ∧
 (∃x1,
 CellsX [] w timesO (Int.toNat x*1) [.int .i64 x1] ∧
 (∃inRang,
 PureX [] Tryz.prog fn_impl_inRange #[.int .i64 x1,.int .i64 0,.int .i64 100000000000000000] w (.bool inRang) ∧
 ((!inRang)=true →
 R (.bool false) w) ∧
 ((!inRang)=false →
 InR .i64 (x+1) ∧
 xInv [.int .i64 (x+1)]∧mu [.int .i64 (x+1)]<mu [.int .i64 x])))) ∧
 ((decide (x<(timesL:Int)))=false →
 R (.bool true) w))
theorem p_impl_timeOk (timesO timesL timesC):PuV (V_impl_timeOk timesO timesL timesC) fn_impl_timeOk #[.slice timesO timesL timesC]:=pV [] false [(2,⟨[(7,.int .i64)],[],[5,6],[],[]⟩)] Tryz.func232 (by kernel_rfl) (by kernel_rfl)
def V_impl_groupUsed (lO:Option Addr) (lL lC:Nat) (g:Int) (w:World) (R:Value→World→Prop):Prop :=
 InR .i64 ((lL:Int) - 1) ∧
 (∃inRang,
 PureX [] Tryz.prog fn_impl_inRange #[.int .i64 g,.int .i64 0,.int .i64 ((lL:Int) - 1)] w (.bool inRang) ∧
 (inRang=true→Ix lO lL g) ∧
 (∃used,
 (inRang=true→CellsX [] w lO (Int.toNat g*14+0) [.bool used]) ∧
 R (.bool (inRang&&used)) w))
theorem p_impl_groupUsed (lO lL lC g):PuV (V_impl_groupUsed lO lL lC g) fn_impl_groupUsed #[.slice lO lL lC,.int .i64 g]:=pV [] false [] Tryz.func82 (by kernel_rfl) (by kernel_rfl)
def V_impl_NameOk (s:ByteArray) (w:World) (R:Value→World→Prop):Prop :=
 ((strEq s (ByteArray.mk [119,101,105,103,104,116].toArray))=true →
 (∀wr,ExtX [] w wr→R (.bool false) wr)) ∧
 ((strEq s (ByteArray.mk [119,101,105,103,104,116].toArray))=false →
 ((strEq s (ByteArray.mk [109,97,120].toArray))=true →
 (∀wr1,ExtX [] w wr1→R (.bool false) wr1)) ∧
 ((strEq s (ByteArray.mk [109,97,120].toArray))=false →
 ((strEq s (ByteArray.mk [99,112,117,115].toArray))=true →
 (∀wr2,ExtX [] w wr2→R (.bool false) wr2)) ∧
 ((strEq s (ByteArray.mk [99,112,117,115].toArray))=false →
 ((strEq s (ByteArray.mk [112,114,111,99,115].toArray))=true →
 (∀wr3,ExtX [] w wr3→R (.bool false) wr3)) ∧
 ((strEq s (ByteArray.mk [112,114,111,99,115].toArray))=false →
 ((strEq s (ByteArray.mk [115,116,97,116].toArray))=true →
 (∀wr4,ExtX [] w wr4→R (.bool false) wr4)) ∧
 ((strEq s (ByteArray.mk [115,116,97,116].toArray))=false →
 (∃inRang,
 PureX [] Tryz.prog fn_impl_inRange #[.int .i64 (s.size:Int),.int .i64 1,.int .i64 8] w (.bool inRang) ∧
 ((!inRang)=true →
 (∀wr5,ExtX [] w wr5→R (.bool false) wr5)) ∧
 ((!inRang)=false →
 (∀wr6,ExtX [] w wr6→(∀bq∈([]:List Nat),bq<wr6.heap.size) →
 (∃it,
 ∃wv,((Instr.range ty_string (.string s)):Sem Value).run Tryz.prog wr6 = .ok (.pointer it) wv∧Kept [] wr6 wv ∧
 (∃(xInv:List Value→World→Prop) (mu:List Value→World→Nat),(∀wr7,ExtX [] wv wr7→(∀bq∈([]:List Nat),bq<wr7.heap.size)→xInv [] wr7) ∧
 ∀ wv1,(∀bq∈([]:List Nat),bq<wv1.heap.size)→xInv [] wv1 →
 (∀wr8,ExtX [] wv1 wr8→(∀bq∈([]:List Nat),bq<wr8.heap.size) →
 (∃(b:Nat) (str:ByteArray) (pos:Nat),it=some (Addr.mk b 0 none)∧b∉([]:List Nat)∧wr8.heap[b]? = some (.stringIter str pos) ∧
 (str.size≤pos →
 (false=true →
 False) ∧
 (false=false →
 (∀wr9,ExtX [] wr8 wr9→R (.bool true) wr9))) ∧
 (pos<str.size →
 (true=true →
 ((!(((decide (((Utf8.decode str pos).1:Int)≥97))&&(decide (((Utf8.decode str pos).1:Int)≤122)))||((decide (((Utf8.decode str pos).1:Int)≥48))&&(decide (((Utf8.decode str pos).1:Int)≤57)))))=true →
 (∀wr10,ExtX [] (iterW wr8 b str (pos+(Utf8.decode str pos).2)) wr10→R (.bool false) wr10)) ∧
 ((!(((decide (((Utf8.decode str pos).1:Int)≥97))&&(decide (((Utf8.decode str pos).1:Int)≤122)))||((decide (((Utf8.decode str pos).1:Int)≥48))&&(decide (((Utf8.decode str pos).1:Int)≤57)))))=false →
 (∀wr11,ExtX [] (iterW wr8 b str (pos+(Utf8.decode str pos).2)) wr11→(∀bq∈([]:List Nat),bq<wr11.heap.size)→xInv [] wr11∧mu [] wr11<mu [] wv1))) ∧
 (true=false →
 (∀wr12,ExtX [] (iterW wr8 b str (pos+(Utf8.decode str pos).2)) wr12→R (.bool true) wr12)))))))))))))))
theorem e_impl_NameOk (s):EfV (V_impl_NameOk s) fn_impl_NameOk #[.string s]:=eV [] false [(11,⟨[],[],[17],[],[]⟩)] Tryz.func255 (by kernel_rfl) (by kernel_rfl)
def V_impl_node_depth (n:Option Addr) (w:World) (R:Value→World→Prop):Prop :=
 (∃(xInv:List Value→Prop) (mu:List Value→Nat),xInv [.pointer n,.int .i64 0] ∧
 ∀(n1:Option Addr) (steps:Int),xInv [.pointer n1,.int .i64 steps] →
 (((!n1.isNone)&&(decide (steps≤3)))=true →
 n1.isSome=true ∧
 (∃slot,
 CellsX [] w n1 (0+0) [.int .i64 slot] ∧
 ((slot==0)=true →
 R (.int .i64 steps) w) ∧
 ((slot==0)=false →
 InR .i64 (steps+1) ∧
 n1.isSome=true ∧
 (∃up,
 CellsX [] w n1 (0+2) [.pointer up] ∧
 xInv [.pointer up,.int .i64 (steps+1)]∧mu [.pointer up,.int .i64 (steps+1)]<mu [.pointer n1,.int .i64 steps])))) ∧
 (((!n1.isNone)&&(decide (steps≤3)))=false →
 R (.int .i64 (-1)) w))
theorem p_impl_node_depth (n):PuV (V_impl_node_depth n) fn_impl_node_depth #[.pointer n]:=pV [] false [(2,⟨[(0,.ptr),(3,.int .i64)],[],[],[],[]⟩)] Tryz.func256 (by kernel_rfl) (by kernel_rfl)
def V_impl_nodes (lO:Option Addr) (lL lC:Nat) (w:World) (R:Value→World→Prop):Prop :=
 (((lL:Int) != 8)=false→Ix lO lL 0) ∧
 (∃used,
 (((lL:Int) != 8)=false→CellsX [] w lO (Int.toNat 0*14+0) [.bool used]) ∧
 ((((lL:Int) != 8)||(!used))=false→Ix lO lL 0) ∧
 (∃parent,
 ((((lL:Int) != 8)||(!used))=false→CellsX [] w lO (Int.toNat 0*14+1) [.int .i64 parent]) ∧
 (((((lL:Int) != 8)||(!used))||(parent != (-1)))=false→Ix lO lL 0) ∧
 (∃(name:ByteArray),
 (((((lL:Int) != 8)||(!used))||(parent != (-1)))=false→CellsX [] w lO (Int.toNat 0*14+2) [.string name]) ∧
 ((((((lL:Int) != 8)||(!used))||(parent != (-1)))||(!strEq name (ByteArray.mk [].toArray)))=true →
 (∀wr,ExtX [] w wr→R (.tuple #[.slice none 0 0,.bool false]) wr)) ∧
 ((((((lL:Int) != 8)||(!used))||(parent != (-1)))||(!strEq name (ByteArray.mk [].toArray)))=false →
 (∀wr1,ExtX [] w wr1→(∀bq∈([]:List Nat),bq<wr1.heap.size) →
 (∃mkO mkL mkC,
 ∃wv,((Instr.makeSlice ty_sl_p_impl_node (.int .i64 8) (.int .i64 8)):Sem Value).run Tryz.prog wr1 = .ok (.slice mkO mkL mkC) wv∧Kept [] wr1 wv ∧
 (∃(xInv:List Value→World→Prop) (mu:List Value→World→Nat),(∀wr2,ExtX [] wv wr2→(∀bq∈([]:List Nat),bq<wr2.heap.size)→xInv [.int .i64 0] wr2) ∧
 ∀(x:Int) wv1,(∀bq∈([]:List Nat),bq<wv1.heap.size)→xInv [.int .i64 x] wv1 →
 ((decide (x<(lL:Int)))=true →
 Ix lO lL x ∧
 (∃used1,
 CellsX [] wv1 lO (Int.toNat x*14+0) [.bool used1] ∧
 (used1=true →
 Ix lO lL x ∧
 (∃(name1:ByteArray),
 CellsX [] wv1 lO (Int.toNat x*14+2) [.string name1] ∧
 (∀b wb,ExtX [] wv1 wb→wv1.heap.size≤b→wb.heap[b]? = some (Obj.cells ([.int .i64 x,.string name1,.pointer none]:List Value).toArray ty_impl_node (0,0))→b∉([]:List Nat) →
 Ix mkO mkL x ∧
 WrX [] wb mkO (Int.toNat x*1) 1 ∧
 InR .i64 (x+1) ∧
 (∀wr3,ExtX [] (sto wb mkO (Int.toNat x*1) [.pointer ((some (Addr.mk b 0 none)).map (·.add 0))]) wr3→(∀bq∈([]:List Nat),bq<wr3.heap.size)→xInv [.int .i64 (x+1)] wr3∧mu [.int .i64 (x+1)] wr3<mu [.int .i64 x] wv1)))) ∧
 (used1=false →
 InR .i64 (x+1) ∧
 (∀wr4,ExtX [] wv1 wr4→(∀bq∈([]:List Nat),bq<wr4.heap.size)→xInv [.int .i64 (x+1)] wr4∧mu [.int .i64 (x+1)] wr4<mu [.int .i64 x] wv1)))) ∧
 ((decide (x<(lL:Int)))=false →
 (∀wr5,ExtX [] wv1 wr5→(∀bq∈([]:List Nat),bq<wr5.heap.size) →
 (∃(mp:Value),
 ∃wv2,((Instr.makeMap ty_map_impl_nodeKey_int none):Sem Value).run Tryz.prog wr5 = .ok mp wv2∧Kept [] wr5 wv2 ∧
 (∃(xInv1:List Value→World→Prop) (mu1:List Value→World→Nat),(∀wr6,ExtX [] wv2 wr6→(∀bq∈([]:List Nat),bq<wr6.heap.size)→xInv1 [.int .i64 1] wr6) ∧
 ∀(g:Int) wv3,(∀bq∈([]:List Nat),bq<wv3.heap.size)→xInv1 [.int .i64 g] wv3 →
 ((decide (g<8))=true →
 Ix mkO mkL g ∧
 (∃x1,
 CellsX [] wv3 mkO (Int.toNat g*1) [.pointer x1] ∧
 (x1.isNone=true →
 InR .i64 (g+1) ∧
 (∀wr7,ExtX [] wv3 wr7→(∀bq∈([]:List Nat),bq<wr7.heap.size)→xInv1 [.int .i64 (g+1)] wr7∧mu1 [.int .i64 (g+1)] wr7<mu1 [.int .i64 g] wv3)) ∧
 (x1.isNone=false →
 Ix lO lL g ∧
 (∃(name2:ByteArray),
 CellsX [] wv3 lO (Int.toNat g*14+2) [.string name2] ∧
 (∃xNameOk,
 PureX [] Tryz.prog fn_impl_NameOk #[.string name2] wv3 (.bool xNameOk) ∧
 ((!xNameOk)=false→Ix lO lL g) ∧
 (∃parent1,
 ((!xNameOk)=false→CellsX [] wv3 lO (Int.toNat g*14+1) [.int .i64 parent1]) ∧
 (∃groupU,
 ((!xNameOk)=false→PureX [] Tryz.prog fn_impl_groupUsed #[.slice lO lL lC,.int .i64 parent1] wv3 (.bool groupU)) ∧
 (((!xNameOk)||(!groupU))=true →
 (∀wr8,ExtX [] wv3 wr8→R (.tuple #[.slice none 0 0,.bool false]) wr8)) ∧
 (((!xNameOk)||(!groupU))=false →
 Ix mkO mkL g ∧
 (∃x2,
 CellsX [] wv3 mkO (Int.toNat g*1) [.pointer x2] ∧
 Ix lO lL g ∧
 (∃parent2,
 CellsX [] wv3 lO (Int.toNat g*14+1) [.int .i64 parent2] ∧
 Ix mkO mkL parent2 ∧
 (∃x3,
 CellsX [] wv3 mkO (Int.toNat parent2*1) [.pointer x3] ∧
 x2.isSome=true ∧
 WrX [] wv3 x2 (0+2) 1 ∧
 Ix lO lL g ∧
 (∃parent3,
 CellsX [] (sto wv3 x2 (0+2) [.pointer x3]) lO (Int.toNat g*14+1) [.int .i64 parent3] ∧
 Ix lO lL g ∧
 (∃(name3:ByteArray),
 CellsX [] (sto wv3 x2 (0+2) [.pointer x3]) lO (Int.toNat g*14+2) [.string name3] ∧
 (∀b1,(sto wv3 x2 (0+2) [.pointer x3]).heap.size≤b1 →
 CellsX [] (sto wv3 x2 (0+2) [.pointer x3]) lO (Int.toNat g*14+2) [.string name3] ∧
 CellsX [] (sto wv3 x2 (0+2) [.pointer x3]) lO (Int.toNat g*14+1) [.int .i64 parent3] ∧
 (∀wr9,ExtX [] (sto wv3 x2 (0+2) [.pointer x3]) wr9→(∀bq∈([b1]:List Nat),bq<wr9.heap.size) →
 (∃lk lk1,
 ∃wv4,((Instr.lookup ty_map_impl_nodeKey_int mp (.agg #[.int .i64 parent3,.string name3]) true):Sem Value).run Tryz.prog wr9 = .ok (.tuple #[.int .i64 lk,.bool lk1]) wv4∧Kept [b1] wr9 wv4 ∧
 (lk1=true →
 (∀wr10,ExtX [b1] wv4 wr10→R (.tuple #[.slice none 0 0,.bool false]) wr10)) ∧
 (lk1=false →
 (∀wr11,ExtX [b1] wv4 wr11→(∀bq∈([b1]:List Nat),bq<wr11.heap.size) →
 ∃wv5,((do Instr.mapUpdate ty_map_impl_nodeKey_int mp (.agg #[.int .i64 parent3,.string name3]) (.int .i64 g); pure undef):Sem Value).run Tryz.prog wr11 = .ok undef wv5∧Kept [b1] wr11 wv5 ∧
 InR .i64 (g+1) ∧
 (∀wr12,ExtX [b1] wv5 wr12→(∀bq∈([b1]:List Nat),bq<wr12.heap.size)→xInv1 [.int .i64 (g+1)] wr12∧mu1 [.int .i64 (g+1)] wr12<mu1 [.int .i64 g] wv3))))))))))))))))))) ∧
 ((decide (g<8))=false →
 (∃(xInv2:List Value→World→Prop) (mu2:List Value→World→Nat),(∀wr13,ExtX [] wv3 wr13→(∀bq∈([]:List Nat),bq<wr13.heap.size)→xInv2 [.int .i64 0] wr13) ∧
 ∀(x4:Int) wv6,(∀bq∈([]:List Nat),bq<wv6.heap.size)→xInv2 [.int .i64 x4] wv6 →
 ((decide (x4<(mkL:Int)))=true →
 Ix mkO mkL x4 ∧
 (∃x5,
 CellsX [] wv6 mkO (Int.toNat x4*1) [.pointer x5] ∧
 (∃depth,
 ((!x5.isNone)=true→PureX [] Tryz.prog fn_impl_node_depth #[.pointer x5] wv6 (.int .i64 depth)) ∧
 (((!x5.isNone)&&(decide (depth<0)))=true →
 (∀wr14,ExtX [] wv6 wr14→R (.tuple #[.slice none 0 0,.bool false]) wr14)) ∧
 (((!x5.isNone)&&(decide (depth<0)))=false →
 InR .i64 (x4+1) ∧
 (∀wr15,ExtX [] wv6 wr15→(∀bq∈([]:List Nat),bq<wr15.heap.size)→xInv2 [.int .i64 (x4+1)] wr15∧mu2 [.int .i64 (x4+1)] wr15<mu2 [.int .i64 x4] wv6))))) ∧
 ((decide (x4<(mkL:Int)))=false →
 (∀wr16,ExtX [] wv6 wr16→R (.tuple #[.slice mkO mkL mkC,.bool true]) wr16)))))))))))))))
theorem e_impl_nodes (lO lL lC):EfV (V_impl_nodes lO lL lC) fn_impl_nodes #[.slice lO lL lC]:=eV [57] false [(5,⟨[(40,.int .i64)],[],[0,4,39],[],[]⟩),(12,⟨[(7,.int .i64)],[],[0,4,6],[],[]⟩),(24,⟨[(124,.int .i64)],[],[4,122,123],[],[]⟩)] Tryz.func250 (by kernel_rfl) (by kernel_rfl)
def V_impl_TreeOk (lO:Option Addr) (lL lC:Nat) (w:World) (R:Value→World→Prop):Prop :=
 (∀wr,ExtX [] w wr→(∀bq∈([]:List Nat),bq<wr.heap.size) →
 Calls Tryz.prog fn_impl_nodes #[.slice lO lL lC] wr fun e wv =>
 (∃nodesO nodesL nodesC nodes1,
 e = .returned (.tuple #[.slice nodesO nodesL nodesC,.bool nodes1])∧Kept [] wr wv ∧
 (∀wr1,ExtX [] wv wr1→R (.bool nodes1) wr1)))
theorem e_impl_TreeOk (lO lL lC):EfV (V_impl_TreeOk lO lL lC) fn_impl_TreeOk #[.slice lO lL lC]:=eV [] false [] Tryz.func233 (by kernel_rfl) (by kernel_rfl)
def V_impl_World_shapeOk (wv:Option Addr) (w:World) (R:Value→World→Prop):Prop :=
 wv.isSome=true ∧
 (∃now,
 CellsX [] w wv (0+0) [.int .i64 now] ∧
 (∀b,w.heap.size≤b →
 (∃timeOk,
 (∀wx,ExtX [] w wx→wx.heap[b]? = some (Obj.cells ([.int .i64 now]:List Value).toArray ty_int (0,0))→PureX [] Tryz.prog fn_impl_timeOk #[.slice (some (Addr.mk b 0 none)) 1 1] wx (.bool timeOk)) ∧
 (timeOk=true→wv.isSome=true) ∧
 (∃cpusO cpusL cpusC,
 (timeOk=true→CellsX [] w wv (0+1) [.slice cpusO cpusL cpusC]) ∧
 (∃inRang,
 (timeOk=true→PureX [] Tryz.prog fn_impl_inRange #[.int .i64 (cpusL:Int),.int .i64 1,.int .i64 4] w (.bool inRang)) ∧
 (∃online,
 ((timeOk&&inRang)=true→PureX [] Tryz.prog fn_impl_World_online #[.pointer wv] w (.int .i64 online)) ∧
 (((timeOk&&inRang)&&(online != 0))=true→wv.isSome=true) ∧
 (∃tasksO tasksL tasksC,
 (((timeOk&&inRang)&&(online != 0))=true→CellsX [] w wv (0+2) [.slice tasksO tasksL tasksC]) ∧
 ((((timeOk&&inRang)&&(online != 0))&&((tasksL:Int)==12))=true→wv.isSome=true) ∧
 (∃groupsO groupsL groupsC,
 ((((timeOk&&inRang)&&(online != 0))&&((tasksL:Int)==12))=true→CellsX [] w wv (0+3) [.slice groupsO groupsL groupsC]) ∧
 (∃xTreeOk,
 ((((timeOk&&inRang)&&(online != 0))&&((tasksL:Int)==12))=true→PureX [] Tryz.prog fn_impl_TreeOk #[.slice groupsO groupsL groupsC] w (.bool xTreeOk)) ∧
 R (.bool ((((timeOk&&inRang)&&(online != 0))&&((tasksL:Int)==12))&&xTreeOk)) w)))))))))
theorem p_impl_World_shapeOk (wv):PuV (V_impl_World_shapeOk wv) fn_impl_World_shapeOk #[.pointer wv]:=pV [] false [] Tryz.func194 (by kernel_rfl) (by kernel_rfl)
def V_impl_cpuSet_ok (m:Int) (w:World) (R:Value→World→Prop):Prop :=
 R (.bool ((decide (m≥0))&&(decide (m≤15)))) w
theorem p_impl_cpuSet_ok (m):PuV (V_impl_cpuSet_ok m) fn_impl_cpuSet_ok #[.int .i64 m]:=pV [] false [] Tryz.func212 (by kernel_rfl) (by kernel_rfl)
def V_impl_MaskOk (m:Int) (w:World) (R:Value→World→Prop):Prop :=
 (∃ok,
 PureX [] Tryz.prog fn_impl_cpuSet_ok #[.int .i64 m] w (.bool ok) ∧
 R (.bool ok) w)
theorem p_impl_MaskOk (m):PuV (V_impl_MaskOk m) fn_impl_MaskOk #[.int .i64 m]:=pV [] false [] Tryz.func157 (by kernel_rfl) (by kernel_rfl)
def V_impl_maskFull (m:Int) (w:World) (R:Value→World→Prop):Prop :=
 (∃xMaskOk,
 ((m != 0)=true→PureX [] Tryz.prog fn_impl_MaskOk #[.int .i64 m] w (.bool xMaskOk)) ∧
 R (.bool ((m != 0)&&xMaskOk)) w)
theorem p_impl_maskFull (m):PuV (V_impl_maskFull m) fn_impl_maskFull #[.int .i64 m]:=pV [] false [] Tryz.func81 (by kernel_rfl) (by kernel_rfl)
def V_impl_bandZero (b0 b1 b2:Int) (b3O:Option Addr) (b3L b3C:Nat) (b4O:Option Addr) (b4L b4C:Nat) (w:World) (R:Value→World→Prop):Prop :=
 (∀b,w.heap.size≤b →
 R (.bool (((((b0==0)&&(b1==0))&&(b2==0))&&((b3L:Int)==0))&&((b4L:Int)==0))) w)
theorem p_impl_bandZero (b0 b1 b2 b3O b3L b3C b4O b4L b4C):PuV (V_impl_bandZero b0 b1 b2 b3O b3L b3C b4O b4L b4C) fn_impl_bandZero #[.agg #[.int .i64 b0,.int .i64 b1,.int .i64 b2,.slice b3O b3L b3C,.slice b4O b4L b4C]]:=pV [] false [] Tryz.func251 (by kernel_rfl) (by kernel_rfl)
def V_impl_groupZero (g0:Bool) (g1:Int) (g2:ByteArray) (g3 g4 g5 g6 g7 g8 g9 g10:Int) (g11O:Option Addr) (g11L g11C:Nat) (g12O:Option Addr) (g12L g12C:Nat) (g13O:Option Addr) (g13L g13C:Nat) (w:World) (R:Value→World→Prop):Prop :=
 (∀b,w.heap.size≤b →
 (∃bandZe,
 (((((((((!g0)&&(g1==0))&&(strEq g2 (ByteArray.mk [].toArray)))&&(g3==0))&&(g4==0))&&(g5==0))&&(g6==0))&&(g7==0))=true→PureX [] Tryz.prog fn_impl_bandZero #[.agg #[.int .i64 g8,.int .i64 g9,.int .i64 g10,.slice g11O g11L g11C,.slice g12O g12L g12C]] w (.bool bandZe)) ∧
 R (.bool ((((((((((!g0)&&(g1==0))&&(strEq g2 (ByteArray.mk [].toArray)))&&(g3==0))&&(g4==0))&&(g5==0))&&(g6==0))&&(g7==0))&&bandZe)&&((g13L:Int)==0))) w))
theorem p_impl_groupZero (g0 g1 g2 g3 g4 g5 g6 g7 g8 g9 g10 g11O g11L g11C g12O g12L g12C g13O g13L g13C):PuV (V_impl_groupZero g0 g1 g2 g3 g4 g5 g6 g7 g8 g9 g10 g11O g11L g11C g12O g12L g12C g13O g13L g13C) fn_impl_groupZero #[.agg #[.bool g0,.int .i64 g1,.string g2,.int .i64 g3,.int .i64 g4,.int .i64 g5,.int .i64 g6,.int .i64 g7,.int .i64 g8,.int .i64 g9,.int .i64 g10,.slice g11O g11L g11C,.slice g12O g12L g12C,.slice g13O g13L g13C]]:=pV [] false [] Tryz.func234 (by kernel_rfl) (by kernel_rfl)
def V_impl_weightOk (weight:Int) (w:World) (R:Value→World→Prop):Prop :=
 (∃inRang,
 PureX [] Tryz.prog fn_impl_inRange #[.int .i64 weight,.int .i64 1,.int .i64 20] w (.bool inRang) ∧
 R (.bool inRang) w)
theorem p_impl_weightOk (weight):PuV (V_impl_weightOk weight) fn_impl_weightOk #[.int .i64 weight]:=pV [] false [] Tryz.func235 (by kernel_rfl) (by kernel_rfl)
def V_impl_BandOk (b0 b1 b2:Int) (b3O:Option Addr) (b3L b3C:Nat) (b4O:Option Addr) (b4L b4C:Nat) (w:World) (R:Value→World→Prop):Prop :=
 (∀b,w.heap.size≤b →
 (∃inRang,
 PureX [] Tryz.prog fn_impl_inRange #[.int .i64 b0,.int .i64 1,.int .i64 10000] w (.bool inRang) ∧
 (∃inRang1,
 ((!inRang)=false→PureX [] Tryz.prog fn_impl_inRange #[.int .i64 (b3L:Int),.int .i64 1,.int .i64 4] w (.bool inRang1)) ∧
 ((((!inRang)||(!inRang1))||((b4L:Int) != (b3L:Int)))=true →
 R (.bool false) w) ∧
 ((((!inRang)||(!inRang1))||((b4L:Int) != (b3L:Int)))=false →
 (∃inRang2,
 PureX [] Tryz.prog fn_impl_inRange #[.int .i64 b1,.int .i64 0,.int .i64 b0] w (.bool inRang2) ∧
 (∃inRang3,
 ((!inRang2)=false→PureX [] Tryz.prog fn_impl_inRange #[.int .i64 b2,.int .i64 0,.int .i64 b0] w (.bool inRang3)) ∧
 (((!inRang2)||(!inRang3))=true →
 R (.bool false) w) ∧
 (((!inRang2)||(!inRang3))=false →
 InR .i64 (b1+b2) ∧
 (∃(xInv:List Value→Prop) (mu:List Value→Nat),xInv [.int .i64 (b1+b2),.int .i64 0] ∧
 ∀(total x:Int),xInv [.int .i64 total,.int .i64 x] →
 ((decide (x<(b3L:Int)))=true →
 Ix b3O b3L x ∧
 (∃x1,
 CellsX [] w b3O (Int.toNat x*1) [.int .i64 x1] ∧
 (∃inRang4,
 PureX [] Tryz.prog fn_impl_inRange #[.int .i64 x1,.int .i64 0,.int .i64 b0] w (.bool inRang4) ∧
 ((!inRang4)=false→Ix b4O b4L x) ∧
 (∃x2,
 ((!inRang4)=false→CellsX [] w b4O (Int.toNat x*1) [.bool x2]) ∧
 (((!inRang4)||(x2&&((x1 != 0)||(b1 != 0))))=true →
 R (.bool false) w) ∧
 (((!inRang4)||(x2&&((x1 != 0)||(b1 != 0))))=false →
 InR .i64 (total+x1) ∧
 InR .i64 (x+1) ∧
 xInv [.int .i64 (total+x1),.int .i64 (x+1)]∧mu [.int .i64 (total+x1),.int .i64 (x+1)]<mu [.int .i64 total,.int .i64 x]))))) ∧
 ((decide (x<(b3L:Int)))=false →
 R (.bool (total==b0)) w)))))))))
theorem p_impl_BandOk (b0 b1 b2 b3O b3L b3C b4O b4L b4C):PuV (V_impl_BandOk b0 b1 b2 b3O b3L b3C b4O b4L b4C) fn_impl_BandOk #[.agg #[.int .i64 b0,.int .i64 b1,.int .i64 b2,.slice b3O b3L b3C,.slice b4O b4L b4C]]:=pV [] false [(7,⟨[(3,.int .i64),(48,.int .i64)],[],[1,46,47],[],[]⟩)] Tryz.func252 (by kernel_rfl) (by kernel_rfl)
def V_impl_World_quotaOk (wv:Option Addr) (g0:Bool) (g1:Int) (g2:ByteArray) (g3 g4 g5 g6 g7 g8 g9 g10:Int) (g11O:Option Addr) (g11L g11C:Nat) (g12O:Option Addr) (g12L g12C:Nat) (g13O:Option Addr) (g13L g13C:Nat) (w:World) (R:Value→World→Prop):Prop :=
 (∀b,w.heap.size≤b →
 (∃bandZe,
 PureX [] Tryz.prog fn_impl_bandZero #[.agg #[.int .i64 g8,.int .i64 g9,.int .i64 g10,.slice g11O g11L g11C,.slice g12O g12L g12C]] w (.bool bandZe) ∧
 (bandZe=true →
 R (.bool ((g5==0)&&(g6==0))) w) ∧
 (bandZe=false →
 (∃xBandOk,
 PureX [] Tryz.prog fn_impl_BandOk #[.agg #[.int .i64 g8,.int .i64 g9,.int .i64 g10,.slice g11O g11L g11C,.slice g12O g12L g12C]] w (.bool xBandOk) ∧
 (xBandOk=true→wv.isSome=true) ∧
 (∃cpusO cpusL cpusC,
 (xBandOk=true→CellsX [] w wv (0+1) [.slice cpusO cpusL cpusC]) ∧
 (∃inRang,
 ((xBandOk&&((g11L:Int)==(cpusL:Int)))=true→PureX [] Tryz.prog fn_impl_inRange #[.int .i64 g5,.int .i64 1,.int .i64 1000] w (.bool inRang)) ∧
 (((xBandOk&&((g11L:Int)==(cpusL:Int)))&&inRang)=true→wv.isSome=true) ∧
 (∃now,
 (((xBandOk&&((g11L:Int)==(cpusL:Int)))&&inRang)=true→CellsX [] w wv (0+0) [.int .i64 now]) ∧
 (((xBandOk&&((g11L:Int)==(cpusL:Int)))&&inRang)=true→InR .i64 (now+1)) ∧
 (((xBandOk&&((g11L:Int)==(cpusL:Int)))&&inRang)=true→wv.isSome=true) ∧
 (∃now1,
 (((xBandOk&&((g11L:Int)==(cpusL:Int)))&&inRang)=true→CellsX [] w wv (0+0) [.int .i64 now1]) ∧
 (((xBandOk&&((g11L:Int)==(cpusL:Int)))&&inRang)=true→InR .i64 (now1+g5)) ∧
 (∃inRang1,
 (((xBandOk&&((g11L:Int)==(cpusL:Int)))&&inRang)=true→PureX [] Tryz.prog fn_impl_inRange #[.int .i64 g6,.int .i64 (now+1),.int .i64 (now1+g5)] w (.bool inRang1)) ∧
 R (.bool (((xBandOk&&((g11L:Int)==(cpusL:Int)))&&inRang)&&inRang1)) w)))))))))
theorem p_impl_World_quotaOk (wv g0 g1 g2 g3 g4 g5 g6 g7 g8 g9 g10 g11O g11L g11C g12O g12L g12C g13O g13L g13C):PuV (V_impl_World_quotaOk wv g0 g1 g2 g3 g4 g5 g6 g7 g8 g9 g10 g11O g11L g11C g12O g12L g12C g13O g13L g13C) fn_impl_World_quotaOk #[.pointer wv,.agg #[.bool g0,.int .i64 g1,.string g2,.int .i64 g3,.int .i64 g4,.int .i64 g5,.int .i64 g6,.int .i64 g7,.int .i64 g8,.int .i64 g9,.int .i64 g10,.slice g11O g11L g11C,.slice g12O g12L g12C,.slice g13O g13L g13C]]:=pV [] false [] Tryz.func236 (by kernel_rfl) (by kernel_rfl)
def V_impl_World_groupsOk (wv:Option Addr) (w:World) (R:Value→World→Prop):Prop :=
 wv.isSome=true ∧
 (∃groupsO groupsL groupsC,
 CellsX [] w wv (0+3) [.slice groupsO groupsL groupsC] ∧
 (∃(xInv:List Value→Prop) (mu:List Value→Nat),xInv [.int .i64 0] ∧
 ∀(x:Int),xInv [.int .i64 x] →
 ((decide (x<(groupsL:Int)))=true →
 Ix groupsO groupsL x ∧
 (∃(x0:Bool) (x1:Int) (x2:ByteArray) (x3 x4 x5 x6 x7 x8 x9 x10:Int) (x11O:Option Addr) (x11L x11C:Nat) (x12O:Option Addr) (x12L x12C:Nat) (x13O:Option Addr) (x13L x13C:Nat),
 CellsX [] w groupsO (Int.toNat x*14) [.bool x0,.int .i64 x1,.string x2,.int .i64 x3,.int .i64 x4,.int .i64 x5,.int .i64 x6,.int .i64 x7,.int .i64 x8,.int .i64 x9,.int .i64 x10,.slice x11O x11L x11C,.slice x12O x12L x12C,.slice x13O x13L x13C] ∧
 (∀b,w.heap.size≤b →
 ((!x0)=true →
 (∃groupZ,
 PureX [] Tryz.prog fn_impl_groupZero #[.agg #[.bool x0,.int .i64 x1,.string x2,.int .i64 x3,.int .i64 x4,.int .i64 x5,.int .i64 x6,.int .i64 x7,.int .i64 x8,.int .i64 x9,.int .i64 x10,.slice x11O x11L x11C,.slice x12O x12L x12C,.slice x13O x13L x13C]] w (.bool groupZ) ∧
 ((!groupZ)=true →
 R (.bool false) w) ∧
 ((!groupZ)=false →
 InR .i64 (x+1) ∧
 xInv [.int .i64 (x+1)]∧mu [.int .i64 (x+1)]<mu [.int .i64 x]))) ∧
 ((!x0)=false →
 (∃weight,
 PureX [] Tryz.prog fn_impl_weightOk #[.int .i64 x3] w (.bool weight) ∧
 (∃maskFu,
 ((!weight)=false→PureX [] Tryz.prog fn_impl_maskFull #[.int .i64 x4] w (.bool maskFu)) ∧
 (((!weight)||(!maskFu))=false→(∀b1,w.heap.size≤b1 →
 (∃timeOk,
 (((!weight)||(!maskFu))=false→(∀wx,ExtX [] w wx→wx.heap[b1]? = some (Obj.cells ([.int .i64 x7]:List Value).toArray ty_int (0,0))→PureX [] Tryz.prog fn_impl_timeOk #[.slice (some (Addr.mk b1 0 none)) 1 1] wx (.bool timeOk))) ∧
 ((((!weight)||(!maskFu))||(!timeOk))=false→wv.isSome=true) ∧
 (∃cpusO cpusL cpusC,
 ((((!weight)||(!maskFu))||(!timeOk))=false→CellsX [] w wv (0+1) [.slice cpusO cpusL cpusC]) ∧
 (∃quotaO,
 (((((!weight)||(!maskFu))||(!timeOk))||((x13L:Int) != (cpusL:Int)))=false→PureX [] Tryz.prog fn_impl_World_quotaOk #[.pointer wv,.agg #[.bool x0,.int .i64 x1,.string x2,.int .i64 x3,.int .i64 x4,.int .i64 x5,.int .i64 x6,.int .i64 x7,.int .i64 x8,.int .i64 x9,.int .i64 x10,.slice x11O x11L x11C,.slice x12O x12L x12C,.slice x13O x13L x13C]] w (.bool quotaO)) ∧
 ((((((!weight)||(!maskFu))||(!timeOk))||((x13L:Int) != (cpusL:Int)))||(!quotaO))=true →
 R (.bool false) w) ∧
 ((((((!weight)||(!maskFu))||(!timeOk))||((x13L:Int) != (cpusL:Int)))||(!quotaO))=false →
 InR .i64 (x+1) ∧
 xInv [.int .i64 (x+1)]∧mu [.int .i64 (x+1)]<mu [.int .i64 x])))))) ∧
 ((((!weight)||(!maskFu))=false→False) →
 (true=false→wv.isSome=true) ∧
 (∃cpus1O cpus1L cpus1C,
 (true=false→CellsX [] w wv (0+1) [.slice cpus1O cpus1L cpus1C]) ∧
 (∃quotaO1,
 ((true||((x13L:Int) != (cpus1L:Int)))=false→PureX [] Tryz.prog fn_impl_World_quotaOk #[.pointer wv,.agg #[.bool x0,.int .i64 x1,.string x2,.int .i64 x3,.int .i64 x4,.int .i64 x5,.int .i64 x6,.int .i64 x7,.int .i64 x8,.int .i64 x9,.int .i64 x10,.slice x11O x11L x11C,.slice x12O x12L x12C,.slice x13O x13L x13C]] w (.bool quotaO1)) ∧
 (((true||((x13L:Int) != (cpus1L:Int)))||(!quotaO1))=true →
 R (.bool false) w) ∧
 (((true||((x13L:Int) != (cpus1L:Int)))||(!quotaO1))=false →
 InR .i64 (x+1) ∧
 xInv [.int .i64 (x+1)]∧mu [.int .i64 (x+1)]<mu [.int .i64 x])))))))))) ∧
 ((decide (x<(groupsL:Int)))=false →
 wv.isSome=true ∧
 (∃groups1O groups1L groups1C,
 CellsX [] w wv (0+3) [.slice groups1O groups1L groups1C] ∧
 Ix groups1O groups1L 0 ∧
 (∃(x01:Bool) (x14:Int) (x21:ByteArray) (x31 x41 x51 x61 x71 x81 x91 x101:Int) (x111O:Option Addr) (x111L x111C:Nat) (x121O:Option Addr) (x121L x121C:Nat) (x131O:Option Addr) (x131L x131C:Nat),
 CellsX [] w groups1O (Int.toNat 0*14) [.bool x01,.int .i64 x14,.string x21,.int .i64 x31,.int .i64 x41,.int .i64 x51,.int .i64 x61,.int .i64 x71,.int .i64 x81,.int .i64 x91,.int .i64 x101,.slice x111O x111L x111C,.slice x121O x121L x121C,.slice x131O x131L x131C] ∧
 (∀b2,w.heap.size≤b2 →
 R (.bool (((x31==10)&&(x41==15))&&(x81==0))) w))))))
theorem p_impl_World_groupsOk (wv):PuV (V_impl_World_groupsOk wv) fn_impl_World_groupsOk #[.pointer wv]:=pV [] false [(2,⟨[(11,.int .i64)],[],[0,9,10],[],[]⟩)] Tryz.func195 (by kernel_rfl) (by kernel_rfl)
def V_impl_MaskAnd (a b:Int) (w:World) (R:Value→World→Prop):Prop :=
 (∃xMaskOk,
 PureX [] Tryz.prog fn_impl_MaskOk #[.int .i64 a] w (.bool xMaskOk) ∧
 (∃xMaskOk1,
 ((!xMaskOk)=false→PureX [] Tryz.prog fn_impl_MaskOk #[.int .i64 b] w (.bool xMaskOk1)) ∧
 (((!xMaskOk)||(!xMaskOk1))=true →
 R (.int .i64 0) w) ∧
 (((!xMaskOk)||(!xMaskOk1))=false →
 R (.int .i64 (BitI .and .i64 a b)) w)))
theorem p_impl_MaskAnd (a b):PuV (V_impl_MaskAnd a b) fn_impl_MaskAnd #[.int .i64 a,.int .i64 b]:=pV [] false [] Tryz.func159 (by kernel_rfl) (by kernel_rfl)
def V_impl_World_pins (wv:Option Addr) (g:Int) (w:World) (R:Value→World→Prop):Prop :=
 (∃online,
 PureX [] Tryz.prog fn_impl_World_online #[.pointer wv] w (.int .i64 online) ∧
 (∃(xInv:List Value→Prop) (mu:List Value→Nat),xInv [.int .i64 g,.int .i64 online] ∧
 ∀(g1 set:Int),xInv [.int .i64 g1,.int .i64 set] →
 ((g1 != 0)=true →
 wv.isSome=true ∧
 (∃groupsO groupsL groupsC,
 CellsX [] w wv (0+3) [.slice groupsO groupsL groupsC] ∧
 Ix groupsO groupsL g1 ∧
 (∃cpus,
 CellsX [] w groupsO (Int.toNat g1*14+4) [.int .i64 cpus] ∧
 (∃xMaskAn,
 PureX [] Tryz.prog fn_impl_MaskAnd #[.int .i64 set,.int .i64 cpus] w (.int .i64 xMaskAn) ∧
 wv.isSome=true ∧
 (∃groups1O groups1L groups1C,
 CellsX [] w wv (0+3) [.slice groups1O groups1L groups1C] ∧
 Ix groups1O groups1L g1 ∧
 (∃parent,
 CellsX [] w groups1O (Int.toNat g1*14+1) [.int .i64 parent] ∧
 xInv [.int .i64 parent,.int .i64 xMaskAn]∧mu [.int .i64 parent,.int .i64 xMaskAn]<mu [.int .i64 g1,.int .i64 set])))))) ∧
 ((g1 != 0)=false →
 wv.isSome=true ∧
 (∃groups2O groups2L groups2C,
 CellsX [] w wv (0+3) [.slice groups2O groups2L groups2C] ∧
 Ix groups2O groups2L 0 ∧
 (∃cpus1,
 CellsX [] w groups2O (Int.toNat 0*14+4) [.int .i64 cpus1] ∧
 (∃xMaskAn1,
 PureX [] Tryz.prog fn_impl_MaskAnd #[.int .i64 set,.int .i64 cpus1] w (.int .i64 xMaskAn1) ∧
 R (.int .i64 xMaskAn1) w))))))
theorem p_impl_World_pins (wv g):PuV (V_impl_World_pins wv g) fn_impl_World_pins #[.pointer wv,.int .i64 g]:=pV [] false [(2,⟨[(1,.int .i64),(5,.int .i64)],[],[0],[],[]⟩)] Tryz.func158 (by kernel_rfl) (by kernel_rfl)
def V_impl_World_allowedIn (wv:Option Addr) (mask g:Int) (w:World) (R:Value→World→Prop):Prop :=
 (∃pins,
 PureX [] Tryz.prog fn_impl_World_pins #[.pointer wv,.int .i64 g] w (.int .i64 pins) ∧
 (∃xMaskAn,
 PureX [] Tryz.prog fn_impl_MaskAnd #[.int .i64 mask,.int .i64 pins] w (.int .i64 xMaskAn) ∧
 ((xMaskAn != 0)=true →
 R (.int .i64 xMaskAn) w) ∧
 ((xMaskAn != 0)=false →
 ((pins != 0)=true →
 R (.int .i64 pins) w) ∧
 ((pins != 0)=false →
 (∃online,
 PureX [] Tryz.prog fn_impl_World_online #[.pointer wv] w (.int .i64 online) ∧
 R (.int .i64 online) w)))))
theorem p_impl_World_allowedIn (wv mask g):PuV (V_impl_World_allowedIn wv mask g) fn_impl_World_allowedIn #[.pointer wv,.int .i64 mask,.int .i64 g]:=pV [] false [] Tryz.func85 (by kernel_rfl) (by kernel_rfl)
def V_impl_World_allowed (wv:Option Addr) (task:Int) (w:World) (R:Value→World→Prop):Prop :=
 wv.isSome=true ∧
 (∃tasksO tasksL tasksC,
 CellsX [] w wv (0+2) [.slice tasksO tasksL tasksC] ∧
 Ix tasksO tasksL task ∧
 (∃mask,
 CellsX [] w tasksO (Int.toNat task*9+4) [.int .i64 mask] ∧
 wv.isSome=true ∧
 (∃tasks1O tasks1L tasks1C,
 CellsX [] w wv (0+2) [.slice tasks1O tasks1L tasks1C] ∧
 Ix tasks1O tasks1L task ∧
 (∃group,
 CellsX [] w tasks1O (Int.toNat task*9+1) [.int .i64 group] ∧
 (∃allowe,
 PureX [] Tryz.prog fn_impl_World_allowedIn #[.pointer wv,.int .i64 mask,.int .i64 group] w (.int .i64 allowe) ∧
 R (.int .i64 allowe) w)))))
theorem p_impl_World_allowed (wv task):PuV (V_impl_World_allowed wv task) fn_impl_World_allowed #[.pointer wv,.int .i64 task]:=pV [] false [] Tryz.func65 (by kernel_rfl) (by kernel_rfl)
def V_impl_World_lane (wv:Option Addr) (cpu:Int) (w:World) (R:Value→World→Prop):Prop :=
 (∀b,w.heap.size≤b →
 R (.agg #[.pointer wv,.int .i64 cpu]) w)
theorem p_impl_World_lane (wv cpu):PuV (V_impl_World_lane wv cpu) fn_impl_World_lane #[.pointer wv,.int .i64 cpu]:=pV [] false [] Tryz.func67 (by kernel_rfl) (by kernel_rfl)
def V_impl_niceOk (nice:Int) (w:World) (R:Value→World→Prop):Prop :=
 (∃inRang,
 PureX [] Tryz.prog fn_impl_inRange #[.int .i64 nice,.int .i64 (-10),.int .i64 9] w (.bool inRang) ∧
 R (.bool inRang) w)
theorem p_impl_niceOk (nice):PuV (V_impl_niceOk nice) fn_impl_niceOk #[.int .i64 nice]:=pV [] false [] Tryz.func80 (by kernel_rfl) (by kernel_rfl)
def V_impl_lane_shelf (p0:Option Addr) (p1 g:Int) (w:World) (R:Value→World→Prop):Prop :=
 (∀b,w.heap.size≤b →
 p0.isSome=true ∧
 (∃groupsO groupsL groupsC,
 CellsX [] w p0 (0+3) [.slice groupsO groupsL groupsC] ∧
 Ix groupsO groupsL g ∧
 (∃shelvesO shelvesL shelvesC,
 CellsX [] w groupsO (Int.toNat g*14+13) [.slice shelvesO shelvesL shelvesC] ∧
 Ix shelvesO shelvesL p1 ∧
 R (.pointer (shelvesO.map (·.add (Int.toNat p1*5)))) w)))
theorem p_impl_lane_shelf (p0 p1 g):PuV (V_impl_lane_shelf p0 p1 g) fn_impl_lane_shelf #[.agg #[.pointer p0,.int .i64 p1],.int .i64 g]:=pV [] false [] Tryz.func86 (by kernel_rfl) (by kernel_rfl)
def V_impl_cpuSet_has (m cpu:Int) (w:World) (R:Value→World→Prop):Prop :=
 (∃ok,
 PureX [] Tryz.prog fn_impl_cpuSet_ok #[.int .i64 m] w (.bool ok) ∧
 (∃inRang,
 (ok=true→PureX [] Tryz.prog fn_impl_inRange #[.int .i64 cpu,.int .i64 0,.int .i64 3] w (.bool inRang)) ∧
 ((ok&&inRang)=true→0≤cpu) ∧
 R (.bool ((ok&&inRang)&&((BitI .and .i64 (Int.fdiv m (2 ^ (min (Int.toNat cpu) 64))) 1)==1))) w))
theorem p_impl_cpuSet_has (m cpu):PuV (V_impl_cpuSet_has m cpu) fn_impl_cpuSet_has #[.int .i64 m,.int .i64 cpu]:=pV [] false [] Tryz.func183 (by kernel_rfl) (by kernel_rfl)
def V_impl_MaskHas (m cpu:Int) (w:World) (R:Value→World→Prop):Prop :=
 (∃has,
 PureX [] Tryz.prog fn_impl_cpuSet_has #[.int .i64 m,.int .i64 cpu] w (.bool has) ∧
 R (.bool has) w)
theorem p_impl_MaskHas (m cpu):PuV (V_impl_MaskHas m cpu) fn_impl_MaskHas #[.int .i64 m,.int .i64 cpu]:=pV [] false [] Tryz.func110 (by kernel_rfl) (by kernel_rfl)
def V_impl_WeightOf (nice:Int) (w:World) (R:Value→World→Prop):Prop :=
 (∃niceOk,
 PureX [] Tryz.prog fn_impl_niceOk #[.int .i64 nice] w (.bool niceOk) ∧
 ((!niceOk)=true →
 R (.int .i64 0) w) ∧
 ((!niceOk)=false →
 InR .i64 (10 - nice) ∧
 R (.int .i64 (10 - nice)) w))
theorem p_impl_WeightOf (nice):PuV (V_impl_WeightOf nice) fn_impl_WeightOf #[.int .i64 nice]:=pV [] false [] Tryz.func205 (by kernel_rfl) (by kernel_rfl)
def V_impl_loadOk (load:Int) (w:World) (R:Value→World→Prop):Prop :=
 (∃inRang,
 PureX [] Tryz.prog fn_impl_inRange #[.int .i64 load,.int .i64 0,.int .i64 8000000] w (.bool inRang) ∧
 R (.bool inRang) w)
theorem p_impl_loadOk (load):PuV (V_impl_loadOk load) fn_impl_loadOk #[.int .i64 load]:=pV [] false [] Tryz.func237 (by kernel_rfl) (by kernel_rfl)
def V_impl_weightSteps (w:World) (R:Value→World→Prop):Prop :=
 (∀b,w.heap.size≤b →
 (∀b1,w.heap.size≤b1 →
 (∃(xInv1:List Value→Prop) (mu1:List Value→Nat),xInv1 [.int .i64 1,.int .i64 0,.int .i64 0,.int .i64 0,.int .i64 0,.int .i64 0,.int .i64 0,.int .i64 0,.int .i64 0,.int .i64 0,.int .i64 0,.int .i64 0,.int .i64 0,.int .i64 0,.int .i64 0,.int .i64 0,.int .i64 0,.int .i64 0,.int .i64 0,.int .i64 0,.int .i64 0,.int .i64 0] ∧
 ∀(weight1 l l1 l2 l3 l4 l5 l6 l7 l8 l9 l10 l11 l12 l13 l14 l15 l16 l17 l18 l19 l20:Int),xInv1 [.int .i64 weight1,.int .i64 l,.int .i64 l1,.int .i64 l2,.int .i64 l3,.int .i64 l4,.int .i64 l5,.int .i64 l6,.int .i64 l7,.int .i64 l8,.int .i64 l9,.int .i64 l10,.int .i64 l11,.int .i64 l12,.int .i64 l13,.int .i64 l14,.int .i64 l15,.int .i64 l16,.int .i64 l17,.int .i64 l18,.int .i64 l19,.int .i64 l20] →
 ((decide (weight1≤20))=true →
 (weight1≠0∧InR .i64 (Int.tdiv 232792560 weight1)) ∧
 (0≤weight1∧weight1<(21:Int)) ∧
 (Int.toNat weight1+0<21) ∧
 (∃l21 l22 l23 l24 l25 l26 l27 l28 l29 l30 l31 l32 l33 l34 l35 l36 l37 l38 l39 l40 l41,
 ([.int .i64 l,.int .i64 l1,.int .i64 l2,.int .i64 l3,.int .i64 l4,.int .i64 l5,.int .i64 l6,.int .i64 l7,.int .i64 l8,.int .i64 l9,.int .i64 l10,.int .i64 l11,.int .i64 l12,.int .i64 l13,.int .i64 l14,.int .i64 l15,.int .i64 l16,.int .i64 l17,.int .i64 l18,.int .i64 l19,.int .i64 l20]:List Value).set (Int.toNat weight1+0) (.int .i64 (Int.tdiv 232792560 weight1))=[.int .i64 l21,.int .i64 l22,.int .i64 l23,.int .i64 l24,.int .i64 l25,.int .i64 l26,.int .i64 l27,.int .i64 l28,.int .i64 l29,.int .i64 l30,.int .i64 l31,.int .i64 l32,.int .i64 l33,.int .i64 l34,.int .i64 l35,.int .i64 l36,.int .i64 l37,.int .i64 l38,.int .i64 l39,.int .i64 l40,.int .i64 l41] ∧
 InR .i64 (weight1+1) ∧
 xInv1 [.int .i64 (weight1+1),.int .i64 l21,.int .i64 l22,.int .i64 l23,.int .i64 l24,.int .i64 l25,.int .i64 l26,.int .i64 l27,.int .i64 l28,.int .i64 l29,.int .i64 l30,.int .i64 l31,.int .i64 l32,.int .i64 l33,.int .i64 l34,.int .i64 l35,.int .i64 l36,.int .i64 l37,.int .i64 l38,.int .i64 l39,.int .i64 l40,.int .i64 l41]∧mu1 [.int .i64 (weight1+1),.int .i64 l21,.int .i64 l22,.int .i64 l23,.int .i64 l24,.int .i64 l25,.int .i64 l26,.int .i64 l27,.int .i64 l28,.int .i64 l29,.int .i64 l30,.int .i64 l31,.int .i64 l32,.int .i64 l33,.int .i64 l34,.int .i64 l35,.int .i64 l36,.int .i64 l37,.int .i64 l38,.int .i64 l39,.int .i64 l40,.int .i64 l41]<mu1 [.int .i64 weight1,.int .i64 l,.int .i64 l1,.int .i64 l2,.int .i64 l3,.int .i64 l4,.int .i64 l5,.int .i64 l6,.int .i64 l7,.int .i64 l8,.int .i64 l9,.int .i64 l10,.int .i64 l11,.int .i64 l12,.int .i64 l13,.int .i64 l14,.int .i64 l15,.int .i64 l16,.int .i64 l17,.int .i64 l18,.int .i64 l19,.int .i64 l20])) ∧
 ((decide (weight1≤20))=false →
 R (.agg #[.int .i64 l,.int .i64 l1,.int .i64 l2,.int .i64 l3,.int .i64 l4,.int .i64 l5,.int .i64 l6,.int .i64 l7,.int .i64 l8,.int .i64 l9,.int .i64 l10,.int .i64 l11,.int .i64 l12,.int .i64 l13,.int .i64 l14,.int .i64 l15,.int .i64 l16,.int .i64 l17,.int .i64 l18,.int .i64 l19,.int .i64 l20]) w))))
theorem p_impl_weightSteps:PuV V_impl_weightSteps fn_impl_weightSteps #[]:=pV [] false [(3,⟨[(2,.int .i64)],[(1,[.int .i64,.int .i64,.int .i64,.int .i64,.int .i64,.int .i64,.int .i64,.int .i64,.int .i64,.int .i64,.int .i64,.int .i64,.int .i64,.int .i64,.int .i64,.int .i64,.int .i64,.int .i64,.int .i64,.int .i64,.int .i64])],[0,1],[],[]⟩)] Tryz.func253 (by kernel_rfl) (by kernel_rfl)
def V_impl_VirtualStep (units weight:Int) (w:World) (R:Value→World→Prop):Prop :=
 (∃inRang,
 PureX [] Tryz.prog fn_impl_inRange #[.int .i64 units,.int .i64 0,.int .i64 100000000] w (.bool inRang) ∧
 (∃weight1,
 ((!inRang)=false→PureX [] Tryz.prog fn_impl_weightOk #[.int .i64 weight] w (.bool weight1)) ∧
 (((!inRang)||(!weight1))=true →
 R (.int .i64 0) w) ∧
 (((!inRang)||(!weight1))=false →
 (∃weight2 weight3 weight4 weight5 weight6 weight7 weight8 weight9 weight10 weight11 weight12 weight13 weight14 weight15 weight16 weight17 weight18 weight19 weight20 weight21 weight22,
 PureX [] Tryz.prog fn_impl_weightSteps #[] w (.agg #[.int .i64 weight2,.int .i64 weight3,.int .i64 weight4,.int .i64 weight5,.int .i64 weight6,.int .i64 weight7,.int .i64 weight8,.int .i64 weight9,.int .i64 weight10,.int .i64 weight11,.int .i64 weight12,.int .i64 weight13,.int .i64 weight14,.int .i64 weight15,.int .i64 weight16,.int .i64 weight17,.int .i64 weight18,.int .i64 weight19,.int .i64 weight20,.int .i64 weight21,.int .i64 weight22]) ∧
 (∃x,
 (0≤weight∧weight<(21:Int)∧(#[.int .i64 weight2,.int .i64 weight3,.int .i64 weight4,.int .i64 weight5,.int .i64 weight6,.int .i64 weight7,.int .i64 weight8,.int .i64 weight9,.int .i64 weight10,.int .i64 weight11,.int .i64 weight12,.int .i64 weight13,.int .i64 weight14,.int .i64 weight15,.int .i64 weight16,.int .i64 weight17,.int .i64 weight18,.int .i64 weight19,.int .i64 weight20,.int .i64 weight21,.int .i64 weight22]:Array Value)[Int.toNat weight]? = some (.int .i64 x)) ∧
 InR .i64 (units*x) ∧
 R (.int .i64 (units*x)) w)))))
theorem p_impl_VirtualStep (units weight):PuV (V_impl_VirtualStep units weight) fn_impl_VirtualStep #[.int .i64 units,.int .i64 weight]:=pV [] false [] Tryz.func239 (by kernel_rfl) (by kernel_rfl)
def V_impl_LagMost (weight:Int) (w:World) (R:Value→World→Prop):Prop :=
 (∃xVirtua,
 PureX [] Tryz.prog fn_impl_VirtualStep #[.int .i64 149,.int .i64 weight] w (.int .i64 xVirtua) ∧
 R (.int .i64 xVirtua) w)
theorem p_impl_LagMost (weight):PuV (V_impl_LagMost weight) fn_impl_LagMost #[.int .i64 weight]:=pV [] false [] Tryz.func204 (by kernel_rfl) (by kernel_rfl)
def V_impl_placed (v floor weight:Int) (w:World) (R:Value→World→Prop):Prop :=
 ((decide (v≥floor))=true→InR .i64 (v - floor)) ∧
 (∃xLagMos,
 ((decide (v≥floor))=true→PureX [] Tryz.prog fn_impl_LagMost #[.int .i64 weight] w (.int .i64 xLagMos)) ∧
 R (.bool ((decide (v≥floor))&&(decide (v - floor≤xLagMos)))) w)
theorem p_impl_placed (v floor weight):PuV (V_impl_placed v floor weight) fn_impl_placed #[.int .i64 v,.int .i64 floor,.int .i64 weight]:=pV [] false [] Tryz.func238 (by kernel_rfl) (by kernel_rfl)
def V_impl_World_tasksOk (wv:Option Addr) (w:World) (R:Value→World→Prop):Prop :=
 wv.isSome=true ∧
 (∃tasksO tasksL tasksC,
 CellsX [] w wv (0+2) [.slice tasksO tasksL tasksC] ∧
 (∃(xInv:List Value→Prop) (mu:List Value→Nat),xInv [.int .i64 0] ∧
 ∀(x:Int),xInv [.int .i64 x] →
 ((decide (x<(tasksL:Int)))=true →
 Ix tasksO tasksL x ∧
 (∃x0 x1 x2 x3 x4 x5 x6 x7 x8,
 CellsX [] w tasksO (Int.toNat x*9) [.int .i64 x0,.int .i64 x1,.int .i64 x2,.int .i64 x3,.int .i64 x4,.int .i64 x5,.int .i64 x6,.int .i64 x7,.int .i64 x8] ∧
 (∀b,w.heap.size≤b →
 (∃eq,
 (∀wq,((do eqGuard .eql ty_impl_Task (.tmp 16) (.tmp 17) (.agg #[.int .i64 x0,.int .i64 x1,.int .i64 x2,.int .i64 x3,.int .i64 x4,.int .i64 x5,.int .i64 x6,.int .i64 x7,.int .i64 x8]) (.agg #[.int .i64 0,.int .i64 0,.int .i64 0,.int .i64 0,.int .i64 0,.int .i64 0,.int .i64 0,.int .i64 0,.int .i64 0]); binOp .eql ty_impl_Task (.agg #[.int .i64 x0,.int .i64 x1,.int .i64 x2,.int .i64 x3,.int .i64 x4,.int .i64 x5,.int .i64 x6,.int .i64 x7,.int .i64 x8]) (.agg #[.int .i64 0,.int .i64 0,.int .i64 0,.int .i64 0,.int .i64 0,.int .i64 0,.int .i64 0,.int .i64 0,.int .i64 0])):Sem Value).run Tryz.prog wq = .ok (.bool eq) wq) ∧
 (eq=true →
 InR .i64 (x+1) ∧
 xInv [.int .i64 (x+1)]∧mu [.int .i64 (x+1)]<mu [.int .i64 x]) ∧
 (eq=false →
 (((x0 != 1)&&(x0 != 2))=false→wv.isSome=true) ∧
 (∃groupsO groupsL groupsC,
 (((x0 != 1)&&(x0 != 2))=false→CellsX [] w wv (0+3) [.slice groupsO groupsL groupsC]) ∧
 (∃groupU,
 (((x0 != 1)&&(x0 != 2))=false→PureX [] Tryz.prog fn_impl_groupUsed #[.slice groupsO groupsL groupsC,.int .i64 x1] w (.bool groupU)) ∧
 (∃niceOk,
 ((((x0 != 1)&&(x0 != 2))||(!groupU))=false→PureX [] Tryz.prog fn_impl_niceOk #[.int .i64 x3] w (.bool niceOk)) ∧
 (∃maskFu,
 (((((x0 != 1)&&(x0 != 2))||(!groupU))||(!niceOk))=false→PureX [] Tryz.prog fn_impl_maskFull #[.int .i64 x4] w (.bool maskFu)) ∧
 ((((((x0 != 1)&&(x0 != 2))||(!groupU))||(!niceOk))||(!maskFu))=true →
 R (.bool false) w) ∧
 ((((((x0 != 1)&&(x0 != 2))||(!groupU))||(!niceOk))||(!maskFu))=false →
 (∀b1,w.heap.size≤b1 →
 (∃timeOk,
 (∀wx,ExtX [] w wx→wx.heap[b1]? = some (Obj.cells ([.int .i64 x5,.int .i64 x6,.int .i64 x7]:List Value).toArray ty_int (0,0))→PureX [] Tryz.prog fn_impl_timeOk #[.slice (some (Addr.mk b1 0 none)) 3 3] wx (.bool timeOk)) ∧
 (∃loadOk,
 ((!timeOk)=false→PureX [] Tryz.prog fn_impl_loadOk #[.int .i64 x8] w (.bool loadOk)) ∧
 (∃allowe,
 (((!timeOk)||(!loadOk))=false→PureX [] Tryz.prog fn_impl_World_allowed #[.pointer wv,.int .i64 x] w (.int .i64 allowe)) ∧
 (∃xMaskHa,
 (((!timeOk)||(!loadOk))=false→PureX [] Tryz.prog fn_impl_MaskHas #[.int .i64 allowe,.int .i64 x2] w (.bool xMaskHa)) ∧
 ((((!timeOk)||(!loadOk))||(!xMaskHa))=true →
 R (.bool false) w) ∧
 ((((!timeOk)||(!loadOk))||(!xMaskHa))=false →
 (∃lane lane1,
 PureX [] Tryz.prog fn_impl_World_lane #[.pointer wv,.int .i64 x2] w (.agg #[.pointer lane,.int .i64 lane1]) ∧
 (∃shelf,
 PureX [] Tryz.prog fn_impl_lane_shelf #[.agg #[.pointer lane,.int .i64 lane1],.int .i64 x1] w (.pointer shelf) ∧
 shelf.isSome=true ∧
 (∃floor,
 CellsX [] w shelf (0+0) [.int .i64 floor] ∧
 ((x0==1)=true→(∀b2,w.heap.size≤b2 →
 (∃timeOk1,
 ((x0==1)=true→(∀wx1,ExtX [] w wx1→wx1.heap[b2]? = some (Obj.cells ([.int .i64 floor]:List Value).toArray ty_int (0,0))→PureX [] Tryz.prog fn_impl_timeOk #[.slice (some (Addr.mk b2 0 none)) 1 1] wx1 (.bool timeOk1))) ∧
 (∃xWeight,
 ((!timeOk1)=false→((x0==1)=true→PureX [] Tryz.prog fn_impl_WeightOf #[.int .i64 x3] w (.int .i64 xWeight))) ∧
 (∃placed,
 ((!timeOk1)=false→((x0==1)=true→PureX [] Tryz.prog fn_impl_placed #[.int .i64 x5,.int .i64 floor,.int .i64 xWeight] w (.bool placed))) ∧
 (((x0==1)&&((!timeOk1)||(!placed)))=true →
 R (.bool false) w) ∧
 (((x0==1)&&((!timeOk1)||(!placed)))=false →
 InR .i64 (x+1) ∧
 xInv [.int .i64 (x+1)]∧mu [.int .i64 (x+1)]<mu [.int .i64 x])))))) ∧
 (((x0==1)=true→False) →
 (false=true →
 R (.bool false) w) ∧
 (false=false →
 InR .i64 (x+1) ∧
 xInv [.int .i64 (x+1)]∧mu [.int .i64 (x+1)]<mu [.int .i64 x]))))))))))))))))))))) ∧
 ((decide (x<(tasksL:Int)))=false →
 R (.bool true) w)))
theorem p_impl_World_tasksOk (wv):PuV (V_impl_World_tasksOk wv) fn_impl_World_tasksOk #[.pointer wv]:=pV [] false [(2,⟨[(11,.int .i64)],[],[0,9,10],[],[]⟩)] Tryz.func196 (by kernel_rfl) (by kernel_rfl)
def V_impl_lane_queues (p0:Option Addr) (p1 task g:Int) (w:World) (R:Value→World→Prop):Prop :=
 (∀b,w.heap.size≤b →
 p0.isSome=true ∧
 (∃tasksO tasksL tasksC,
 CellsX [] w p0 (0+2) [.slice tasksO tasksL tasksC] ∧
 Ix tasksO tasksL task ∧
 (∃x0 x1 x2 x3 x4 x5 x6 x7 x8,
 CellsX [] w tasksO (Int.toNat task*9) [.int .i64 x0,.int .i64 x1,.int .i64 x2,.int .i64 x3,.int .i64 x4,.int .i64 x5,.int .i64 x6,.int .i64 x7,.int .i64 x8] ∧
 (∀b1,w.heap.size≤b1 →
 R (.bool (((x0==1)&&(x1==g))&&(x2==p1))) w))))
theorem p_impl_lane_queues (p0 p1 task g):PuV (V_impl_lane_queues p0 p1 task g) fn_impl_lane_queues #[.agg #[.pointer p0,.int .i64 p1],.int .i64 task,.int .i64 g]:=pV [] false [] Tryz.func186 (by kernel_rfl) (by kernel_rfl)
def V_impl_lane_holds (p0:Option Addr) (p1 kid g:Int) (w:World) (R:Value→World→Prop):Prop :=
 (∀b,w.heap.size≤b →
 ((kid != 0)=true→p0.isSome=true) ∧
 (∃groupsO groupsL groupsC,
 ((kid != 0)=true→CellsX [] w p0 (0+3) [.slice groupsO groupsL groupsC]) ∧
 ((kid != 0)=true→Ix groupsO groupsL kid) ∧
 (∃used,
 ((kid != 0)=true→CellsX [] w groupsO (Int.toNat kid*14+0) [.bool used]) ∧
 (((kid != 0)&&used)=true→p0.isSome=true) ∧
 (∃groups1O groups1L groups1C,
 (((kid != 0)&&used)=true→CellsX [] w p0 (0+3) [.slice groups1O groups1L groups1C]) ∧
 (((kid != 0)&&used)=true→Ix groups1O groups1L kid) ∧
 (∃parent,
 (((kid != 0)&&used)=true→CellsX [] w groups1O (Int.toNat kid*14+1) [.int .i64 parent]) ∧
 (∃shelf,
 ((((kid != 0)&&used)&&(parent==g))=true→PureX [] Tryz.prog fn_impl_lane_shelf #[.agg #[.pointer p0,.int .i64 p1],.int .i64 kid] w (.pointer shelf)) ∧
 ((((kid != 0)&&used)&&(parent==g))=true→shelf.isSome=true) ∧
 (∃onv,
 ((((kid != 0)&&used)&&(parent==g))=true→CellsX [] w shelf (0+1) [.bool onv]) ∧
 R (.bool ((((kid != 0)&&used)&&(parent==g))&&onv)) w)))))))
theorem p_impl_lane_holds (p0 p1 kid g):PuV (V_impl_lane_holds p0 p1 kid g) fn_impl_lane_holds #[.agg #[.pointer p0,.int .i64 p1],.int .i64 kid,.int .i64 g]:=pV [] false [] Tryz.func187 (by kernel_rfl) (by kernel_rfl)
def V_impl_lane_active (p0:Option Addr) (p1 g:Int) (w:World) (R:Value→World→Prop):Prop :=
 (∀b,w.heap.size≤b →
 p0.isSome=true ∧
 (∃tasksO tasksL tasksC,
 CellsX [] w p0 (0+2) [.slice tasksO tasksL tasksC] ∧
 (∃(xInv:List Value→Prop) (mu:List Value→Nat),xInv [.int .i64 0] ∧
 ∀(x:Int),xInv [.int .i64 x] →
 ((decide (x<(tasksL:Int)))=true →
 (∃queues,
 PureX [] Tryz.prog fn_impl_lane_queues #[.agg #[.pointer p0,.int .i64 p1],.int .i64 x,.int .i64 g] w (.bool queues) ∧
 (queues=true →
 R (.bool true) w) ∧
 (queues=false →
 InR .i64 (x+1) ∧
 xInv [.int .i64 (x+1)]∧mu [.int .i64 (x+1)]<mu [.int .i64 x]))) ∧
 ((decide (x<(tasksL:Int)))=false →
 p0.isSome=true ∧
 (∃groupsO groupsL groupsC,
 CellsX [] w p0 (0+3) [.slice groupsO groupsL groupsC] ∧
 (∃(xInv1:List Value→Prop) (mu1:List Value→Nat),xInv1 [.int .i64 0] ∧
 ∀(x1:Int),xInv1 [.int .i64 x1] →
 ((decide (x1<(groupsL:Int)))=true →
 (∃holds,
 PureX [] Tryz.prog fn_impl_lane_holds #[.agg #[.pointer p0,.int .i64 p1],.int .i64 x1,.int .i64 g] w (.bool holds) ∧
 (holds=true →
 R (.bool true) w) ∧
 (holds=false →
 InR .i64 (x1+1) ∧
 xInv1 [.int .i64 (x1+1)]∧mu1 [.int .i64 (x1+1)]<mu1 [.int .i64 x1]))) ∧
 ((decide (x1<(groupsL:Int)))=false →
 R (.bool false) w)))))))
theorem p_impl_lane_active (p0 p1 g):PuV (V_impl_lane_active p0 p1 g) fn_impl_lane_active #[.agg #[.pointer p0,.int .i64 p1],.int .i64 g]:=pV [] false [(2,⟨[(13,.int .i64)],[],[1,2,12],[],[]⟩),(8,⟨[(27,.int .i64)],[],[1,2,26],[],[]⟩)] Tryz.func113 (by kernel_rfl) (by kernel_rfl)
def V_impl_lane_dry (p0:Option Addr) (p1 g:Int) (w:World) (R:Value→World→Prop):Prop :=
 (∀b,w.heap.size≤b →
 p0.isSome=true ∧
 (∃groupsO groupsL groupsC,
 CellsX [] w p0 (0+3) [.slice groupsO groupsL groupsC] ∧
 Ix groupsO groupsL g ∧
 (∃band0 band1 band2 band3O band3L band3C band4O band4L band4C,
 CellsX [] w groupsO (Int.toNat g*14+8) [.int .i64 band0,.int .i64 band1,.int .i64 band2,.slice band3O band3L band3C,.slice band4O band4L band4C] ∧
 (∀b1,w.heap.size≤b1 →
 ((decide (band0>0))=true→Ix band4O band4L p1) ∧
 (∃x,
 ((decide (band0>0))=true→CellsX [] w band4O (Int.toNat p1*1) [.bool x]) ∧
 R (.bool ((decide (band0>0))&&x)) w)))))
theorem p_impl_lane_dry (p0 p1 g):PuV (V_impl_lane_dry p0 p1 g) fn_impl_lane_dry #[.agg #[.pointer p0,.int .i64 p1],.int .i64 g]:=pV [] false [] Tryz.func185 (by kernel_rfl) (by kernel_rfl)
def V_impl_World_shelvesOk (wv:Option Addr) (w:World) (R:Value→World→Prop):Prop :=
 wv.isSome=true ∧
 (∃groupsO groupsL groupsC,
 CellsX [] w wv (0+3) [.slice groupsO groupsL groupsC] ∧
 (∃(xInv:List Value→Prop) (mu:List Value→Nat),xInv [.int .i64 0] ∧
 ∀(x:Int),xInv [.int .i64 x] →
 ((decide (x<(groupsL:Int)))=true →
 Ix groupsO groupsL x ∧
 (∃(x0:Bool) (x1:Int) (x2:ByteArray) (x3 x4 x5 x6 x7 x8 x9 x10:Int) (x11O:Option Addr) (x11L x11C:Nat) (x12O:Option Addr) (x12L x12C:Nat) (x13O:Option Addr) (x13L x13C:Nat),
 CellsX [] w groupsO (Int.toNat x*14) [.bool x0,.int .i64 x1,.string x2,.int .i64 x3,.int .i64 x4,.int .i64 x5,.int .i64 x6,.int .i64 x7,.int .i64 x8,.int .i64 x9,.int .i64 x10,.slice x11O x11L x11C,.slice x12O x12L x12C,.slice x13O x13L x13C] ∧
 (∀b,w.heap.size≤b →
 (∃(xInv1:List Value→Prop) (mu1:List Value→Nat),xInv1 [.int .i64 0] ∧
 ∀(x14:Int),xInv1 [.int .i64 x14] →
 ((decide (x14<(x13L:Int)))=true →
 Ix x13O x13L x14 ∧
 (∃x01 x15 x21 x31 x41,
 CellsX [] w x13O (Int.toNat x14*5) [.int .i64 x01,.bool x15,.int .i64 x21,.int .i64 x31,.int .i64 x41] ∧
 (∀b1,w.heap.size≤b1 →
 (∀b2,w.heap.size≤b2 →
 (∃timeOk,
 (∀wx,ExtX [] w wx→wx.heap[b2]? = some (Obj.cells ([.int .i64 x01,.int .i64 x21,.int .i64 x41]:List Value).toArray ty_int (0,0))→PureX [] Tryz.prog fn_impl_timeOk #[.slice (some (Addr.mk b2 0 none)) 3 3] wx (.bool timeOk)) ∧
 (∃weight,
 ((!timeOk)=false→PureX [] Tryz.prog fn_impl_weightOk #[.int .i64 x31] w (.bool weight)) ∧
 (((!timeOk)||(!weight))=true →
 R (.bool false) w) ∧
 (((!timeOk)||(!weight))=false →
 InR .i64 (x14+1) ∧
 xInv1 [.int .i64 (x14+1)]∧mu1 [.int .i64 (x14+1)]<mu1 [.int .i64 x14]))))))) ∧
 ((decide (x14<(x13L:Int)))=false →
 InR .i64 (x+1) ∧
 xInv [.int .i64 (x+1)]∧mu [.int .i64 (x+1)]<mu [.int .i64 x]))))) ∧
 ((decide (x<(groupsL:Int)))=false →
 wv.isSome=true ∧
 (∃cpusO cpusL cpusC,
 CellsX [] w wv (0+1) [.slice cpusO cpusL cpusC] ∧
 (∃(xInv2:List Value→Prop) (mu2:List Value→Nat),xInv2 [.int .i64 0] ∧
 ∀(x16:Int),xInv2 [.int .i64 x16] →
 ((decide (x16<(cpusL:Int)))=true →
 (∃lane lane1,
 PureX [] Tryz.prog fn_impl_World_lane #[.pointer wv,.int .i64 x16] w (.agg #[.pointer lane,.int .i64 lane1]) ∧
 (∀b3,w.heap.size≤b3 →
 (∃shelf,
 PureX [] Tryz.prog fn_impl_lane_shelf #[.agg #[.pointer lane,.int .i64 lane1],.int .i64 0] w (.pointer shelf) ∧
 shelf.isSome=true ∧
 (∃onv,
 CellsX [] w shelf (0+1) [.bool onv] ∧
 (onv=false→shelf.isSome=true) ∧
 (∃v,
 (onv=false→CellsX [] w shelf (0+2) [.int .i64 v]) ∧
 ((onv||(v != 0))=false→shelf.isSome=true) ∧
 (∃wv1,
 ((onv||(v != 0))=false→CellsX [] w shelf (0+3) [.int .i64 wv1]) ∧
 (((onv||(v != 0))||(wv1 != 10))=true →
 R (.bool false) w) ∧
 (((onv||(v != 0))||(wv1 != 10))=false →
 (∃(xInv3:List Value→Prop) (mu3:List Value→Nat),xInv3 [.int .i64 1] ∧
 ∀(g:Int),xInv3 [.int .i64 g] →
 ((decide (g<8))=true →
 lane.isSome=true ∧
 (∃groups1O groups1L groups1C,
 CellsX [] w lane (0+3) [.slice groups1O groups1L groups1C] ∧
 Ix groups1O groups1L g ∧
 (∃used,
 CellsX [] w groups1O (Int.toNat g*14+0) [.bool used] ∧
 ((!used)=true →
 InR .i64 (g+1) ∧
 xInv3 [.int .i64 (g+1)]∧mu3 [.int .i64 (g+1)]<mu3 [.int .i64 g]) ∧
 ((!used)=false →
 (∃shelf1,
 PureX [] Tryz.prog fn_impl_lane_shelf #[.agg #[.pointer lane,.int .i64 lane1],.int .i64 g] w (.pointer shelf1) ∧
 shelf1.isSome=true ∧
 (∃onv1,
 CellsX [] w shelf1 (0+1) [.bool onv1] ∧
 (∃active,
 PureX [] Tryz.prog fn_impl_lane_active #[.agg #[.pointer lane,.int .i64 lane1],.int .i64 g] w (.bool active) ∧
 (∃dry,
 (active=true→PureX [] Tryz.prog fn_impl_lane_dry #[.agg #[.pointer lane,.int .i64 lane1],.int .i64 g] w (.bool dry)) ∧
 ((!(onv1==(active&&(!dry))))=false→shelf1.isSome=true) ∧
 (∃onv2,
 ((!(onv1==(active&&(!dry))))=false→CellsX [] w shelf1 (0+1) [.bool onv2]) ∧
 (onv2=true→((!(onv1==(active&&(!dry))))=false→shelf1.isSome=true)) ∧
 (∃v1,
 (onv2=true→((!(onv1==(active&&(!dry))))=false→CellsX [] w shelf1 (0+2) [.int .i64 v1])) ∧
 (onv2=true→((!(onv1==(active&&(!dry))))=false→lane.isSome=true)) ∧
 (∃groups2O groups2L groups2C,
 (onv2=true→((!(onv1==(active&&(!dry))))=false→CellsX [] w lane (0+3) [.slice groups2O groups2L groups2C])) ∧
 (onv2=true→((!(onv1==(active&&(!dry))))=false→Ix groups2O groups2L g)) ∧
 (∃parent,
 (onv2=true→((!(onv1==(active&&(!dry))))=false→CellsX [] w groups2O (Int.toNat g*14+1) [.int .i64 parent])) ∧
 (∃shelf2,
 (onv2=true→((!(onv1==(active&&(!dry))))=false→PureX [] Tryz.prog fn_impl_lane_shelf #[.agg #[.pointer lane,.int .i64 lane1],.int .i64 parent] w (.pointer shelf2))) ∧
 (onv2=true→((!(onv1==(active&&(!dry))))=false→shelf2.isSome=true)) ∧
 (∃floor,
 (onv2=true→((!(onv1==(active&&(!dry))))=false→CellsX [] w shelf2 (0+0) [.int .i64 floor])) ∧
 (onv2=true→((!(onv1==(active&&(!dry))))=false→shelf1.isSome=true)) ∧
 (∃wv2,
 (onv2=true→((!(onv1==(active&&(!dry))))=false→CellsX [] w shelf1 (0+3) [.int .i64 wv2])) ∧
 (∃placed,
 (onv2=true→((!(onv1==(active&&(!dry))))=false→PureX [] Tryz.prog fn_impl_placed #[.int .i64 v1,.int .i64 floor,.int .i64 wv2] w (.bool placed))) ∧
 (((!(onv1==(active&&(!dry))))||(onv2&&(!placed)))=true →
 R (.bool false) w) ∧
 (((!(onv1==(active&&(!dry))))||(onv2&&(!placed)))=false →
 InR .i64 (g+1) ∧
 xInv3 [.int .i64 (g+1)]∧mu3 [.int .i64 (g+1)]<mu3 [.int .i64 g]))))))))))))))))) ∧
 ((decide (g<8))=false →
 InR .i64 (x16+1) ∧
 xInv2 [.int .i64 (x16+1)]∧mu2 [.int .i64 (x16+1)]<mu2 [.int .i64 x16])))))))))) ∧
 ((decide (x16<(cpusL:Int)))=false →
 R (.bool true) w))))))
theorem p_impl_World_shelvesOk (wv):PuV (V_impl_World_shelvesOk wv) fn_impl_World_shelvesOk #[.pointer wv]:=pV [] false [(2,⟨[(17,.int .i64)],[],[0,15,16],[],[]⟩),(5,⟨[(24,.int .i64)],[],[0,15,16,17,22,23],[],[]⟩),(12,⟨[(50,.int .i64)],[],[0,49],[],[]⟩),(19,⟨[(10,.int .i64)],[],[0,8,49,50],[],[]⟩)] Tryz.func197 (by kernel_rfl) (by kernel_rfl)
def V_impl_World_taskThere (wv:Option Addr) (task:Int) (w:World) (R:Value→World→Prop):Prop :=
 wv.isSome=true ∧
 (∃tasksO tasksL tasksC,
 CellsX [] w wv (0+2) [.slice tasksO tasksL tasksC] ∧
 InR .i64 ((tasksL:Int) - 1) ∧
 (∃inRang,
 PureX [] Tryz.prog fn_impl_inRange #[.int .i64 task,.int .i64 0,.int .i64 ((tasksL:Int) - 1)] w (.bool inRang) ∧
 (inRang=true→wv.isSome=true) ∧
 (∃tasks1O tasks1L tasks1C,
 (inRang=true→CellsX [] w wv (0+2) [.slice tasks1O tasks1L tasks1C]) ∧
 (inRang=true→Ix tasks1O tasks1L task) ∧
 (∃state,
 (inRang=true→CellsX [] w tasks1O (Int.toNat task*9+0) [.int .i64 state]) ∧
 R (.bool (inRang&&(state != 0))) w))))
theorem p_impl_World_taskThere (wv task):PuV (V_impl_World_taskThere wv task) fn_impl_World_taskThere #[.pointer wv,.int .i64 task]:=pV [] false [] Tryz.func61 (by kernel_rfl) (by kernel_rfl)
def V_impl_lane_inLine (p0:Option Addr) (p1 task:Int) (w:World) (R:Value→World→Prop):Prop :=
 (∀b,w.heap.size≤b →
 p0.isSome=true ∧
 (∃tasksO tasksL tasksC,
 CellsX [] w p0 (0+2) [.slice tasksO tasksL tasksC] ∧
 Ix tasksO tasksL task ∧
 (∃x0 x1 x2 x3 x4 x5 x6 x7 x8,
 CellsX [] w tasksO (Int.toNat task*9) [.int .i64 x0,.int .i64 x1,.int .i64 x2,.int .i64 x3,.int .i64 x4,.int .i64 x5,.int .i64 x6,.int .i64 x7,.int .i64 x8] ∧
 (∀b1,w.heap.size≤b1 →
 (((x0 != 1)||(x2 != p1))=true →
 R (.bool false) w) ∧
 (((x0 != 1)||(x2 != p1))=false →
 (∃(xInv:List Value→Prop) (mu:List Value→Nat),xInv [.int .i64 x1] ∧
 ∀(g:Int),xInv [.int .i64 g] →
 ((g != 0)=true →
 (∃shelf,
 PureX [] Tryz.prog fn_impl_lane_shelf #[.agg #[.pointer p0,.int .i64 p1],.int .i64 g] w (.pointer shelf) ∧
 shelf.isSome=true ∧
 (∃onv,
 CellsX [] w shelf (0+1) [.bool onv] ∧
 ((!onv)=true →
 R (.bool false) w) ∧
 ((!onv)=false →
 p0.isSome=true ∧
 (∃groupsO groupsL groupsC,
 CellsX [] w p0 (0+3) [.slice groupsO groupsL groupsC] ∧
 Ix groupsO groupsL g ∧
 (∃parent,
 CellsX [] w groupsO (Int.toNat g*14+1) [.int .i64 parent] ∧
 xInv [.int .i64 parent]∧mu [.int .i64 parent]<mu [.int .i64 g])))))) ∧
 ((g != 0)=false →
 R (.bool true) w)))))))
theorem p_impl_lane_inLine (p0 p1 task):PuV (V_impl_lane_inLine p0 p1 task) fn_impl_lane_inLine #[.agg #[.pointer p0,.int .i64 p1],.int .i64 task]:=pV [] false [(5,⟨[(6,.int .i64)],[],[2],[],[]⟩)] Tryz.func116 (by kernel_rfl) (by kernel_rfl)
def V_impl_World_cpusOk (wv:Option Addr) (w:World) (R:Value→World→Prop):Prop :=
 wv.isSome=true ∧
 (∃cpusO cpusL cpusC,
 CellsX [] w wv (0+1) [.slice cpusO cpusL cpusC] ∧
 (∃(xInv:List Value→Prop) (mu:List Value→Nat),xInv [.int .i64 0] ∧
 ∀(x:Int),xInv [.int .i64 x] →
 ((decide (x<(cpusL:Int)))=true →
 Ix cpusO cpusL x ∧
 (∃x0 x1 x2 x3 x4,
 CellsX [] w cpusO (Int.toNat x*5) [.bool x0,.int .i64 x1,.int .i64 x2,.int .i64 x3,.int .i64 x4] ∧
 (∀b,w.heap.size≤b →
 (∀b1,w.heap.size≤b1 →
 (∃timeOk,
 (∀wx,ExtX [] w wx→wx.heap[b1]? = some (Obj.cells ([.int .i64 x3,.int .i64 x4]:List Value).toArray ty_int (0,0))→PureX [] Tryz.prog fn_impl_timeOk #[.slice (some (Addr.mk b1 0 none)) 2 2] wx (.bool timeOk)) ∧
 ((!timeOk)=true →
 R (.bool false) w) ∧
 ((!timeOk)=false →
 (((x1==(-1))&&(x2==0))=true →
 InR .i64 (x+1) ∧
 xInv [.int .i64 (x+1)]∧mu [.int .i64 (x+1)]<mu [.int .i64 x]) ∧
 (((x1==(-1))&&(x2==0))=false →
 (∃lane lane1,
 PureX [] Tryz.prog fn_impl_World_lane #[.pointer wv,.int .i64 x] w (.agg #[.pointer lane,.int .i64 lane1]) ∧
 (∀b2,w.heap.size≤b2 →
 (∃taskTh,
 ((!x0)=false→PureX [] Tryz.prog fn_impl_World_taskThere #[.pointer wv,.int .i64 x1] w (.bool taskTh)) ∧
 (∃inLine,
 (((!x0)||(!taskTh))=false→PureX [] Tryz.prog fn_impl_lane_inLine #[.agg #[.pointer lane,.int .i64 lane1],.int .i64 x1] w (.bool inLine)) ∧
 (∃inRang,
 ((((!x0)||(!taskTh))||(!inLine))=false→PureX [] Tryz.prog fn_impl_inRange #[.int .i64 x2,.int .i64 1,.int .i64 149] w (.bool inRang)) ∧
 (((((!x0)||(!taskTh))||(!inLine))||(!inRang))=true →
 R (.bool false) w) ∧
 (((((!x0)||(!taskTh))||(!inLine))||(!inRang))=false →
 wv.isSome=true ∧
 (∃tasksO tasksL tasksC,
 CellsX [] w wv (0+2) [.slice tasksO tasksL tasksC] ∧
 Ix tasksO tasksL x1 ∧
 (∃x01 x11 x21 x31 x41 x5 x6 x7 x8,
 CellsX [] w tasksO (Int.toNat x1*9) [.int .i64 x01,.int .i64 x11,.int .i64 x21,.int .i64 x31,.int .i64 x41,.int .i64 x5,.int .i64 x6,.int .i64 x7,.int .i64 x8] ∧
 (∀b3,w.heap.size≤b3 →
 CellsX [] w tasksO (Int.toNat x1*9) [.int .i64 x01,.int .i64 x11,.int .i64 x21,.int .i64 x31,.int .i64 x41,.int .i64 x5,.int .i64 x6,.int .i64 x7,.int .i64 x8] ∧
 (some (ty_impl_Cpu,([.bool x0,.int .i64 x1,.int .i64 x2,.int .i64 x3,.int .i64 x4]:List Value))=some (ty_impl_Cpu,([.bool x0,.int .i64 x1,.int .i64 x2,.int .i64 x3,.int .i64 x4]:List Value))) ∧
 CellsX [] w wv (0+2) [.slice tasksO tasksL tasksC] ∧
 (∃shelf,
 PureX [] Tryz.prog fn_impl_lane_shelf #[.agg #[.pointer lane,.int .i64 lane1],.int .i64 x11] w (.pointer shelf) ∧
 shelf.isSome=true ∧
 (∃floor,
 CellsX [] w shelf (0+0) [.int .i64 floor] ∧
 InR .i64 (x5 - floor) ∧
 (∃xWeight,
 PureX [] Tryz.prog fn_impl_WeightOf #[.int .i64 x31] w (.int .i64 xWeight) ∧
 (∃xVirtua,
 PureX [] Tryz.prog fn_impl_VirtualStep #[.int .i64 x2,.int .i64 xWeight] w (.int .i64 xVirtua) ∧
 ((decide (x5 - floor>xVirtua))=true →
 R (.bool false) w) ∧
 ((decide (x5 - floor>xVirtua))=false →
 (∃(xInv1:List Value→Prop) (mu1:List Value→Nat),xInv1 [.int .i64 x11] ∧
 ∀(g:Int),xInv1 [.int .i64 g] →
 ((g != 0)=true →
 (∃shelf1,
 PureX [] Tryz.prog fn_impl_lane_shelf #[.agg #[.pointer lane,.int .i64 lane1],.int .i64 g] w (.pointer shelf1) ∧
 shelf1.isSome=true ∧
 (∃v,
 CellsX [] w shelf1 (0+2) [.int .i64 v] ∧
 wv.isSome=true ∧
 (∃groupsO groupsL groupsC,
 CellsX [] w wv (0+3) [.slice groupsO groupsL groupsC] ∧
 Ix groupsO groupsL g ∧
 (∃parent,
 CellsX [] w groupsO (Int.toNat g*14+1) [.int .i64 parent] ∧
 (∃shelf2,
 PureX [] Tryz.prog fn_impl_lane_shelf #[.agg #[.pointer lane,.int .i64 lane1],.int .i64 parent] w (.pointer shelf2) ∧
 shelf2.isSome=true ∧
 (∃floor1,
 CellsX [] w shelf2 (0+0) [.int .i64 floor1] ∧
 InR .i64 (v - floor1) ∧
 shelf1.isSome=true ∧
 (∃wv1,
 CellsX [] w shelf1 (0+3) [.int .i64 wv1] ∧
 (∃xVirtua1,
 PureX [] Tryz.prog fn_impl_VirtualStep #[.int .i64 x2,.int .i64 wv1] w (.int .i64 xVirtua1) ∧
 ((decide (v - floor1>xVirtua1))=true →
 R (.bool false) w) ∧
 ((decide (v - floor1>xVirtua1))=false →
 wv.isSome=true ∧
 (∃groups1O groups1L groups1C,
 CellsX [] w wv (0+3) [.slice groups1O groups1L groups1C] ∧
 Ix groups1O groups1L g ∧
 (∃parent1,
 CellsX [] w groups1O (Int.toNat g*14+1) [.int .i64 parent1] ∧
 xInv1 [.int .i64 parent1]∧mu1 [.int .i64 parent1]<mu1 [.int .i64 g])))))))))))) ∧
 ((g != 0)=false →
 InR .i64 (x+1) ∧
 xInv [.int .i64 (x+1)]∧mu [.int .i64 (x+1)]<mu [.int .i64 x]))))))))))))))))))))))) ∧
 ((decide (x<(cpusL:Int)))=false →
 R (.bool true) w)))
theorem p_impl_World_cpusOk (wv):PuV (V_impl_World_cpusOk wv) fn_impl_World_cpusOk #[.pointer wv]:=pV [] false [(2,⟨[(14,.int .i64)],[],[0,12,13],[],[]⟩),(14,⟨[(7,.int .i64)],[],[0,4,5,12,13,14],[],[]⟩)] Tryz.func198 (by kernel_rfl) (by kernel_rfl)
def V_impl_WorldOk (w0:Int) (w1O:Option Addr) (w1L w1C:Nat) (w2O:Option Addr) (w2L w2C:Nat) (w3O:Option Addr) (w3L w3C:Nat) (w:World) (R:Value→World→Prop):Prop :=
 (∀b wb,ExtX [] w wb→w.heap.size≤b→wb.heap[b]? = some (Obj.cells ([.int .i64 w0,.slice w1O w1L w1C,.slice w2O w2L w2C,.slice w3O w3L w3C]:List Value).toArray ty_impl_World (0,0))→b∉([]:List Nat) →
 (∀b1,wb.heap.size≤b1 →
 (∃(xInv:List Value→World→Prop) (mu:List Value→World→Nat),(∀wr,ExtX [] wb wr→(∀bq∈([b1]:List Nat),bq<wr.heap.size)→xInv [.bool true,.int .i64 0] wr) ∧
 ∀(ok:Bool) (x:Int) wv,(∀bq∈([b1]:List Nat),bq<wv.heap.size)→xInv [.bool ok,.int .i64 x] wv →
 ((decide (x<5))=true →
 (∃(x1F:Fn) (x1A:Array Value) (x1K:Array Value),
 (0≤x∧x<(5:Int)∧(#[.func (.func fn_impl_World_shapeOk) #[] #[],.func (.func fn_impl_World_groupsOk) #[] #[],.func (.func fn_impl_World_tasksOk) #[] #[],.func (.func fn_impl_World_shelvesOk) #[] #[],.func (.func fn_impl_World_cpusOk) #[] #[]]:Array Value)[Int.toNat x]? = some (.func x1F x1A x1K)) ∧
 (∀wr1,ExtX [b1] wv wr1→(∀bq∈([b1]:List Nat),bq<wr1.heap.size) →
 CallF Tryz.prog (.func x1F x1A x1K) [.pointer ((some (Addr.mk b 0 none)).map (·.add 0))] wr1 fun e wv1 =>
 (∃rv,
 e = .returned (.bool rv)∧Kept [b1] wr1 wv1 ∧
 ((!rv)=true →
 (∀wr2,ExtX [b1] wv1 wr2→R (.bool false) wr2)) ∧
 ((!rv)=false →
 InR .i64 (x+1) ∧
 (∀wr3,ExtX [b1] wv1 wr3→(∀bq∈([b1]:List Nat),bq<wr3.heap.size)→xInv [.bool ok,.int .i64 (x+1)] wr3∧mu [.bool ok,.int .i64 (x+1)] wr3<mu [.bool ok,.int .i64 x] wv)))))) ∧
 ((decide (x<5))=false →
 (∀wr4,ExtX [b1] wv wr4→R (.bool ok) wr4)))))
theorem e_impl_WorldOk (w0 w1O w1L w1C w2O w2L w2C w3O w3L w3C):EfV (V_impl_WorldOk w0 w1O w1L w1C w2O w2L w2C w3O w3L w3C) fn_impl_WorldOk #[.agg #[.int .i64 w0,.slice w1O w1L w1C,.slice w2O w2L w2C,.slice w3O w3L w3C]]:=eV [1] false [(4,⟨[(4,.bool),(9,.int .i64)],[],[1,8],[],[]⟩)] Tryz.func131 (by kernel_rfl) (by kernel_rfl)
def V_impl_bandCopy (b0 b1 b2:Int) (b3O:Option Addr) (b3L b3C:Nat) (b4O:Option Addr) (b4L b4C:Nat) (w:World) (R:Value→World→Prop):Prop :=
 (∀b,w.heap.size≤b →
 (∀b5,w.heap.size≤b5 →
 (∀wr,ExtX [] w wr→(∀bq∈([b,b5]:List Nat),bq<wr.heap.size) →
 (∃mkO mkL mkC,
 ∃wv,((Instr.makeSlice ty_sl_int (.int .i64 (b3L:Int)) (.int .i64 (b3L:Int))):Sem Value).run Tryz.prog wr = .ok (.slice mkO mkL mkC) wv∧Kept [b,b5] wr wv ∧
 (∀wr1,ExtX [b,b5] wv wr1→(∀bq∈([b,b5]:List Nat),bq<wr1.heap.size) →
 (∃ap,
 ∃wv1,(builtin .copy #[ty_sl_int,ty_sl_int] ty_int #[false,false] #[.slice mkO mkL mkC,.slice b3O b3L b3C]).run Tryz.prog wr1 = .ok (.value (.int .i64 ap)) wv1∧Kept [b,b5] wr1 wv1 ∧
 (∀wr2,ExtX [b,b5] wv1 wr2→(∀bq∈([b,b5]:List Nat),bq<wr2.heap.size) →
 (∃mk1O mk1L mk1C,
 ∃wv2,((Instr.makeSlice ty_sl_bool (.int .i64 (b4L:Int)) (.int .i64 (b4L:Int))):Sem Value).run Tryz.prog wr2 = .ok (.slice mk1O mk1L mk1C) wv2∧Kept [b,b5] wr2 wv2 ∧
 (∀wr3,ExtX [b,b5] wv2 wr3→(∀bq∈([b,b5]:List Nat),bq<wr3.heap.size) →
 (∃ap1,
 ∃wv3,(builtin .copy #[ty_sl_bool,ty_sl_bool] ty_int #[false,false] #[.slice mk1O mk1L mk1C,.slice b4O b4L b4C]).run Tryz.prog wr3 = .ok (.value (.int .i64 ap1)) wv3∧Kept [b,b5] wr3 wv3 ∧
 (∀wr4,ExtX [b,b5] wv3 wr4→R (.agg #[.int .i64 b0,.int .i64 b1,.int .i64 b2,.slice mkO mkL mkC,.slice mk1O mk1L mk1C]) wr4)))))))))))
theorem e_impl_bandCopy (b0 b1 b2 b3O b3L b3C b4O b4L b4C):EfV (V_impl_bandCopy b0 b1 b2 b3O b3L b3C b4O b4L b4C) fn_impl_bandCopy #[.agg #[.int .i64 b0,.int .i64 b1,.int .i64 b2,.slice b3O b3L b3C,.slice b4O b4L b4C]]:=eV [] false [] Tryz.func199 (by kernel_rfl) (by kernel_rfl)
def V_impl_worldCopy (w0:Int) (w1O:Option Addr) (w1L w1C:Nat) (w2O:Option Addr) (w2L w2C:Nat) (w3O:Option Addr) (w3L w3C:Nat) (w:World) (R:Value→World→Prop):Prop :=
 (∀b,w.heap.size≤b →
 (∀b1,w.heap.size≤b1 →
 (∀b2,w.heap.size≤b2 →
 (∀wr,ExtX [] w wr→(∀bq∈([b,b1,b2]:List Nat),bq<wr.heap.size) →
 (∃apO apL apC,
 ∃wv,(builtin .append #[ty_sl_impl_Cpu,ty_sl_impl_Cpu] ty_sl_impl_Cpu #[false,false] #[.slice none 0 0,.slice w1O w1L w1C]).run Tryz.prog wr = .ok (.value (.slice apO apL apC)) wv∧Kept [b,b1,b2] wr wv ∧
 (∀wr1,ExtX [b,b1,b2] wv wr1→(∀bq∈([b,b1,b2]:List Nat),bq<wr1.heap.size) →
 (∃ap1O ap1L ap1C,
 ∃wv1,(builtin .append #[ty_sl_impl_Task,ty_sl_impl_Task] ty_sl_impl_Task #[false,false] #[.slice none 0 0,.slice w2O w2L w2C]).run Tryz.prog wr1 = .ok (.value (.slice ap1O ap1L ap1C)) wv1∧Kept [b,b1,b2] wr1 wv1 ∧
 (∀wr2,ExtX [b,b1,b2] wv1 wr2→(∀bq∈([b,b1,b2]:List Nat),bq<wr2.heap.size) →
 (∃ap2O ap2L ap2C,
 ∃wv2,(builtin .append #[ty_sl_impl_Group,ty_sl_impl_Group] ty_sl_impl_Group #[false,false] #[.slice none 0 0,.slice w3O w3L w3C]).run Tryz.prog wr2 = .ok (.value (.slice ap2O ap2L ap2C)) wv2∧Kept [b,b1,b2] wr2 wv2 ∧
 (∃(xInv:List Value→World→Prop) (mu:List Value→World→Nat),(∀wr3,ExtX [b,b1,b2] wv2 wr3→(∀bq∈([b,b1,b2]:List Nat),bq<wr3.heap.size)→xInv [.int .i64 0] wr3) ∧
 ∀(x:Int) wv3,(∀bq∈([b,b1,b2]:List Nat),bq<wv3.heap.size)→xInv [.int .i64 x] wv3 →
 ((decide (x<(ap2L:Int)))=true →
 Ix w3O w3L x ∧
 (∃(x0:Bool) (x1:Int) (x2:ByteArray) (x3 x4 x5 x6 x7 x8 x9 x10:Int) (x11O:Option Addr) (x11L x11C:Nat) (x12O:Option Addr) (x12L x12C:Nat) (x13O:Option Addr) (x13L x13C:Nat),
 CellsX [b,b1,b2] wv3 w3O (Int.toNat x*14) [.bool x0,.int .i64 x1,.string x2,.int .i64 x3,.int .i64 x4,.int .i64 x5,.int .i64 x6,.int .i64 x7,.int .i64 x8,.int .i64 x9,.int .i64 x10,.slice x11O x11L x11C,.slice x12O x12L x12C,.slice x13O x13L x13C] ∧
 (∀b3,wv3.heap.size≤b3 →
 (∀wr4,ExtX [b,b1,b2] wv3 wr4→(∀bq∈([b,b1,b2,b3]:List Nat),bq<wr4.heap.size) →
 Calls Tryz.prog fn_impl_bandCopy #[.agg #[.int .i64 x8,.int .i64 x9,.int .i64 x10,.slice x11O x11L x11C,.slice x12O x12L x12C]] wr4 fun e wv4 =>
 (∃bandCo bandCo1 bandCo2 bandCo3O bandCo3L bandCo3C bandCo4O bandCo4L bandCo4C,
 e = .returned (.agg #[.int .i64 bandCo,.int .i64 bandCo1,.int .i64 bandCo2,.slice bandCo3O bandCo3L bandCo3C,.slice bandCo4O bandCo4L bandCo4C])∧Kept [b,b1,b2,b3] wr4 wv4 ∧
 (some (ty_impl_World,([.int .i64 w0,.slice apO apL apC,.slice ap1O ap1L ap1C,.slice ap2O ap2L ap2C]:List Value))=some (ty_impl_World,([.int .i64 w0,.slice apO apL apC,.slice ap1O ap1L ap1C,.slice ap2O ap2L ap2C]:List Value))) ∧
 Ix ap2O ap2L x ∧
 WrX [b,b1,b2,b3] wv4 ap2O (Int.toNat x*14+8) 5 ∧
 (∀wr5,ExtX [b,b1,b2,b3] (sto wv4 ap2O (Int.toNat x*14+8) [.int .i64 bandCo,.int .i64 bandCo1,.int .i64 bandCo2,.slice bandCo3O bandCo3L bandCo3C,.slice bandCo4O bandCo4L bandCo4C]) wr5→(∀bq∈([b,b1,b2,b3]:List Nat),bq<wr5.heap.size) →
 (∃ap3O ap3L ap3C,
 ∃wv5,(builtin .append #[ty_sl_impl_Shelf,ty_sl_impl_Shelf] ty_sl_impl_Shelf #[true,false] #[.slice none 0 0,.slice x13O x13L x13C]).run Tryz.prog wr5 = .ok (.value (.slice ap3O ap3L ap3C)) wv5∧Kept [b,b1,b2,b3] wr5 wv5 ∧
 (some (ty_impl_World,([.int .i64 w0,.slice apO apL apC,.slice ap1O ap1L ap1C,.slice ap2O ap2L ap2C]:List Value))=some (ty_impl_World,([.int .i64 w0,.slice apO apL apC,.slice ap1O ap1L ap1C,.slice ap2O ap2L ap2C]:List Value))) ∧
 Ix ap2O ap2L x ∧
 WrX [b,b1,b2,b3] wv5 ap2O (Int.toNat x*14+13) 1 ∧
 InR .i64 (x+1) ∧
 (∀wr6,ExtX [b,b1,b2,b3] (sto wv5 ap2O (Int.toNat x*14+13) [.slice ap3O ap3L ap3C]) wr6→(∀bq∈([b,b1,b2,b3]:List Nat),bq<wr6.heap.size)→xInv [.int .i64 (x+1)] wr6∧mu [.int .i64 (x+1)] wr6<mu [.int .i64 x] wv3)))))))) ∧
 ((decide (x<(ap2L:Int)))=false →
 (∀wr7,ExtX [b,b1,b2] wv3 wr7→R (.agg #[.int .i64 w0,.slice apO apL apC,.slice ap1O ap1L ap1C,.slice ap2O ap2L ap2C]) wr7))))))))))))
theorem e_impl_worldCopy (w0 w1O w1L w1C w2O w2L w2C w3O w3L w3C):EfV (V_impl_worldCopy w0 w1O w1L w1C w2O w2L w2C w3O w3L w3C) fn_impl_worldCopy #[.agg #[.int .i64 w0,.slice w1O w1L w1C,.slice w2O w2L w2C,.slice w3O w3L w3C]]:=eV [] false [(6,⟨[(30,.int .i64)],[],[1,2,3,29],[],[]⟩)] Tryz.func132 (by kernel_rfl) (by kernel_rfl)
def V_impl_attempt (w0:Int) (w1O:Option Addr) (w1L w1C:Nat) (w2O:Option Addr) (w2L w2C:Nat) (w3O:Option Addr) (w3L w3C:Nat) (callF:Fn) (callA:Array Value) (callK:Array Value) (w:World) (R:Value→World→Prop):Prop :=
 (∀b,w.heap.size≤b →
 (∀b1,w.heap.size≤b1 →
 (∃xWorldO,
 PureX [] Tryz.prog fn_impl_WorldOk #[.agg #[.int .i64 w0,.slice w1O w1L w1C,.slice w2O w2L w2C,.slice w3O w3L w3C]] w (.bool xWorldO) ∧
 ((!xWorldO)=true →
 (∀wr,ExtX [] w wr→R (.tuple #[.agg #[.int .i64 0,.slice none 0 0,.slice none 0 0,.slice none 0 0],.int .i64 1]) wr)) ∧
 ((!xWorldO)=false →
 (∀wr1,ExtX [] w wr1→(∀bq∈([b,b1]:List Nat),bq<wr1.heap.size) →
 Calls Tryz.prog fn_impl_worldCopy #[.agg #[.int .i64 w0,.slice w1O w1L w1C,.slice w2O w2L w2C,.slice w3O w3L w3C]] wr1 fun e wv =>
 (∃worldC worldC1O worldC1L worldC1C worldC2O worldC2L worldC2C worldC3O worldC3L worldC3C,
 e = .returned (.agg #[.int .i64 worldC,.slice worldC1O worldC1L worldC1C,.slice worldC2O worldC2L worldC2C,.slice worldC3O worldC3L worldC3C])∧Kept [b,b1] wr1 wv ∧
 (∀b2 wb,ExtX [b,b1] wv wb→wv.heap.size≤b2→wb.heap[b2]? = some (Obj.cells ([.int .i64 0,.slice none 0 0,.slice none 0 0,.slice none 0 0]:List Value).toArray ty_impl_World (0,0))→b2∉([b,b1]:List Nat) →
 WrX [b,b1] wb (some (Addr.mk b2 0 none)) 0 4 ∧
 (∀b3 wb1,ExtX [b,b1] (sto wb (some (Addr.mk b2 0 none)) 0 [.int .i64 worldC,.slice worldC1O worldC1L worldC1C,.slice worldC2O worldC2L worldC2C,.slice worldC3O worldC3L worldC3C]) wb1→(sto wb (some (Addr.mk b2 0 none)) 0 [.int .i64 worldC,.slice worldC1O worldC1L worldC1C,.slice worldC2O worldC2L worldC2C,.slice worldC3O worldC3L worldC3C]).heap.size≤b3→wb1.heap[b3]? = some (Obj.cells ([.int .i64 0]:List Value).toArray ty_impl_refusal (0,0))→b3∉([b,b1]:List Nat) →
 (∀wr2,ExtX [b,b1] wb1 wr2→(∀bq∈([b,b1]:List Nat),bq<wr2.heap.size) →
 CallF Tryz.prog (.func callF callA callK) [.pointer ((some (Addr.mk b2 0 none)).map (·.add 0))] wr2 fun e1 wv1 =>
 (∃(rv:Value),
 e1 = .returned rv∧Kept [b,b1] wr2 wv1 ∧
 (∀wr3,ExtX [b,b1] wv1 wr3→(∀bq∈([b,b1]:List Nat),bq<wr3.heap.size) →
 Calls Tryz.prog fn_errors_As #[rv,.iface ty_p_impl_refusal (.pointer ((some (Addr.mk b3 0 none)).map (·.add 0)))] wr3 fun e2 wv2 =>
 (∃xAs,
 e2 = .returned (.bool xAs)∧Kept [b,b1] wr3 wv2 ∧
 (xAs=true →
 (∃code,
 CellsX [b,b1] wv2 (some (Addr.mk b3 0 none)) (0+0) [.int .i64 code] ∧
 (∀wr4,ExtX [b,b1] wv2 wr4→(∀bq∈([b,b1]:List Nat),bq<wr4.heap.size) →
 Calls Tryz.prog fn_impl_worldCopy #[.agg #[.int .i64 w0,.slice w1O w1L w1C,.slice w2O w2L w2C,.slice w3O w3L w3C]] wr4 fun e3 wv3 =>
 (∃worldC4 worldC5O worldC5L worldC5C worldC6O worldC6L worldC6C worldC7O worldC7L worldC7C,
 e3 = .returned (.agg #[.int .i64 worldC4,.slice worldC5O worldC5L worldC5C,.slice worldC6O worldC6L worldC6C,.slice worldC7O worldC7L worldC7C])∧Kept [b,b1] wr4 wv3 ∧
 CellsX [b,b1] wv3 (some (Addr.mk b3 0 none)) (0+0) [.int .i64 code] ∧
 CellsX [b,b1] wv3 (some (Addr.mk b3 0 none)) (0+0) [.int .i64 code] ∧
 (∀wr5,ExtX [b,b1] wv3 wr5→R (.tuple #[.agg #[.int .i64 worldC4,.slice worldC5O worldC5L worldC5C,.slice worldC6O worldC6L worldC6C,.slice worldC7O worldC7L worldC7C],.int .i64 code]) wr5))))) ∧
 (xAs=false →
 (∃x0 x1O x1L x1C x2O x2L x2C x3O x3L x3C,
 CellsX [b,b1] wv2 (some (Addr.mk b2 0 none)) 0 [.int .i64 x0,.slice x1O x1L x1C,.slice x2O x2L x2C,.slice x3O x3L x3C] ∧
 (∀wr6,ExtX [b,b1] wv2 wr6→R (.tuple #[.agg #[.int .i64 x0,.slice x1O x1L x1C,.slice x2O x2L x2C,.slice x3O x3L x3C],.int .i64 0]) wr6)))))))))))))))
theorem e_impl_attempt (w0 w1O w1L w1C w2O w2L w2C w3O w3L w3C callF callA callK):EfV (V_impl_attempt w0 w1O w1L w1C w2O w2L w2C w3O w3L w3C callF callA callK) fn_impl_attempt #[.agg #[.int .i64 w0,.slice w1O w1L w1C,.slice w2O w2L w2C,.slice w3O w3L w3C],.func callF callA callK]:=eV [6,7] false [] Tryz.func59 (by kernel_rfl) (by kernel_rfl)
def V_impl_lane_cpu (p0:Option Addr) (p1:Int) (w:World) (R:Value→World→Prop):Prop :=
 (∀b,w.heap.size≤b →
 p0.isSome=true ∧
 (∃cpusO cpusL cpusC,
 CellsX [] w p0 (0+1) [.slice cpusO cpusL cpusC] ∧
 Ix cpusO cpusL p1 ∧
 R (.pointer (cpusO.map (·.add (Int.toNat p1*5)))) w))
theorem p_impl_lane_cpu (p0 p1):PuV (V_impl_lane_cpu p0 p1) fn_impl_lane_cpu #[.agg #[.pointer p0,.int .i64 p1]]:=pV [] false [] Tryz.func41 (by kernel_rfl) (by kernel_rfl)
def V_impl_lane_endSlice (p0:Option Addr) (p1:Int) (w:World) (R:Value→World→Prop):Prop :=
 (∀b,w.heap.size≤b →
 (∃cpu,
 PureX [] Tryz.prog fn_impl_lane_cpu #[.agg #[.pointer p0,.int .i64 p1]] w (.pointer cpu) ∧
 (∃cpu1,
 PureX [] Tryz.prog fn_impl_lane_cpu #[.agg #[.pointer p0,.int .i64 p1]] w (.pointer cpu1) ∧
 cpu.isSome=true ∧
 WrX [] w cpu (0+1) 1 ∧
 cpu1.isSome=true ∧
 WrX [] (sto w cpu (0+1) [.int .i64 (-1)]) cpu1 (0+2) 1 ∧
 (∀wr,ExtX [] (sto (sto w cpu (0+1) [.int .i64 (-1)]) cpu1 (0+2) [.int .i64 0]) wr→R (.tuple #[]) wr))))
theorem e_impl_lane_endSlice (p0 p1):EfV (V_impl_lane_endSlice p0 p1) fn_impl_lane_endSlice #[.agg #[.pointer p0,.int .i64 p1]]:=eV [] false [] Tryz.func42 (by kernel_rfl) (by kernel_rfl)
def V_impl_LagCut (lag weight:Int) (w:World) (R:Value→World→Prop):Prop :=
 (∃xLagMos,
 PureX [] Tryz.prog fn_impl_LagMost #[.int .i64 weight] w (.int .i64 xLagMos) ∧
 R (.int .i64 (if (if xLagMos<lag then xLagMos else lag)>0 then (if xLagMos<lag then xLagMos else lag) else 0)) w)
theorem p_impl_LagCut (lag weight):PuV (V_impl_LagCut lag weight) fn_impl_LagCut #[.int .i64 lag,.int .i64 weight]:=pV [] false [] Tryz.func138 (by kernel_rfl) (by kernel_rfl)
def V_impl_World_floor (wv:Option Addr) (task:Int) (w:World) (R:Value→World→Prop):Prop :=
 wv.isSome=true ∧
 (∃tasksO tasksL tasksC,
 CellsX [] w wv (0+2) [.slice tasksO tasksL tasksC] ∧
 Ix tasksO tasksL task ∧
 (∃x0 x1 x2 x3 x4 x5 x6 x7 x8,
 CellsX [] w tasksO (Int.toNat task*9) [.int .i64 x0,.int .i64 x1,.int .i64 x2,.int .i64 x3,.int .i64 x4,.int .i64 x5,.int .i64 x6,.int .i64 x7,.int .i64 x8] ∧
 (∀b,w.heap.size≤b →
 (∃lane lane1,
 PureX [] Tryz.prog fn_impl_World_lane #[.pointer wv,.int .i64 x2] w (.agg #[.pointer lane,.int .i64 lane1]) ∧
 (∃shelf,
 PureX [] Tryz.prog fn_impl_lane_shelf #[.agg #[.pointer lane,.int .i64 lane1],.int .i64 x1] w (.pointer shelf) ∧
 shelf.isSome=true ∧
 (∃floor,
 CellsX [] w shelf (0+0) [.int .i64 floor] ∧
 R (.int .i64 floor) w))))))
theorem p_impl_World_floor (wv task):PuV (V_impl_World_floor wv task) fn_impl_World_floor #[.pointer wv,.int .i64 task]:=pV [] false [] Tryz.func139 (by kernel_rfl) (by kernel_rfl)
def V_impl_World_weight (wv:Option Addr) (task:Int) (w:World) (R:Value→World→Prop):Prop :=
 wv.isSome=true ∧
 (∃tasksO tasksL tasksC,
 CellsX [] w wv (0+2) [.slice tasksO tasksL tasksC] ∧
 Ix tasksO tasksL task ∧
 (∃nice,
 CellsX [] w tasksO (Int.toNat task*9+3) [.int .i64 nice] ∧
 (∃xWeight,
 PureX [] Tryz.prog fn_impl_WeightOf #[.int .i64 nice] w (.int .i64 xWeight) ∧
 R (.int .i64 xWeight) w)))
theorem p_impl_World_weight (wv task):PuV (V_impl_World_weight wv task) fn_impl_World_weight #[.pointer wv,.int .i64 task]:=pV [] false [] Tryz.func140 (by kernel_rfl) (by kernel_rfl)
def V_impl_World_put (wv:Option Addr) (task group cpu:Int) (w:World) (R:Value→World→Prop):Prop :=
 wv.isSome=true ∧
 (∃tasksO tasksL tasksC,
 CellsX [] w wv (0+2) [.slice tasksO tasksL tasksC] ∧
 Ix tasksO tasksL task ∧
 (∃v,
 CellsX [] w tasksO (Int.toNat task*9+5) [.int .i64 v] ∧
 (∃floor,
 PureX [] Tryz.prog fn_impl_World_floor #[.pointer wv,.int .i64 task] w (.int .i64 floor) ∧
 InR .i64 (v - floor) ∧
 (∃weight,
 PureX [] Tryz.prog fn_impl_World_weight #[.pointer wv,.int .i64 task] w (.int .i64 weight) ∧
 (∃xLagCut,
 PureX [] Tryz.prog fn_impl_LagCut #[.int .i64 (v - floor),.int .i64 weight] w (.int .i64 xLagCut) ∧
 WrX [] w tasksO (Int.toNat task*9+1) 1 ∧
 WrX [] (sto w tasksO (Int.toNat task*9+1) [.int .i64 group]) tasksO (Int.toNat task*9+2) 1 ∧
 (∃floor1,
 PureX [] Tryz.prog fn_impl_World_floor #[.pointer wv,.int .i64 task] (sto (sto w tasksO (Int.toNat task*9+1) [.int .i64 group]) tasksO (Int.toNat task*9+2) [.int .i64 cpu]) (.int .i64 floor1) ∧
 InR .i64 (floor1+xLagCut) ∧
 WrX [] (sto (sto w tasksO (Int.toNat task*9+1) [.int .i64 group]) tasksO (Int.toNat task*9+2) [.int .i64 cpu]) tasksO (Int.toNat task*9+5) 1 ∧
 (∃state,
 CellsX [] (sto (sto (sto w tasksO (Int.toNat task*9+1) [.int .i64 group]) tasksO (Int.toNat task*9+2) [.int .i64 cpu]) tasksO (Int.toNat task*9+5) [.int .i64 (floor1+xLagCut)]) tasksO (Int.toNat task*9+0) [.int .i64 state] ∧
 ((state==1)=true →
 (∃lane lane1,
 PureX [] Tryz.prog fn_impl_World_lane #[.pointer wv,.int .i64 cpu] (sto (sto (sto w tasksO (Int.toNat task*9+1) [.int .i64 group]) tasksO (Int.toNat task*9+2) [.int .i64 cpu]) tasksO (Int.toNat task*9+5) [.int .i64 (floor1+xLagCut)]) (.agg #[.pointer lane,.int .i64 lane1]) ∧
 (∀wr,ExtX [] (sto (sto (sto w tasksO (Int.toNat task*9+1) [.int .i64 group]) tasksO (Int.toNat task*9+2) [.int .i64 cpu]) tasksO (Int.toNat task*9+5) [.int .i64 (floor1+xLagCut)]) wr→(∀bq∈([]:List Nat),bq<wr.heap.size) →
 Calls Tryz.prog fn_impl_lane_endSlice #[.agg #[.pointer lane,.int .i64 lane1]] wr fun e wv1 =>
 e = .returned (.tuple #[])∧Kept [] wr wv1 ∧
 (∀wr1,ExtX [] wv1 wr1→R (.tuple #[]) wr1)))) ∧
 ((state==1)=false →
 (∀wr2,ExtX [] (sto (sto (sto w tasksO (Int.toNat task*9+1) [.int .i64 group]) tasksO (Int.toNat task*9+2) [.int .i64 cpu]) tasksO (Int.toNat task*9+5) [.int .i64 (floor1+xLagCut)]) wr2→R (.tuple #[]) wr2)))))))))
theorem e_impl_World_put (wv task group cpu):EfV (V_impl_World_put wv task group cpu) fn_impl_World_put #[.pointer wv,.int .i64 task,.int .i64 group,.int .i64 cpu]:=eV [] false [] Tryz.func66 (by kernel_rfl) (by kernel_rfl)
def V_impl_World_depth (wv:Option Addr) (g:Int) (w:World) (R:Value→World→Prop):Prop :=
 (∃(xInv:List Value→Prop) (mu:List Value→Nat),xInv [.int .i64 g,.int .i64 0] ∧
 ∀(g1 steps:Int),xInv [.int .i64 g1,.int .i64 steps] →
 ((g1 != 0)=true →
 InR .i64 (steps+1) ∧
 wv.isSome=true ∧
 (∃groupsO groupsL groupsC,
 CellsX [] w wv (0+3) [.slice groupsO groupsL groupsC] ∧
 Ix groupsO groupsL g1 ∧
 (∃parent,
 CellsX [] w groupsO (Int.toNat g1*14+1) [.int .i64 parent] ∧
 xInv [.int .i64 parent,.int .i64 (steps+1)]∧mu [.int .i64 parent,.int .i64 (steps+1)]<mu [.int .i64 g1,.int .i64 steps]))) ∧
 ((g1 != 0)=false →
 R (.int .i64 steps) w))
theorem p_impl_World_depth (wv g):PuV (V_impl_World_depth wv g) fn_impl_World_depth #[.pointer wv,.int .i64 g]:=pV [] false [(2,⟨[(1,.int .i64),(5,.int .i64)],[],[0],[],[]⟩)] Tryz.func184 (by kernel_rfl) (by kernel_rfl)
def V_impl_lane_switchGroups (p0:Option Addr) (p1:Int) (w:World) (R:Value→World→Prop):Prop :=
 (∀b,w.heap.size≤b →
 (∃(xInv:List Value→World→Prop) (mu:List Value→World→Nat),(∀wr,ExtX [] w wr→(∀bq∈([b]:List Nat),bq<wr.heap.size)→xInv [.int .i64 3] wr) ∧
 ∀(depth:Int) wv,(∀bq∈([b]:List Nat),bq<wv.heap.size)→xInv [.int .i64 depth] wv →
 ((decide (depth≥1))=true →
 p0.isSome=true ∧
 (∃groupsO groupsL groupsC,
 CellsX [b] wv p0 (0+3) [.slice groupsO groupsL groupsC] ∧
 (∃(xInv1:List Value→World→Prop) (mu1:List Value→World→Nat),(∀wr1,ExtX [b] wv wr1→(∀bq∈([b]:List Nat),bq<wr1.heap.size)→xInv1 [.int .i64 0] wr1) ∧
 ∀(x:Int) wv1,(∀bq∈([b]:List Nat),bq<wv1.heap.size)→xInv1 [.int .i64 x] wv1 →
 ((decide (x<(groupsL:Int)))=true →
 p0.isSome=true ∧
 (∃groups1O groups1L groups1C,
 CellsX [b] wv1 p0 (0+3) [.slice groups1O groups1L groups1C] ∧
 Ix groups1O groups1L x ∧
 (∃used,
 CellsX [b] wv1 groups1O (Int.toNat x*14+0) [.bool used] ∧
 (∃depth1,
 ((!used)=false→PureX [b] Tryz.prog fn_impl_World_depth #[.pointer p0,.int .i64 x] wv1 (.int .i64 depth1)) ∧
 (((!used)||(depth1 != depth))=true →
 InR .i64 (x+1) ∧
 (∀wr2,ExtX [b] wv1 wr2→(∀bq∈([b]:List Nat),bq<wr2.heap.size)→xInv1 [.int .i64 (x+1)] wr2∧mu1 [.int .i64 (x+1)] wr2<mu1 [.int .i64 x] wv1)) ∧
 (((!used)||(depth1 != depth))=false →
 (∃shelf,
 PureX [b] Tryz.prog fn_impl_lane_shelf #[.agg #[.pointer p0,.int .i64 p1],.int .i64 x] wv1 (.pointer shelf) ∧
 (∃active,
 PureX [b] Tryz.prog fn_impl_lane_active #[.agg #[.pointer p0,.int .i64 p1],.int .i64 x] wv1 (.bool active) ∧
 (∃dry,
 (active=true→PureX [b] Tryz.prog fn_impl_lane_dry #[.agg #[.pointer p0,.int .i64 p1],.int .i64 x] wv1 (.bool dry)) ∧
 ((active&&(!dry))=true→shelf.isSome=true) ∧
 (∃onv,
 ((active&&(!dry))=true→CellsX [b] wv1 shelf (0+1) [.bool onv]) ∧
 (((active&&(!dry))&&(!onv))=true →
 p0.isSome=true ∧
 (∃groups2O groups2L groups2C,
 CellsX [b] wv1 p0 (0+3) [.slice groups2O groups2L groups2C] ∧
 Ix groups2O groups2L x ∧
 (∃parent,
 CellsX [b] wv1 groups2O (Int.toNat x*14+1) [.int .i64 parent] ∧
 (∃shelf1,
 PureX [b] Tryz.prog fn_impl_lane_shelf #[.agg #[.pointer p0,.int .i64 p1],.int .i64 parent] wv1 (.pointer shelf1) ∧
 shelf1.isSome=true ∧
 (∃floor,
 CellsX [b] wv1 shelf1 (0+0) [.int .i64 floor] ∧
 shelf.isSome=true ∧
 (∃v,
 CellsX [b] wv1 shelf (0+2) [.int .i64 v] ∧
 InR .i64 (v - floor) ∧
 shelf.isSome=true ∧
 (∃wv2,
 CellsX [b] wv1 shelf (0+3) [.int .i64 wv2] ∧
 (∃xLagCut,
 PureX [b] Tryz.prog fn_impl_LagCut #[.int .i64 (v - floor),.int .i64 wv2] wv1 (.int .i64 xLagCut) ∧
 InR .i64 (floor+xLagCut) ∧
 shelf.isSome=true ∧
 WrX [b] wv1 shelf (0+2) 1 ∧
 shelf.isSome=true ∧
 WrX [b] (sto wv1 shelf (0+2) [.int .i64 (floor+xLagCut)]) shelf (0+1) 1 ∧
 InR .i64 (x+1) ∧
 (∀wr3,ExtX [b] (sto (sto wv1 shelf (0+2) [.int .i64 (floor+xLagCut)]) shelf (0+1) [.bool (active&&(!dry))]) wr3→(∀bq∈([b]:List Nat),bq<wr3.heap.size)→xInv1 [.int .i64 (x+1)] wr3∧mu1 [.int .i64 (x+1)] wr3<mu1 [.int .i64 x] wv1))))))))) ∧
 (((active&&(!dry))&&(!onv))=false →
 shelf.isSome=true ∧
 WrX [b] wv1 shelf (0+1) 1 ∧
 InR .i64 (x+1) ∧
 (∀wr4,ExtX [b] (sto wv1 shelf (0+1) [.bool (active&&(!dry))]) wr4→(∀bq∈([b]:List Nat),bq<wr4.heap.size)→xInv1 [.int .i64 (x+1)] wr4∧mu1 [.int .i64 (x+1)] wr4<mu1 [.int .i64 x] wv1))))))))))) ∧
 ((decide (x<(groupsL:Int)))=false →
 InR .i64 (depth - 1) ∧
 (∀wr5,ExtX [b] wv1 wr5→(∀bq∈([b]:List Nat),bq<wr5.heap.size)→xInv [.int .i64 (depth - 1)] wr5∧mu [.int .i64 (depth - 1)] wr5<mu [.int .i64 depth] wv))))) ∧
 ((decide (depth≥1))=false →
 (∀wr6,ExtX [b] wv wr6→R (.tuple #[]) wr6))))
theorem e_impl_lane_switchGroups (p0 p1):EfV (V_impl_lane_switchGroups p0 p1) fn_impl_lane_switchGroups #[.agg #[.pointer p0,.int .i64 p1]]:=eV [] false [(2,⟨[(2,.int .i64)],[],[1],[],[]⟩),(5,⟨[(17,.int .i64)],[],[1,2,16],[],[]⟩)] Tryz.func112 (by kernel_rfl) (by kernel_rfl)
def V_impl_Band_wet (b:Option Addr) (w:World) (R:Value→World→Prop):Prop :=
 b.isSome=true ∧
 (∃dryO dryL dryC,
 CellsX [] w b (0+4) [.slice dryO dryL dryC] ∧
 (∃(xInv:List Value→World→Prop) (mu:List Value→World→Nat),(∀wr,ExtX [] w wr→(∀bq∈([]:List Nat),bq<wr.heap.size)→xInv [.int .i64 0] wr) ∧
 ∀(x:Int) wv,(∀bq∈([]:List Nat),bq<wv.heap.size)→xInv [.int .i64 x] wv →
 ((decide (x<(dryL:Int)))=true →
 b.isSome=true ∧
 (∃dry1O dry1L dry1C,
 CellsX [] wv b (0+4) [.slice dry1O dry1L dry1C] ∧
 Ix dry1O dry1L x ∧
 WrX [] wv dry1O (Int.toNat x*1) 1 ∧
 InR .i64 (x+1) ∧
 (∀wr1,ExtX [] (sto wv dry1O (Int.toNat x*1) [.bool false]) wr1→(∀bq∈([]:List Nat),bq<wr1.heap.size)→xInv [.int .i64 (x+1)] wr1∧mu [.int .i64 (x+1)] wr1<mu [.int .i64 x] wv))) ∧
 ((decide (x<(dryL:Int)))=false →
 (∀wr2,ExtX [] wv wr2→R (.tuple #[]) wr2))))
theorem e_impl_Band_wet (b):EfV (V_impl_Band_wet b) fn_impl_Band_wet #[.pointer b]:=eV [] false [(1,⟨[(8,.int .i64)],[],[0,7],[],[]⟩)] Tryz.func228 (by kernel_rfl) (by kernel_rfl)
def V_impl_Band_refills (b:Option Addr) (w:World) (R:Value→World→Prop):Prop :=
 b.isSome=true ∧
 (∃quota,
 CellsX [] w b (0+0) [.int .i64 quota] ∧
 b.isSome=true ∧
 WrX [] w b (0+1) 1 ∧
 b.isSome=true ∧
 WrX [] (sto w b (0+1) [.int .i64 quota]) b (0+2) 1 ∧
 b.isSome=true ∧
 (∃localsO localsL localsC,
 CellsX [] (sto (sto w b (0+1) [.int .i64 quota]) b (0+2) [.int .i64 0]) b (0+3) [.slice localsO localsL localsC] ∧
 (∃(xInv:List Value→World→Prop) (mu:List Value→World→Nat),(∀wr,ExtX [] (sto (sto w b (0+1) [.int .i64 quota]) b (0+2) [.int .i64 0]) wr→(∀bq∈([]:List Nat),bq<wr.heap.size)→xInv [.int .i64 0] wr) ∧
 ∀(x:Int) wv,(∀bq∈([]:List Nat),bq<wv.heap.size)→xInv [.int .i64 x] wv →
 ((decide (x<(localsL:Int)))=true →
 b.isSome=true ∧
 (∃locals1O locals1L locals1C,
 CellsX [] wv b (0+3) [.slice locals1O locals1L locals1C] ∧
 Ix locals1O locals1L x ∧
 WrX [] wv locals1O (Int.toNat x*1) 1 ∧
 InR .i64 (x+1) ∧
 (∀wr1,ExtX [] (sto wv locals1O (Int.toNat x*1) [.int .i64 0]) wr1→(∀bq∈([]:List Nat),bq<wr1.heap.size)→xInv [.int .i64 (x+1)] wr1∧mu [.int .i64 (x+1)] wr1<mu [.int .i64 x] wv))) ∧
 ((decide (x<(localsL:Int)))=false →
 (∀wr2,ExtX [] wv wr2→(∀bq∈([]:List Nat),bq<wr2.heap.size) →
 Calls Tryz.prog fn_impl_Band_wet #[.pointer b] wr2 fun e wv1 =>
 e = .returned (.tuple #[])∧Kept [] wr2 wv1 ∧
 (∀wr3,ExtX [] wv1 wr3→R (.int .i64 0) wr3))))))
theorem e_impl_Band_refills (b):EfV (V_impl_Band_refills b) fn_impl_Band_refills #[.pointer b]:=eV [] false [(3,⟨[(19,.int .i64)],[],[0,18],[],[]⟩)] Tryz.func188 (by kernel_rfl) (by kernel_rfl)
def V_impl_Band_takes (b:Option Addr) (cpu:Int) (w:World) (R:Value→World→Prop):Prop :=
 b.isSome=true ∧
 (∃localsO localsL localsC,
 CellsX [] w b (0+3) [.slice localsO localsL localsC] ∧
 Ix localsO localsL cpu ∧
 (∃x,
 CellsX [] w localsO (Int.toNat cpu*1) [.int .i64 x] ∧
 ((decide (x>0))=true →
 (∀wr,ExtX [] w wr→R (.int .i64 0) wr)) ∧
 ((decide (x>0))=false →
 b.isSome=true ∧
 (∃pool,
 CellsX [] w b (0+1) [.int .i64 pool] ∧
 (((if pool<20 then pool else 20)==0)=true →
 b.isSome=true ∧
 (∃dryO dryL dryC,
 CellsX [] w b (0+4) [.slice dryO dryL dryC] ∧
 Ix dryO dryL cpu ∧
 WrX [] w dryO (Int.toNat cpu*1) 1 ∧
 (∀wr1,ExtX [] (sto w dryO (Int.toNat cpu*1) [.bool true]) wr1→R (.int .i64 2) wr1))) ∧
 (((if pool<20 then pool else 20)==0)=false →
 b.isSome=true ∧
 (∃pool1,
 CellsX [] w b (0+1) [.int .i64 pool1] ∧
 InR .i64 (pool1 - (if pool<20 then pool else 20)) ∧
 b.isSome=true ∧
 WrX [] w b (0+1) 1 ∧
 b.isSome=true ∧
 (∃locals1O locals1L locals1C,
 CellsX [] (sto w b (0+1) [.int .i64 (pool1 - (if pool<20 then pool else 20))]) b (0+3) [.slice locals1O locals1L locals1C] ∧
 Ix locals1O locals1L cpu ∧
 WrX [] (sto w b (0+1) [.int .i64 (pool1 - (if pool<20 then pool else 20))]) locals1O (Int.toNat cpu*1) 1 ∧
 (∀wr2,ExtX [] (sto (sto w b (0+1) [.int .i64 (pool1 - (if pool<20 then pool else 20))]) locals1O (Int.toNat cpu*1) [.int .i64 (if pool<20 then pool else 20)]) wr2→R (.int .i64 0) wr2))))))))
theorem e_impl_Band_takes (b cpu):EfV (V_impl_Band_takes b cpu) fn_impl_Band_takes #[.pointer b,.int .i64 cpu]:=eV [] false [] Tryz.func189 (by kernel_rfl) (by kernel_rfl)
def V_impl_Band_spends (b:Option Addr) (cpu n:Int) (w:World) (R:Value→World→Prop):Prop :=
 ((decide (n<1))=false→b.isSome=true) ∧
 (∃localsO localsL localsC,
 ((decide (n<1))=false→CellsX [] w b (0+3) [.slice localsO localsL localsC]) ∧
 ((decide (n<1))=false→Ix localsO localsL cpu) ∧
 (∃x,
 ((decide (n<1))=false→CellsX [] w localsO (Int.toNat cpu*1) [.int .i64 x]) ∧
 (((decide (n<1))||(decide (n>x)))=true →
 (∀wr,ExtX [] w wr→R (.int .i64 3) wr)) ∧
 (((decide (n<1))||(decide (n>x)))=false →
 b.isSome=true ∧
 (∃locals1O locals1L locals1C,
 CellsX [] w b (0+3) [.slice locals1O locals1L locals1C] ∧
 Ix locals1O locals1L cpu ∧
 (∃x1,
 CellsX [] w locals1O (Int.toNat cpu*1) [.int .i64 x1] ∧
 InR .i64 (x1 - n) ∧
 Ix locals1O locals1L cpu ∧
 WrX [] w locals1O (Int.toNat cpu*1) 1 ∧
 b.isSome=true ∧
 (∃spent,
 CellsX [] (sto w locals1O (Int.toNat cpu*1) [.int .i64 (x1 - n)]) b (0+2) [.int .i64 spent] ∧
 InR .i64 (spent+n) ∧
 b.isSome=true ∧
 WrX [] (sto w locals1O (Int.toNat cpu*1) [.int .i64 (x1 - n)]) b (0+2) 1 ∧
 (∀wr1,ExtX [] (sto (sto w locals1O (Int.toNat cpu*1) [.int .i64 (x1 - n)]) b (0+2) [.int .i64 (spent+n)]) wr1→R (.int .i64 0) wr1)))))))
theorem e_impl_Band_spends (b cpu n):EfV (V_impl_Band_spends b cpu n) fn_impl_Band_spends #[.pointer b,.int .i64 cpu,.int .i64 n]:=eV [] false [] Tryz.func190 (by kernel_rfl) (by kernel_rfl)
def V_impl_Band_returns (b:Option Addr) (cpu:Int) (w:World) (R:Value→World→Prop):Prop :=
 b.isSome=true ∧
 (∃pool,
 CellsX [] w b (0+1) [.int .i64 pool] ∧
 b.isSome=true ∧
 (∃localsO localsL localsC,
 CellsX [] w b (0+3) [.slice localsO localsL localsC] ∧
 Ix localsO localsL cpu ∧
 (∃x,
 CellsX [] w localsO (Int.toNat cpu*1) [.int .i64 x] ∧
 InR .i64 (pool+x) ∧
 b.isSome=true ∧
 WrX [] w b (0+1) 1 ∧
 b.isSome=true ∧
 (∃locals1O locals1L locals1C,
 CellsX [] (sto w b (0+1) [.int .i64 (pool+x)]) b (0+3) [.slice locals1O locals1L locals1C] ∧
 Ix locals1O locals1L cpu ∧
 WrX [] (sto w b (0+1) [.int .i64 (pool+x)]) locals1O (Int.toNat cpu*1) 1 ∧
 b.isSome=true ∧
 (∃pool1,
 CellsX [] (sto (sto w b (0+1) [.int .i64 (pool+x)]) locals1O (Int.toNat cpu*1) [.int .i64 0]) b (0+1) [.int .i64 pool1] ∧
 ((decide (pool1>0))=true →
 (∀wr,ExtX [] (sto (sto w b (0+1) [.int .i64 (pool+x)]) locals1O (Int.toNat cpu*1) [.int .i64 0]) wr→(∀bq∈([]:List Nat),bq<wr.heap.size) →
 Calls Tryz.prog fn_impl_Band_wet #[.pointer b] wr fun e wv =>
 e = .returned (.tuple #[])∧Kept [] wr wv ∧
 (∀wr1,ExtX [] wv wr1→R (.int .i64 0) wr1))) ∧
 ((decide (pool1>0))=false →
 (∀wr2,ExtX [] (sto (sto w b (0+1) [.int .i64 (pool+x)]) locals1O (Int.toNat cpu*1) [.int .i64 0]) wr2→R (.int .i64 0) wr2)))))))
theorem e_impl_Band_returns (b cpu):EfV (V_impl_Band_returns b cpu) fn_impl_Band_returns #[.pointer b,.int .i64 cpu]:=eV [] false [] Tryz.func191 (by kernel_rfl) (by kernel_rfl)
def V_impl_Band_do (b:Option Addr) (op0 op1 op2:Int) (w:World) (R:Value→World→Prop):Prop :=
 (∀b1,w.heap.size≤b1 →
 ((op0==4)=true →
 (∀wr,ExtX [] w wr→(∀bq∈([b1]:List Nat),bq<wr.heap.size) →
 Calls Tryz.prog fn_impl_Band_refills #[.pointer b] wr fun e wv =>
 (∃refill,
 e = .returned (.int .i64 refill)∧Kept [b1] wr wv ∧
 (∀wr1,ExtX [b1] wv wr1→R (.int .i64 refill) wr1)))) ∧
 ((op0==4)=false →
 b.isSome=true ∧
 (∃localsO localsL localsC,
 CellsX [] w b (0+3) [.slice localsO localsL localsC] ∧
 InR .i64 ((localsL:Int) - 1) ∧
 (∃inRang,
 PureX [] Tryz.prog fn_impl_inRange #[.int .i64 op1,.int .i64 0,.int .i64 ((localsL:Int) - 1)] w (.bool inRang) ∧
 ((!inRang)=true →
 (∀wr2,ExtX [] w wr2→R (.int .i64 1) wr2)) ∧
 ((!inRang)=false →
 ((op0==1)=true →
 (∀wr3,ExtX [] w wr3→(∀bq∈([b1]:List Nat),bq<wr3.heap.size) →
 Calls Tryz.prog fn_impl_Band_takes #[.pointer b,.int .i64 op1] wr3 fun e1 wv1 =>
 (∃takes,
 e1 = .returned (.int .i64 takes)∧Kept [b1] wr3 wv1 ∧
 (∀wr4,ExtX [b1] wv1 wr4→R (.int .i64 takes) wr4)))) ∧
 ((op0==1)=false →
 ((op0==2)=true →
 (∀wr5,ExtX [] w wr5→(∀bq∈([b1]:List Nat),bq<wr5.heap.size) →
 Calls Tryz.prog fn_impl_Band_spends #[.pointer b,.int .i64 op1,.int .i64 op2] wr5 fun e2 wv2 =>
 (∃spends,
 e2 = .returned (.int .i64 spends)∧Kept [b1] wr5 wv2 ∧
 (∀wr6,ExtX [b1] wv2 wr6→R (.int .i64 spends) wr6)))) ∧
 ((op0==2)=false →
 ((op0==3)=true →
 (∀wr7,ExtX [] w wr7→(∀bq∈([b1]:List Nat),bq<wr7.heap.size) →
 Calls Tryz.prog fn_impl_Band_returns #[.pointer b,.int .i64 op1] wr7 fun e3 wv3 =>
 (∃returnv,
 e3 = .returned (.int .i64 returnv)∧Kept [b1] wr7 wv3 ∧
 (∀wr8,ExtX [b1] wv3 wr8→R (.int .i64 returnv) wr8)))) ∧
 ((op0==3)=false →
 (∀wr9,ExtX [] w wr9→R (.int .i64 1) wr9)))))))))
theorem e_impl_Band_do (b op0 op1 op2):EfV (V_impl_Band_do b op0 op1 op2) fn_impl_Band_do #[.pointer b,.agg #[.int .i64 op0,.int .i64 op1,.int .i64 op2]]:=eV [] false [] Tryz.func114 (by kernel_rfl) (by kernel_rfl)
def V_impl_lane_rise (p0:Option Addr) (p1:Int) (w:World) (R:Value→World→Prop):Prop :=
 (∀b,w.heap.size≤b →
 p0.isSome=true ∧
 (∃groupsO groupsL groupsC,
 CellsX [] w p0 (0+3) [.slice groupsO groupsL groupsC] ∧
 (∃(xInv:List Value→World→Prop) (mu:List Value→World→Nat),(∀wr,ExtX [] w wr→(∀bq∈([b]:List Nat),bq<wr.heap.size)→xInv [.int .i64 0] wr) ∧
 ∀(x:Int) wv,(∀bq∈([b]:List Nat),bq<wv.heap.size)→xInv [.int .i64 x] wv →
 ((decide (x<(groupsL:Int)))=true →
 p0.isSome=true ∧
 (∃groups1O groups1L groups1C,
 CellsX [b] wv p0 (0+3) [.slice groups1O groups1L groups1C] ∧
 Ix groups1O groups1L x ∧
 (∃used,
 CellsX [b] wv groups1O (Int.toNat x*14+0) [.bool used] ∧
 ((!used)=true →
 InR .i64 (x+1) ∧
 (∀wr1,ExtX [b] wv wr1→(∀bq∈([b]:List Nat),bq<wr1.heap.size)→xInv [.int .i64 (x+1)] wr1∧mu [.int .i64 (x+1)] wr1<mu [.int .i64 x] wv)) ∧
 ((!used)=false →
 p0.isSome=true ∧
 (∃tasksO tasksL tasksC,
 CellsX [b] wv p0 (0+2) [.slice tasksO tasksL tasksC] ∧
 (∃(xInv1:List Value→World→Prop) (mu1:List Value→World→Nat),(∀wr2,ExtX [b] wv wr2→(∀bq∈([b]:List Nat),bq<wr2.heap.size)→xInv1 [.int .i64 100000000000000001,.int .i64 0] wr2) ∧
 ∀(least x1:Int) wv1,(∀bq∈([b]:List Nat),bq<wv1.heap.size)→xInv1 [.int .i64 least,.int .i64 x1] wv1 →
 ((decide (x1<(tasksL:Int)))=true →
 Ix tasksO tasksL x1 ∧
 (∃x0 x11 x2 x3 x4 x5 x6 x7 x8,
 CellsX [b] wv1 tasksO (Int.toNat x1*9) [.int .i64 x0,.int .i64 x11,.int .i64 x2,.int .i64 x3,.int .i64 x4,.int .i64 x5,.int .i64 x6,.int .i64 x7,.int .i64 x8] ∧
 (∀b1,wv1.heap.size≤b1 →
 (∃queues,
 PureX [b] Tryz.prog fn_impl_lane_queues #[.agg #[.pointer p0,.int .i64 p1],.int .i64 x1,.int .i64 x] wv1 (.bool queues) ∧
 (queues=true →
 InR .i64 (x1+1) ∧
 (∀wr3,ExtX [b] wv1 wr3→(∀bq∈([b,b1]:List Nat),bq<wr3.heap.size)→xInv1 [.int .i64 (if x5<least then x5 else least),.int .i64 (x1+1)] wr3∧mu1 [.int .i64 (if x5<least then x5 else least),.int .i64 (x1+1)] wr3<mu1 [.int .i64 least,.int .i64 x1] wv1)) ∧
 (queues=false →
 InR .i64 (x1+1) ∧
 (∀wr4,ExtX [b] wv1 wr4→(∀bq∈([b,b1]:List Nat),bq<wr4.heap.size)→xInv1 [.int .i64 least,.int .i64 (x1+1)] wr4∧mu1 [.int .i64 least,.int .i64 (x1+1)] wr4<mu1 [.int .i64 least,.int .i64 x1] wv1)))))) ∧
 ((decide (x1<(tasksL:Int)))=false →
 p0.isSome=true ∧
 (∃groups2O groups2L groups2C,
 CellsX [b] wv1 p0 (0+3) [.slice groups2O groups2L groups2C] ∧
 (∃(xInv2:List Value→World→Prop) (mu2:List Value→World→Nat),(∀wr5,ExtX [b] wv1 wr5→(∀bq∈([b]:List Nat),bq<wr5.heap.size)→xInv2 [.int .i64 least,.int .i64 0] wr5) ∧
 ∀(least1 x9:Int) wv2,(∀bq∈([b]:List Nat),bq<wv2.heap.size)→xInv2 [.int .i64 least1,.int .i64 x9] wv2 →
 ((decide (x9<(groups2L:Int)))=true →
 (∃holds,
 PureX [b] Tryz.prog fn_impl_lane_holds #[.agg #[.pointer p0,.int .i64 p1],.int .i64 x9,.int .i64 x] wv2 (.bool holds) ∧
 (holds=true →
 (∃shelf,
 PureX [b] Tryz.prog fn_impl_lane_shelf #[.agg #[.pointer p0,.int .i64 p1],.int .i64 x9] wv2 (.pointer shelf) ∧
 shelf.isSome=true ∧
 (∃v,
 CellsX [b] wv2 shelf (0+2) [.int .i64 v] ∧
 InR .i64 (x9+1) ∧
 (∀wr6,ExtX [b] wv2 wr6→(∀bq∈([b]:List Nat),bq<wr6.heap.size)→xInv2 [.int .i64 (if v<least1 then v else least1),.int .i64 (x9+1)] wr6∧mu2 [.int .i64 (if v<least1 then v else least1),.int .i64 (x9+1)] wr6<mu2 [.int .i64 least1,.int .i64 x9] wv2)))) ∧
 (holds=false →
 InR .i64 (x9+1) ∧
 (∀wr7,ExtX [b] wv2 wr7→(∀bq∈([b]:List Nat),bq<wr7.heap.size)→xInv2 [.int .i64 least1,.int .i64 (x9+1)] wr7∧mu2 [.int .i64 least1,.int .i64 (x9+1)] wr7<mu2 [.int .i64 least1,.int .i64 x9] wv2)))) ∧
 ((decide (x9<(groups2L:Int)))=false →
 ((decide (least1≤100000000000000000))=true →
 (∃shelf1,
 PureX [b] Tryz.prog fn_impl_lane_shelf #[.agg #[.pointer p0,.int .i64 p1],.int .i64 x] wv2 (.pointer shelf1) ∧
 (∃shelf2,
 PureX [b] Tryz.prog fn_impl_lane_shelf #[.agg #[.pointer p0,.int .i64 p1],.int .i64 x] wv2 (.pointer shelf2) ∧
 shelf2.isSome=true ∧
 (∃floor,
 CellsX [b] wv2 shelf2 (0+0) [.int .i64 floor] ∧
 shelf1.isSome=true ∧
 WrX [b] wv2 shelf1 (0+0) 1 ∧
 InR .i64 (x+1) ∧
 (∀wr8,ExtX [b] (sto wv2 shelf1 (0+0) [.int .i64 (if least1>floor then least1 else floor)]) wr8→(∀bq∈([b]:List Nat),bq<wr8.heap.size)→xInv [.int .i64 (x+1)] wr8∧mu [.int .i64 (x+1)] wr8<mu [.int .i64 x] wv))))) ∧
 ((decide (least1≤100000000000000000))=false →
 InR .i64 (x+1) ∧
 (∀wr9,ExtX [b] wv2 wr9→(∀bq∈([b]:List Nat),bq<wr9.heap.size)→xInv [.int .i64 (x+1)] wr9∧mu [.int .i64 (x+1)] wr9<mu [.int .i64 x] wv)))))))))))) ∧
 ((decide (x<(groupsL:Int)))=false →
 (∀wr10,ExtX [b] wv wr10→R (.tuple #[]) wr10)))))
theorem e_impl_lane_rise (p0 p1):EfV (V_impl_lane_rise p0 p1) fn_impl_lane_rise #[.agg #[.pointer p0,.int .i64 p1]]:=eV [] false [(2,⟨[(13,.int .i64)],[],[1,12],[],[]⟩),(7,⟨[(3,.int .i64),(32,.int .i64)],[],[1,2,12,13,30,31],[],[]⟩),(13,⟨[(3,.int .i64),(52,.int .i64)],[],[1,2,12,13,51],[],[]⟩)] Tryz.func115 (by kernel_rfl) (by kernel_rfl)
def V_impl_World_settle (wv:Option Addr) (w:World) (R:Value→World→Prop):Prop :=
 wv.isSome=true ∧
 (∃cpusO cpusL cpusC,
 CellsX [] w wv (0+1) [.slice cpusO cpusL cpusC] ∧
 (∃(xInv:List Value→World→Prop) (mu:List Value→World→Nat),(∀wr,ExtX [] w wr→(∀bq∈([]:List Nat),bq<wr.heap.size)→xInv [.int .i64 0] wr) ∧
 ∀(x:Int) wv1,(∀bq∈([]:List Nat),bq<wv1.heap.size)→xInv [.int .i64 x] wv1 →
 ((decide (x<(cpusL:Int)))=true →
 (∃lane lane1,
 PureX [] Tryz.prog fn_impl_World_lane #[.pointer wv,.int .i64 x] wv1 (.agg #[.pointer lane,.int .i64 lane1]) ∧
 (∀wr1,ExtX [] wv1 wr1→(∀bq∈([]:List Nat),bq<wr1.heap.size) →
 Calls Tryz.prog fn_impl_lane_switchGroups #[.agg #[.pointer lane,.int .i64 lane1]] wr1 fun e wv2 =>
 e = .returned (.tuple #[])∧Kept [] wr1 wv2 ∧
 InR .i64 (x+1) ∧
 (∀wr2,ExtX [] wv2 wr2→(∀bq∈([]:List Nat),bq<wr2.heap.size)→xInv [.int .i64 (x+1)] wr2∧mu [.int .i64 (x+1)] wr2<mu [.int .i64 x] wv1)))) ∧
 ((decide (x<(cpusL:Int)))=false →
 wv.isSome=true ∧
 (∃groupsO groupsL groupsC,
 CellsX [] wv1 wv (0+3) [.slice groupsO groupsL groupsC] ∧
 (∃(xInv1:List Value→World→Prop) (mu1:List Value→World→Nat),(∀wr3,ExtX [] wv1 wr3→(∀bq∈([]:List Nat),bq<wr3.heap.size)→xInv1 [.int .i64 0] wr3) ∧
 ∀(x1:Int) wv3,(∀bq∈([]:List Nat),bq<wv3.heap.size)→xInv1 [.int .i64 x1] wv3 →
 ((decide (x1<(groupsL:Int)))=true →
 wv.isSome=true ∧
 (∃groups1O groups1L groups1C,
 CellsX [] wv3 wv (0+3) [.slice groups1O groups1L groups1C] ∧
 Ix groups1O groups1L x1 ∧
 (∃localsO localsL localsC,
 CellsX [] wv3 groups1O (Int.toNat x1*14+8+3) [.slice localsO localsL localsC] ∧
 (∃(xInv2:List Value→World→Prop) (mu2:List Value→World→Nat),(∀wr4,ExtX [] wv3 wr4→(∀bq∈([]:List Nat),bq<wr4.heap.size)→xInv2 [.int .i64 0] wr4) ∧
 ∀(x2:Int) wv4,(∀bq∈([]:List Nat),bq<wv4.heap.size)→xInv2 [.int .i64 x2] wv4 →
 ((decide (x2<(localsL:Int)))=true →
 Ix localsO localsL x2 ∧
 (∃x3,
 CellsX [] wv4 localsO (Int.toNat x2*1) [.int .i64 x3] ∧
 (∃lane2 lane3,
 ((decide (x3>0))=true→PureX [] Tryz.prog fn_impl_World_lane #[.pointer wv,.int .i64 x2] wv4 (.agg #[.pointer lane2,.int .i64 lane3])) ∧
 (∃active,
 ((decide (x3>0))=true→PureX [] Tryz.prog fn_impl_lane_active #[.agg #[.pointer lane2,.int .i64 lane3],.int .i64 x1] wv4 (.bool active)) ∧
 (((decide (x3>0))&&(!active))=true →
 (∀wr5,ExtX [] wv4 wr5→(∀bq∈([]:List Nat),bq<wr5.heap.size) →
 Calls Tryz.prog fn_impl_Band_do #[.pointer (groups1O.map (·.add (Int.toNat x1*14+8))),.agg #[.int .i64 3,.int .i64 x2,.int .i64 0]] wr5 fun e1 wv5 =>
 (∃dov,
 e1 = .returned (.int .i64 dov)∧Kept [] wr5 wv5 ∧
 InR .i64 (x2+1) ∧
 (∀wr6,ExtX [] wv5 wr6→(∀bq∈([]:List Nat),bq<wr6.heap.size)→xInv2 [.int .i64 (x2+1)] wr6∧mu2 [.int .i64 (x2+1)] wr6<mu2 [.int .i64 x2] wv4)))) ∧
 (((decide (x3>0))&&(!active))=false →
 InR .i64 (x2+1) ∧
 (∀wr7,ExtX [] wv4 wr7→(∀bq∈([]:List Nat),bq<wr7.heap.size)→xInv2 [.int .i64 (x2+1)] wr7∧mu2 [.int .i64 (x2+1)] wr7<mu2 [.int .i64 x2] wv4)))))) ∧
 ((decide (x2<(localsL:Int)))=false →
 InR .i64 (x1+1) ∧
 (∀wr8,ExtX [] wv4 wr8→(∀bq∈([]:List Nat),bq<wr8.heap.size)→xInv1 [.int .i64 (x1+1)] wr8∧mu1 [.int .i64 (x1+1)] wr8<mu1 [.int .i64 x1] wv3)))))) ∧
 ((decide (x1<(groupsL:Int)))=false →
 wv.isSome=true ∧
 (∃cpus1O cpus1L cpus1C,
 CellsX [] wv3 wv (0+1) [.slice cpus1O cpus1L cpus1C] ∧
 (∃(xInv3:List Value→World→Prop) (mu3:List Value→World→Nat),(∀wr9,ExtX [] wv3 wr9→(∀bq∈([]:List Nat),bq<wr9.heap.size)→xInv3 [.int .i64 0] wr9) ∧
 ∀(x4:Int) wv6,(∀bq∈([]:List Nat),bq<wv6.heap.size)→xInv3 [.int .i64 x4] wv6 →
 ((decide (x4<(cpus1L:Int)))=true →
 (∃lane4 lane5,
 PureX [] Tryz.prog fn_impl_World_lane #[.pointer wv,.int .i64 x4] wv6 (.agg #[.pointer lane4,.int .i64 lane5]) ∧
 (∀b,wv6.heap.size≤b →
 (∀wr10,ExtX [] wv6 wr10→(∀bq∈([b]:List Nat),bq<wr10.heap.size) →
 Calls Tryz.prog fn_impl_lane_switchGroups #[.agg #[.pointer lane4,.int .i64 lane5]] wr10 fun e2 wv7 =>
 e2 = .returned (.tuple #[])∧Kept [b] wr10 wv7 ∧
 (∀wr11,ExtX [b] wv7 wr11→(∀bq∈([b]:List Nat),bq<wr11.heap.size) →
 Calls Tryz.prog fn_impl_lane_rise #[.agg #[.pointer lane4,.int .i64 lane5]] wr11 fun e3 wv8 =>
 e3 = .returned (.tuple #[])∧Kept [b] wr11 wv8 ∧
 (∃cpu,
 PureX [b] Tryz.prog fn_impl_lane_cpu #[.agg #[.pointer lane4,.int .i64 lane5]] wv8 (.pointer cpu) ∧
 cpu.isSome=true ∧
 (∃cur,
 CellsX [b] wv8 cpu (0+1) [.int .i64 cur] ∧
 (∃cpu1,
 ((cur != (-1))=true→PureX [b] Tryz.prog fn_impl_lane_cpu #[.agg #[.pointer lane4,.int .i64 lane5]] wv8 (.pointer cpu1)) ∧
 ((cur != (-1))=true→cpu1.isSome=true) ∧
 (∃cur1,
 ((cur != (-1))=true→CellsX [b] wv8 cpu1 (0+1) [.int .i64 cur1]) ∧
 (∃inLine,
 ((cur != (-1))=true→PureX [b] Tryz.prog fn_impl_lane_inLine #[.agg #[.pointer lane4,.int .i64 lane5],.int .i64 cur1] wv8 (.bool inLine)) ∧
 (((cur != (-1))&&(!inLine))=true →
 (∀wr12,ExtX [b] wv8 wr12→(∀bq∈([b]:List Nat),bq<wr12.heap.size) →
 Calls Tryz.prog fn_impl_lane_endSlice #[.agg #[.pointer lane4,.int .i64 lane5]] wr12 fun e4 wv9 =>
 e4 = .returned (.tuple #[])∧Kept [b] wr12 wv9 ∧
 InR .i64 (x4+1) ∧
 (∀wr13,ExtX [b] wv9 wr13→(∀bq∈([b]:List Nat),bq<wr13.heap.size)→xInv3 [.int .i64 (x4+1)] wr13∧mu3 [.int .i64 (x4+1)] wr13<mu3 [.int .i64 x4] wv6))) ∧
 (((cur != (-1))&&(!inLine))=false →
 InR .i64 (x4+1) ∧
 (∀wr14,ExtX [b] wv8 wr14→(∀bq∈([b]:List Nat),bq<wr14.heap.size)→xInv3 [.int .i64 (x4+1)] wr14∧mu3 [.int .i64 (x4+1)] wr14<mu3 [.int .i64 x4] wv6)))))))))))) ∧
 ((decide (x4<(cpus1L:Int)))=false →
 (∀wr15,ExtX [] wv6 wr15→R (.tuple #[]) wr15))))))))))
theorem e_impl_World_settle (wv):EfV (V_impl_World_settle wv) fn_impl_World_settle #[.pointer wv]:=eV [] false [(1,⟨[(14,.int .i64)],[],[0,13],[],[]⟩),(6,⟨[(27,.int .i64)],[],[0,26],[],[]⟩),(10,⟨[(42,.int .i64)],[],[0,3,4,26,27,40,41],[],[]⟩),(17,⟨[(68,.int .i64)],[],[0,67],[],[]⟩)] Tryz.func44 (by kernel_rfl) (by kernel_rfl)
def V_laws_eqCpu (a0:Bool) (a1 a2 a3 a4:Int) (b0:Bool) (b1 b2 b3 b4:Int) (w:World) (R:Value→World→Prop):Prop :=
 (∀b,w.heap.size≤b →
 (∀b5,w.heap.size≤b5 →
 ((!(a0==b0))=true →
 R (.bool false) w) ∧
 ((!(a0==b0))=false →
 ((a1 != b1)=true →
 R (.bool false) w) ∧
 ((a1 != b1)=false →
 ((a2 != b2)=true →
 R (.bool false) w) ∧
 ((a2 != b2)=false →
 ((a3 != b3)=true →
 R (.bool false) w) ∧
 ((a3 != b3)=false →
 ((a4 != b4)=true →
 R (.bool false) w) ∧
 ((a4 != b4)=false →
 R (.bool true) w)))))))
theorem p_laws_eqCpu (a0 a1 a2 a3 a4 b0 b1 b2 b3 b4):PuV (V_laws_eqCpu a0 a1 a2 a3 a4 b0 b1 b2 b3 b4) fn_laws_eqCpu #[.agg #[.bool a0,.int .i64 a1,.int .i64 a2,.int .i64 a3,.int .i64 a4],.agg #[.bool b0,.int .i64 b1,.int .i64 b2,.int .i64 b3,.int .i64 b4]]:=pV [] false [] Tryz.func117 (by kernel_rfl) (by kernel_rfl)
def V_laws_eqCpuS (aO:Option Addr) (aL aC:Nat) (bO:Option Addr) (bL bC:Nat) (w:World) (R:Value→World→Prop):Prop :=
 (((aL:Int) != (bL:Int))=true →
 R (.bool false) w) ∧
 (((aL:Int) != (bL:Int))=false →
 (∃(xInv:List Value→Prop) (mu:List Value→Nat),xInv [.int .i64 0] ∧
 ∀(i:Int),xInv [.int .i64 i] →
 ((decide (i<(aL:Int)))=true →
 Ix aO aL i ∧
 (∃x0 x1 x2 x3 x4,
 CellsX [] w aO (Int.toNat i*5) [.bool x0,.int .i64 x1,.int .i64 x2,.int .i64 x3,.int .i64 x4] ∧
 Ix bO bL i ∧
 (∃x01 x11 x21 x31 x41,
 CellsX [] w bO (Int.toNat i*5) [.bool x01,.int .i64 x11,.int .i64 x21,.int .i64 x31,.int .i64 x41] ∧
 (∃eqCpu,
 PureX [] Tryz.prog fn_laws_eqCpu #[.agg #[.bool x0,.int .i64 x1,.int .i64 x2,.int .i64 x3,.int .i64 x4],.agg #[.bool x01,.int .i64 x11,.int .i64 x21,.int .i64 x31,.int .i64 x41]] w (.bool eqCpu) ∧
 ((!eqCpu)=true →
 R (.bool false) w) ∧
 ((!eqCpu)=false →
 InR .i64 (i+1) ∧
 xInv [.int .i64 (i+1)]∧mu [.int .i64 (i+1)]<mu [.int .i64 i]))))) ∧
 ((decide (i<(aL:Int)))=false →
 R (.bool true) w)))
theorem p_laws_eqCpuS (aO aL aC bO bL bC):PuV (V_laws_eqCpuS aO aL aC bO bL bC) fn_laws_eqCpuS #[.slice aO aL aC,.slice bO bL bC]:=pV [] false [(4,⟨[(5,.int .i64)],[],[0,1],[],[]⟩)] Tryz.func45 (by kernel_rfl) (by kernel_rfl)
def V_laws_eqTask (a0 a1 a2 a3 a4 a5 a6 a7 a8 b0 b1 b2 b3 b4 b5 b6 b7 b8:Int) (w:World) (R:Value→World→Prop):Prop :=
 (∀b,w.heap.size≤b →
 (∀b9,w.heap.size≤b9 →
 ((a0 != b0)=true →
 R (.bool false) w) ∧
 ((a0 != b0)=false →
 ((a1 != b1)=true →
 R (.bool false) w) ∧
 ((a1 != b1)=false →
 ((a2 != b2)=true →
 R (.bool false) w) ∧
 ((a2 != b2)=false →
 ((a3 != b3)=true →
 R (.bool false) w) ∧
 ((a3 != b3)=false →
 ((a4 != b4)=true →
 R (.bool false) w) ∧
 ((a4 != b4)=false →
 ((a5 != b5)=true →
 R (.bool false) w) ∧
 ((a5 != b5)=false →
 ((a6 != b6)=true →
 R (.bool false) w) ∧
 ((a6 != b6)=false →
 ((a7 != b7)=true →
 R (.bool false) w) ∧
 ((a7 != b7)=false →
 ((a8 != b8)=true →
 R (.bool false) w) ∧
 ((a8 != b8)=false →
 R (.bool true) w)))))))))))
theorem p_laws_eqTask (a0 a1 a2 a3 a4 a5 a6 a7 a8 b0 b1 b2 b3 b4 b5 b6 b7 b8):PuV (V_laws_eqTask a0 a1 a2 a3 a4 a5 a6 a7 a8 b0 b1 b2 b3 b4 b5 b6 b7 b8) fn_laws_eqTask #[.agg #[.int .i64 a0,.int .i64 a1,.int .i64 a2,.int .i64 a3,.int .i64 a4,.int .i64 a5,.int .i64 a6,.int .i64 a7,.int .i64 a8],.agg #[.int .i64 b0,.int .i64 b1,.int .i64 b2,.int .i64 b3,.int .i64 b4,.int .i64 b5,.int .i64 b6,.int .i64 b7,.int .i64 b8]]:=pV [] false [] Tryz.func118 (by kernel_rfl) (by kernel_rfl)
end Go.Proofs.YtajdcjidpolloaaGreatDoor
namespace Go.Proofs.YtajdcjidpolloaaGreatDoor
open Go.RowKit
set_option linter.unusedVariables false
set_option maxRecDepth 100000
set_option maxHeartbeats 1600000
def V_laws_eqTaskS (aO:Option Addr) (aL aC:Nat) (bO:Option Addr) (bL bC:Nat) (w:World) (R:Value→World→Prop):Prop :=
 (((aL:Int) != (bL:Int))=true →
 R (.bool false) w) ∧
 (((aL:Int) != (bL:Int))=false →
 (∃(xInv:List Value→Prop) (mu:List Value→Nat),xInv [.int .i64 0] ∧
 ∀(i:Int),xInv [.int .i64 i] →
 ((decide (i<(aL:Int)))=true →
 Ix aO aL i ∧
 (∃x0 x1 x2 x3 x4 x5 x6 x7 x8,
 CellsX [] w aO (Int.toNat i*9) [.int .i64 x0,.int .i64 x1,.int .i64 x2,.int .i64 x3,.int .i64 x4,.int .i64 x5,.int .i64 x6,.int .i64 x7,.int .i64 x8] ∧
 Ix bO bL i ∧
 (∃x01 x11 x21 x31 x41 x51 x61 x71 x81,
 CellsX [] w bO (Int.toNat i*9) [.int .i64 x01,.int .i64 x11,.int .i64 x21,.int .i64 x31,.int .i64 x41,.int .i64 x51,.int .i64 x61,.int .i64 x71,.int .i64 x81] ∧
 (∃eqTask,
 PureX [] Tryz.prog fn_laws_eqTask #[.agg #[.int .i64 x0,.int .i64 x1,.int .i64 x2,.int .i64 x3,.int .i64 x4,.int .i64 x5,.int .i64 x6,.int .i64 x7,.int .i64 x8],.agg #[.int .i64 x01,.int .i64 x11,.int .i64 x21,.int .i64 x31,.int .i64 x41,.int .i64 x51,.int .i64 x61,.int .i64 x71,.int .i64 x81]] w (.bool eqTask) ∧
 ((!eqTask)=true →
 R (.bool false) w) ∧
 ((!eqTask)=false →
 InR .i64 (i+1) ∧
 xInv [.int .i64 (i+1)]∧mu [.int .i64 (i+1)]<mu [.int .i64 i]))))) ∧
 ((decide (i<(aL:Int)))=false →
 R (.bool true) w)))
theorem p_laws_eqTaskS (aO aL aC bO bL bC):PuV (V_laws_eqTaskS aO aL aC bO bL bC) fn_laws_eqTaskS #[.slice aO aL aC,.slice bO bL bC]:=pV [] false [(4,⟨[(5,.int .i64)],[],[0,1],[],[]⟩)] Tryz.func46 (by kernel_rfl) (by kernel_rfl)
def V_laws_eqIntS (aO:Option Addr) (aL aC:Nat) (bO:Option Addr) (bL bC:Nat) (w:World) (R:Value→World→Prop):Prop :=
 (((aL:Int) != (bL:Int))=true →
 R (.bool false) w) ∧
 (((aL:Int) != (bL:Int))=false →
 (∃(xInv:List Value→Prop) (mu:List Value→Nat),xInv [.int .i64 0] ∧
 ∀(i:Int),xInv [.int .i64 i] →
 ((decide (i<(aL:Int)))=true →
 Ix aO aL i ∧
 (∃x,
 CellsX [] w aO (Int.toNat i*1) [.int .i64 x] ∧
 Ix bO bL i ∧
 (∃x1,
 CellsX [] w bO (Int.toNat i*1) [.int .i64 x1] ∧
 ((x != x1)=true →
 R (.bool false) w) ∧
 ((x != x1)=false →
 InR .i64 (i+1) ∧
 xInv [.int .i64 (i+1)]∧mu [.int .i64 (i+1)]<mu [.int .i64 i])))) ∧
 ((decide (i<(aL:Int)))=false →
 R (.bool true) w)))
theorem p_laws_eqIntS (aO aL aC bO bL bC):PuV (V_laws_eqIntS aO aL aC bO bL bC) fn_laws_eqIntS #[.slice aO aL aC,.slice bO bL bC]:=pV [] false [(4,⟨[(5,.int .i64)],[],[0,1],[],[]⟩)] Tryz.func229 (by kernel_rfl) (by kernel_rfl)
def V_laws_eqBoolS (aO:Option Addr) (aL aC:Nat) (bO:Option Addr) (bL bC:Nat) (w:World) (R:Value→World→Prop):Prop :=
 (((aL:Int) != (bL:Int))=true →
 R (.bool false) w) ∧
 (((aL:Int) != (bL:Int))=false →
 (∃(xInv:List Value→Prop) (mu:List Value→Nat),xInv [.int .i64 0] ∧
 ∀(i:Int),xInv [.int .i64 i] →
 ((decide (i<(aL:Int)))=true →
 Ix aO aL i ∧
 (∃x,
 CellsX [] w aO (Int.toNat i*1) [.bool x] ∧
 Ix bO bL i ∧
 (∃x1,
 CellsX [] w bO (Int.toNat i*1) [.bool x1] ∧
 ((!(x==x1))=true →
 R (.bool false) w) ∧
 ((!(x==x1))=false →
 InR .i64 (i+1) ∧
 xInv [.int .i64 (i+1)]∧mu [.int .i64 (i+1)]<mu [.int .i64 i])))) ∧
 ((decide (i<(aL:Int)))=false →
 R (.bool true) w)))
theorem p_laws_eqBoolS (aO aL aC bO bL bC):PuV (V_laws_eqBoolS aO aL aC bO bL bC) fn_laws_eqBoolS #[.slice aO aL aC,.slice bO bL bC]:=pV [] false [(4,⟨[(5,.int .i64)],[],[0,1],[],[]⟩)] Tryz.func230 (by kernel_rfl) (by kernel_rfl)
def V_laws_eqBand (a0 a1 a2:Int) (a3O:Option Addr) (a3L a3C:Nat) (a4O:Option Addr) (a4L a4C:Nat) (b0 b1 b2:Int) (b3O:Option Addr) (b3L b3C:Nat) (b4O:Option Addr) (b4L b4C:Nat) (w:World) (R:Value→World→Prop):Prop :=
 (∀b,w.heap.size≤b →
 (∀b5,w.heap.size≤b5 →
 ((a0 != b0)=true →
 R (.bool false) w) ∧
 ((a0 != b0)=false →
 ((a1 != b1)=true →
 R (.bool false) w) ∧
 ((a1 != b1)=false →
 ((a2 != b2)=true →
 R (.bool false) w) ∧
 ((a2 != b2)=false →
 (∃eqIntS,
 PureX [] Tryz.prog fn_laws_eqIntS #[.slice a3O a3L a3C,.slice b3O b3L b3C] w (.bool eqIntS) ∧
 ((!eqIntS)=true →
 R (.bool false) w) ∧
 ((!eqIntS)=false →
 (∃eqBool,
 PureX [] Tryz.prog fn_laws_eqBoolS #[.slice a4O a4L a4C,.slice b4O b4L b4C] w (.bool eqBool) ∧
 ((!eqBool)=true →
 R (.bool false) w) ∧
 ((!eqBool)=false →
 R (.bool true) w)))))))))
theorem p_laws_eqBand (a0 a1 a2 a3O a3L a3C a4O a4L a4C b0 b1 b2 b3O b3L b3C b4O b4L b4C):PuV (V_laws_eqBand a0 a1 a2 a3O a3L a3C a4O a4L a4C b0 b1 b2 b3O b3L b3C b4O b4L b4C) fn_laws_eqBand #[.agg #[.int .i64 a0,.int .i64 a1,.int .i64 a2,.slice a3O a3L a3C,.slice a4O a4L a4C],.agg #[.int .i64 b0,.int .i64 b1,.int .i64 b2,.slice b3O b3L b3C,.slice b4O b4L b4C]]:=pV [] false [] Tryz.func192 (by kernel_rfl) (by kernel_rfl)
def V_laws_eqShelf (a0:Int) (a1:Bool) (a2 a3 a4 b0:Int) (b1:Bool) (b2 b3 b4:Int) (w:World) (R:Value→World→Prop):Prop :=
 (∀b,w.heap.size≤b →
 (∀b5,w.heap.size≤b5 →
 ((a0 != b0)=true →
 R (.bool false) w) ∧
 ((a0 != b0)=false →
 ((!(a1==b1))=true →
 R (.bool false) w) ∧
 ((!(a1==b1))=false →
 ((a2 != b2)=true →
 R (.bool false) w) ∧
 ((a2 != b2)=false →
 ((a3 != b3)=true →
 R (.bool false) w) ∧
 ((a3 != b3)=false →
 ((a4 != b4)=true →
 R (.bool false) w) ∧
 ((a4 != b4)=false →
 R (.bool true) w)))))))
theorem p_laws_eqShelf (a0 a1 a2 a3 a4 b0 b1 b2 b3 b4):PuV (V_laws_eqShelf a0 a1 a2 a3 a4 b0 b1 b2 b3 b4) fn_laws_eqShelf #[.agg #[.int .i64 a0,.bool a1,.int .i64 a2,.int .i64 a3,.int .i64 a4],.agg #[.int .i64 b0,.bool b1,.int .i64 b2,.int .i64 b3,.int .i64 b4]]:=pV [] false [] Tryz.func231 (by kernel_rfl) (by kernel_rfl)
def V_laws_eqShelfS (aO:Option Addr) (aL aC:Nat) (bO:Option Addr) (bL bC:Nat) (w:World) (R:Value→World→Prop):Prop :=
 (((aL:Int) != (bL:Int))=true →
 R (.bool false) w) ∧
 (((aL:Int) != (bL:Int))=false →
 (∃(xInv:List Value→Prop) (mu:List Value→Nat),xInv [.int .i64 0] ∧
 ∀(i:Int),xInv [.int .i64 i] →
 ((decide (i<(aL:Int)))=true →
 Ix aO aL i ∧
 (∃x0 x1 x2 x3 x4,
 CellsX [] w aO (Int.toNat i*5) [.int .i64 x0,.bool x1,.int .i64 x2,.int .i64 x3,.int .i64 x4] ∧
 Ix bO bL i ∧
 (∃x01 x11 x21 x31 x41,
 CellsX [] w bO (Int.toNat i*5) [.int .i64 x01,.bool x11,.int .i64 x21,.int .i64 x31,.int .i64 x41] ∧
 (∃eqShel,
 PureX [] Tryz.prog fn_laws_eqShelf #[.agg #[.int .i64 x0,.bool x1,.int .i64 x2,.int .i64 x3,.int .i64 x4],.agg #[.int .i64 x01,.bool x11,.int .i64 x21,.int .i64 x31,.int .i64 x41]] w (.bool eqShel) ∧
 ((!eqShel)=true →
 R (.bool false) w) ∧
 ((!eqShel)=false →
 InR .i64 (i+1) ∧
 xInv [.int .i64 (i+1)]∧mu [.int .i64 (i+1)]<mu [.int .i64 i]))))) ∧
 ((decide (i<(aL:Int)))=false →
 R (.bool true) w)))
theorem p_laws_eqShelfS (aO aL aC bO bL bC):PuV (V_laws_eqShelfS aO aL aC bO bL bC) fn_laws_eqShelfS #[.slice aO aL aC,.slice bO bL bC]:=pV [] false [(4,⟨[(5,.int .i64)],[],[0,1],[],[]⟩)] Tryz.func193 (by kernel_rfl) (by kernel_rfl)
def V_laws_eqGroup (a0:Bool) (a1:Int) (a2:ByteArray) (a3 a4 a5 a6 a7 a8 a9 a10:Int) (a11O:Option Addr) (a11L a11C:Nat) (a12O:Option Addr) (a12L a12C:Nat) (a13O:Option Addr) (a13L a13C:Nat) (b0:Bool) (b1:Int) (b2:ByteArray) (b3 b4 b5 b6 b7 b8 b9 b10:Int) (b11O:Option Addr) (b11L b11C:Nat) (b12O:Option Addr) (b12L b12C:Nat) (b13O:Option Addr) (b13L b13C:Nat) (w:World) (R:Value→World→Prop):Prop :=
 (∀b,w.heap.size≤b →
 (∀b14,w.heap.size≤b14 →
 ((!(a0==b0))=true →
 R (.bool false) w) ∧
 ((!(a0==b0))=false →
 ((a1 != b1)=true →
 R (.bool false) w) ∧
 ((a1 != b1)=false →
 ((!strEq a2 b2)=true →
 R (.bool false) w) ∧
 ((!strEq a2 b2)=false →
 ((a3 != b3)=true →
 R (.bool false) w) ∧
 ((a3 != b3)=false →
 ((a4 != b4)=true →
 R (.bool false) w) ∧
 ((a4 != b4)=false →
 ((a5 != b5)=true →
 R (.bool false) w) ∧
 ((a5 != b5)=false →
 ((a6 != b6)=true →
 R (.bool false) w) ∧
 ((a6 != b6)=false →
 ((a7 != b7)=true →
 R (.bool false) w) ∧
 ((a7 != b7)=false →
 (∃eqBand,
 PureX [] Tryz.prog fn_laws_eqBand #[.agg #[.int .i64 a8,.int .i64 a9,.int .i64 a10,.slice a11O a11L a11C,.slice a12O a12L a12C],.agg #[.int .i64 b8,.int .i64 b9,.int .i64 b10,.slice b11O b11L b11C,.slice b12O b12L b12C]] w (.bool eqBand) ∧
 ((!eqBand)=true →
 R (.bool false) w) ∧
 ((!eqBand)=false →
 (∃eqShel,
 PureX [] Tryz.prog fn_laws_eqShelfS #[.slice a13O a13L a13C,.slice b13O b13L b13C] w (.bool eqShel) ∧
 ((!eqShel)=true →
 R (.bool false) w) ∧
 ((!eqShel)=false →
 R (.bool true) w))))))))))))))
theorem p_laws_eqGroup (a0 a1 a2 a3 a4 a5 a6 a7 a8 a9 a10 a11O a11L a11C a12O a12L a12C a13O a13L a13C b0 b1 b2 b3 b4 b5 b6 b7 b8 b9 b10 b11O b11L b11C b12O b12L b12C b13O b13L b13C):PuV (V_laws_eqGroup a0 a1 a2 a3 a4 a5 a6 a7 a8 a9 a10 a11O a11L a11C a12O a12L a12C a13O a13L a13C b0 b1 b2 b3 b4 b5 b6 b7 b8 b9 b10 b11O b11L b11C b12O b12L b12C b13O b13L b13C) fn_laws_eqGroup #[.agg #[.bool a0,.int .i64 a1,.string a2,.int .i64 a3,.int .i64 a4,.int .i64 a5,.int .i64 a6,.int .i64 a7,.int .i64 a8,.int .i64 a9,.int .i64 a10,.slice a11O a11L a11C,.slice a12O a12L a12C,.slice a13O a13L a13C],.agg #[.bool b0,.int .i64 b1,.string b2,.int .i64 b3,.int .i64 b4,.int .i64 b5,.int .i64 b6,.int .i64 b7,.int .i64 b8,.int .i64 b9,.int .i64 b10,.slice b11O b11L b11C,.slice b12O b12L b12C,.slice b13O b13L b13C]]:=pV [] false [] Tryz.func119 (by kernel_rfl) (by kernel_rfl)
def V_laws_eqGroupS (aO:Option Addr) (aL aC:Nat) (bO:Option Addr) (bL bC:Nat) (w:World) (R:Value→World→Prop):Prop :=
 (((aL:Int) != (bL:Int))=true →
 R (.bool false) w) ∧
 (((aL:Int) != (bL:Int))=false →
 (∃(xInv:List Value→Prop) (mu:List Value→Nat),xInv [.int .i64 0] ∧
 ∀(i:Int),xInv [.int .i64 i] →
 ((decide (i<(aL:Int)))=true →
 Ix aO aL i ∧
 (∃(x0:Bool) (x1:Int) (x2:ByteArray) (x3 x4 x5 x6 x7 x8 x9 x10:Int) (x11O:Option Addr) (x11L x11C:Nat) (x12O:Option Addr) (x12L x12C:Nat) (x13O:Option Addr) (x13L x13C:Nat),
 CellsX [] w aO (Int.toNat i*14) [.bool x0,.int .i64 x1,.string x2,.int .i64 x3,.int .i64 x4,.int .i64 x5,.int .i64 x6,.int .i64 x7,.int .i64 x8,.int .i64 x9,.int .i64 x10,.slice x11O x11L x11C,.slice x12O x12L x12C,.slice x13O x13L x13C] ∧
 Ix bO bL i ∧
 (∃(x01:Bool) (x14:Int) (x21:ByteArray) (x31 x41 x51 x61 x71 x81 x91 x101:Int) (x111O:Option Addr) (x111L x111C:Nat) (x121O:Option Addr) (x121L x121C:Nat) (x131O:Option Addr) (x131L x131C:Nat),
 CellsX [] w bO (Int.toNat i*14) [.bool x01,.int .i64 x14,.string x21,.int .i64 x31,.int .i64 x41,.int .i64 x51,.int .i64 x61,.int .i64 x71,.int .i64 x81,.int .i64 x91,.int .i64 x101,.slice x111O x111L x111C,.slice x121O x121L x121C,.slice x131O x131L x131C] ∧
 (∃eqGrou,
 PureX [] Tryz.prog fn_laws_eqGroup #[.agg #[.bool x0,.int .i64 x1,.string x2,.int .i64 x3,.int .i64 x4,.int .i64 x5,.int .i64 x6,.int .i64 x7,.int .i64 x8,.int .i64 x9,.int .i64 x10,.slice x11O x11L x11C,.slice x12O x12L x12C,.slice x13O x13L x13C],.agg #[.bool x01,.int .i64 x14,.string x21,.int .i64 x31,.int .i64 x41,.int .i64 x51,.int .i64 x61,.int .i64 x71,.int .i64 x81,.int .i64 x91,.int .i64 x101,.slice x111O x111L x111C,.slice x121O x121L x121C,.slice x131O x131L x131C]] w (.bool eqGrou) ∧
 ((!eqGrou)=true →
 R (.bool false) w) ∧
 ((!eqGrou)=false →
 InR .i64 (i+1) ∧
 xInv [.int .i64 (i+1)]∧mu [.int .i64 (i+1)]<mu [.int .i64 i]))))) ∧
 ((decide (i<(aL:Int)))=false →
 R (.bool true) w)))
theorem p_laws_eqGroupS (aO aL aC bO bL bC):PuV (V_laws_eqGroupS aO aL aC bO bL bC) fn_laws_eqGroupS #[.slice aO aL aC,.slice bO bL bC]:=pV [] false [(4,⟨[(5,.int .i64)],[],[0,1],[],[]⟩)] Tryz.func47 (by kernel_rfl) (by kernel_rfl)
def V_laws_eqWorld (a0:Int) (a1O:Option Addr) (a1L a1C:Nat) (a2O:Option Addr) (a2L a2C:Nat) (a3O:Option Addr) (a3L a3C:Nat) (b0:Int) (b1O:Option Addr) (b1L b1C:Nat) (b2O:Option Addr) (b2L b2C:Nat) (b3O:Option Addr) (b3L b3C:Nat) (w:World) (R:Value→World→Prop):Prop :=
 (∀b,w.heap.size≤b →
 (∀b4,w.heap.size≤b4 →
 ((a0 != b0)=true →
 R (.bool false) w) ∧
 ((a0 != b0)=false →
 (∃eqCpuS,
 PureX [] Tryz.prog fn_laws_eqCpuS #[.slice a1O a1L a1C,.slice b1O b1L b1C] w (.bool eqCpuS) ∧
 ((!eqCpuS)=true →
 R (.bool false) w) ∧
 ((!eqCpuS)=false →
 (∃eqTask,
 PureX [] Tryz.prog fn_laws_eqTaskS #[.slice a2O a2L a2C,.slice b2O b2L b2C] w (.bool eqTask) ∧
 ((!eqTask)=true →
 R (.bool false) w) ∧
 ((!eqTask)=false →
 (∃eqGrou,
 PureX [] Tryz.prog fn_laws_eqGroupS #[.slice a3O a3L a3C,.slice b3O b3L b3C] w (.bool eqGrou) ∧
 ((!eqGrou)=true →
 R (.bool false) w) ∧
 ((!eqGrou)=false →
 R (.bool true) w)))))))))
theorem p_laws_eqWorld (a0 a1O a1L a1C a2O a2L a2C a3O a3L a3C b0 b1O b1L b1C b2O b2L b2C b3O b3L b3C):PuV (V_laws_eqWorld a0 a1O a1L a1C a2O a2L a2C a3O a3L a3C b0 b1O b1L b1C b2O b2L b2C b3O b3L b3C) fn_laws_eqWorld #[.agg #[.int .i64 a0,.slice a1O a1L a1C,.slice a2O a2L a2C,.slice a3O a3L a3C],.agg #[.int .i64 b0,.slice b1O b1L b1C,.slice b2O b2L b2C,.slice b3O b3L b3C]]:=pV [] false [] Tryz.func12 (by kernel_rfl) (by kernel_rfl)
def V_laws_markCpuS (aO:Option Addr) (aL aC:Nat) (k:Int) (w:World) (R:Value→World→Prop):Prop :=
 (∃(xInv:List Value→World→Prop) (mu:List Value→World→Nat),(∀wr,ExtX [] w wr→(∀bq∈([]:List Nat),bq<wr.heap.size)→xInv [.int .i64 k,.int .i64 0] wr) ∧
 ∀(k1 i:Int) wv,(∀bq∈([]:List Nat),bq<wv.heap.size)→xInv [.int .i64 k1,.int .i64 i] wv →
 ((decide (i<(aL:Int)))=true →
 (3:Int)≠0 ∧
 Ix aO aL i ∧
 WrX [] wv aO (Int.toNat i*5+0) 1 ∧
 InR .i64 (k1+1) ∧
 Ix aO aL i ∧
 WrX [] (sto wv aO (Int.toNat i*5+0) [.bool ((Int.tmod k1 3)==0)]) aO (Int.toNat i*5+1) 1 ∧
 InR .i64 ((k1+1)+1) ∧
 Ix aO aL i ∧
 WrX [] (sto (sto wv aO (Int.toNat i*5+0) [.bool ((Int.tmod k1 3)==0)]) aO (Int.toNat i*5+1) [.int .i64 (k1+1)]) aO (Int.toNat i*5+2) 1 ∧
 InR .i64 (((k1+1)+1)+1) ∧
 Ix aO aL i ∧
 WrX [] (sto (sto (sto wv aO (Int.toNat i*5+0) [.bool ((Int.tmod k1 3)==0)]) aO (Int.toNat i*5+1) [.int .i64 (k1+1)]) aO (Int.toNat i*5+2) [.int .i64 ((k1+1)+1)]) aO (Int.toNat i*5+3) 1 ∧
 InR .i64 ((((k1+1)+1)+1)+1) ∧
 Ix aO aL i ∧
 WrX [] (sto (sto (sto (sto wv aO (Int.toNat i*5+0) [.bool ((Int.tmod k1 3)==0)]) aO (Int.toNat i*5+1) [.int .i64 (k1+1)]) aO (Int.toNat i*5+2) [.int .i64 ((k1+1)+1)]) aO (Int.toNat i*5+3) [.int .i64 (((k1+1)+1)+1)]) aO (Int.toNat i*5+4) 1 ∧
 InR .i64 (((((k1+1)+1)+1)+1)+1) ∧
 InR .i64 (i+1) ∧
 (∀wr1,ExtX [] (sto (sto (sto (sto (sto wv aO (Int.toNat i*5+0) [.bool ((Int.tmod k1 3)==0)]) aO (Int.toNat i*5+1) [.int .i64 (k1+1)]) aO (Int.toNat i*5+2) [.int .i64 ((k1+1)+1)]) aO (Int.toNat i*5+3) [.int .i64 (((k1+1)+1)+1)]) aO (Int.toNat i*5+4) [.int .i64 ((((k1+1)+1)+1)+1)]) wr1→(∀bq∈([]:List Nat),bq<wr1.heap.size)→xInv [.int .i64 (((((k1+1)+1)+1)+1)+1),.int .i64 (i+1)] wr1∧mu [.int .i64 (((((k1+1)+1)+1)+1)+1),.int .i64 (i+1)] wr1<mu [.int .i64 k1,.int .i64 i] wv)) ∧
 ((decide (i<(aL:Int)))=false →
 (∀wr2,ExtX [] wv wr2→R (.int .i64 k1) wr2)))
theorem e_laws_markCpuS (aO aL aC k):EfV (V_laws_markCpuS aO aL aC k) fn_laws_markCpuS #[.slice aO aL aC,.int .i64 k]:=eV [] false [(2,⟨[(1,.int .i64),(5,.int .i64)],[],[0],[],[]⟩)] Tryz.func48 (by kernel_rfl) (by kernel_rfl)
def V_laws_markTaskS (aO:Option Addr) (aL aC:Nat) (k:Int) (w:World) (R:Value→World→Prop):Prop :=
 (∃(xInv:List Value→World→Prop) (mu:List Value→World→Nat),(∀wr,ExtX [] w wr→(∀bq∈([]:List Nat),bq<wr.heap.size)→xInv [.int .i64 k,.int .i64 0] wr) ∧
 ∀(k1 i:Int) wv,(∀bq∈([]:List Nat),bq<wv.heap.size)→xInv [.int .i64 k1,.int .i64 i] wv →
 ((decide (i<(aL:Int)))=true →
 Ix aO aL i ∧
 WrX [] wv aO (Int.toNat i*9+0) 1 ∧
 InR .i64 (k1+1) ∧
 Ix aO aL i ∧
 WrX [] (sto wv aO (Int.toNat i*9+0) [.int .i64 k1]) aO (Int.toNat i*9+1) 1 ∧
 InR .i64 ((k1+1)+1) ∧
 Ix aO aL i ∧
 WrX [] (sto (sto wv aO (Int.toNat i*9+0) [.int .i64 k1]) aO (Int.toNat i*9+1) [.int .i64 (k1+1)]) aO (Int.toNat i*9+2) 1 ∧
 InR .i64 (((k1+1)+1)+1) ∧
 Ix aO aL i ∧
 WrX [] (sto (sto (sto wv aO (Int.toNat i*9+0) [.int .i64 k1]) aO (Int.toNat i*9+1) [.int .i64 (k1+1)]) aO (Int.toNat i*9+2) [.int .i64 ((k1+1)+1)]) aO (Int.toNat i*9+3) 1 ∧
 InR .i64 ((((k1+1)+1)+1)+1) ∧
 Ix aO aL i ∧
 WrX [] (sto (sto (sto (sto wv aO (Int.toNat i*9+0) [.int .i64 k1]) aO (Int.toNat i*9+1) [.int .i64 (k1+1)]) aO (Int.toNat i*9+2) [.int .i64 ((k1+1)+1)]) aO (Int.toNat i*9+3) [.int .i64 (((k1+1)+1)+1)]) aO (Int.toNat i*9+4) 1 ∧
 InR .i64 (((((k1+1)+1)+1)+1)+1) ∧
 Ix aO aL i ∧
 WrX [] (sto (sto (sto (sto (sto wv aO (Int.toNat i*9+0) [.int .i64 k1]) aO (Int.toNat i*9+1) [.int .i64 (k1+1)]) aO (Int.toNat i*9+2) [.int .i64 ((k1+1)+1)]) aO (Int.toNat i*9+3) [.int .i64 (((k1+1)+1)+1)]) aO (Int.toNat i*9+4) [.int .i64 ((((k1+1)+1)+1)+1)]) aO (Int.toNat i*9+5) 1 ∧
 InR .i64 ((((((k1+1)+1)+1)+1)+1)+1) ∧
 Ix aO aL i ∧
 WrX [] (sto (sto (sto (sto (sto (sto wv aO (Int.toNat i*9+0) [.int .i64 k1]) aO (Int.toNat i*9+1) [.int .i64 (k1+1)]) aO (Int.toNat i*9+2) [.int .i64 ((k1+1)+1)]) aO (Int.toNat i*9+3) [.int .i64 (((k1+1)+1)+1)]) aO (Int.toNat i*9+4) [.int .i64 ((((k1+1)+1)+1)+1)]) aO (Int.toNat i*9+5) [.int .i64 (((((k1+1)+1)+1)+1)+1)]) aO (Int.toNat i*9+6) 1 ∧
 InR .i64 (((((((k1+1)+1)+1)+1)+1)+1)+1) ∧
 Ix aO aL i ∧
 WrX [] (sto (sto (sto (sto (sto (sto (sto wv aO (Int.toNat i*9+0) [.int .i64 k1]) aO (Int.toNat i*9+1) [.int .i64 (k1+1)]) aO (Int.toNat i*9+2) [.int .i64 ((k1+1)+1)]) aO (Int.toNat i*9+3) [.int .i64 (((k1+1)+1)+1)]) aO (Int.toNat i*9+4) [.int .i64 ((((k1+1)+1)+1)+1)]) aO (Int.toNat i*9+5) [.int .i64 (((((k1+1)+1)+1)+1)+1)]) aO (Int.toNat i*9+6) [.int .i64 ((((((k1+1)+1)+1)+1)+1)+1)]) aO (Int.toNat i*9+7) 1 ∧
 InR .i64 ((((((((k1+1)+1)+1)+1)+1)+1)+1)+1) ∧
 Ix aO aL i ∧
 WrX [] (sto (sto (sto (sto (sto (sto (sto (sto wv aO (Int.toNat i*9+0) [.int .i64 k1]) aO (Int.toNat i*9+1) [.int .i64 (k1+1)]) aO (Int.toNat i*9+2) [.int .i64 ((k1+1)+1)]) aO (Int.toNat i*9+3) [.int .i64 (((k1+1)+1)+1)]) aO (Int.toNat i*9+4) [.int .i64 ((((k1+1)+1)+1)+1)]) aO (Int.toNat i*9+5) [.int .i64 (((((k1+1)+1)+1)+1)+1)]) aO (Int.toNat i*9+6) [.int .i64 ((((((k1+1)+1)+1)+1)+1)+1)]) aO (Int.toNat i*9+7) [.int .i64 (((((((k1+1)+1)+1)+1)+1)+1)+1)]) aO (Int.toNat i*9+8) 1 ∧
 InR .i64 (((((((((k1+1)+1)+1)+1)+1)+1)+1)+1)+1) ∧
 InR .i64 (i+1) ∧
 (∀wr1,ExtX [] (sto (sto (sto (sto (sto (sto (sto (sto (sto wv aO (Int.toNat i*9+0) [.int .i64 k1]) aO (Int.toNat i*9+1) [.int .i64 (k1+1)]) aO (Int.toNat i*9+2) [.int .i64 ((k1+1)+1)]) aO (Int.toNat i*9+3) [.int .i64 (((k1+1)+1)+1)]) aO (Int.toNat i*9+4) [.int .i64 ((((k1+1)+1)+1)+1)]) aO (Int.toNat i*9+5) [.int .i64 (((((k1+1)+1)+1)+1)+1)]) aO (Int.toNat i*9+6) [.int .i64 ((((((k1+1)+1)+1)+1)+1)+1)]) aO (Int.toNat i*9+7) [.int .i64 (((((((k1+1)+1)+1)+1)+1)+1)+1)]) aO (Int.toNat i*9+8) [.int .i64 ((((((((k1+1)+1)+1)+1)+1)+1)+1)+1)]) wr1→(∀bq∈([]:List Nat),bq<wr1.heap.size)→xInv [.int .i64 (((((((((k1+1)+1)+1)+1)+1)+1)+1)+1)+1),.int .i64 (i+1)] wr1∧mu [.int .i64 (((((((((k1+1)+1)+1)+1)+1)+1)+1)+1)+1),.int .i64 (i+1)] wr1<mu [.int .i64 k1,.int .i64 i] wv)) ∧
 ((decide (i<(aL:Int)))=false →
 (∀wr2,ExtX [] wv wr2→R (.int .i64 k1) wr2)))
theorem e_laws_markTaskS (aO aL aC k):EfV (V_laws_markTaskS aO aL aC k) fn_laws_markTaskS #[.slice aO aL aC,.int .i64 k]:=eV [] false [(2,⟨[(1,.int .i64),(5,.int .i64)],[],[0],[],[]⟩)] Tryz.func49 (by kernel_rfl) (by kernel_rfl)
def V_laws_markText (k:Int) (w:World) (R:Value→World→Prop):Prop :=
 ((decide (k≤0))=true →
 (∀wr,ExtX [] w wr→R (.string (ByteArray.mk [109,48].toArray)) wr)) ∧
 ((decide (k≤0))=false →
 (∃(xInv:List Value→World→Prop) (mu:List Value→World→Nat),(∀wr1,ExtX [] w wr1→(∀bq∈([]:List Nat),bq<wr1.heap.size)→xInv [.int .i64 k,.string (ByteArray.mk [].toArray)] wr1) ∧
 ∀(k1:Int) (out:ByteArray) wv,(∀bq∈([]:List Nat),bq<wv.heap.size)→xInv [.int .i64 k1,.string out] wv →
 ((decide (k1>0))=true →
 (10:Int)≠0 ∧
 InR .i64 (48+(Int.tmod k1 10)) ∧
 InR .u8 (48+(Int.tmod k1 10)) ∧
 (∀b wb,ExtX [] wv wb→wv.heap.size≤b→wb.heap[b]? = some (Obj.cells ([.int .u8 (48+(Int.tmod k1 10))]:List Value).toArray ty_uint8 (0,0))→b∉([]:List Nat) →
 (∀wr2,ExtX [] wb wr2→(∀bq∈([]:List Nat),bq<wr2.heap.size) →
 (∃(cv:ByteArray),
 ∃wv1,((convert ty_sl_uint8 ty_string (.slice (some (Addr.mk b 0 none)) 1 1)):Sem Value).run Tryz.prog wr2 = .ok (.string cv) wv1∧Kept [] wr2 wv1 ∧
 cv.size+out.size≤9223372036854775807 ∧
 ((10:Int)≠0∧InR .i64 (Int.tdiv k1 10)) ∧
 (∀wr3,ExtX [] wv1 wr3→(∀bq∈([]:List Nat),bq<wr3.heap.size)→xInv [.int .i64 (Int.tdiv k1 10),.string (cv++out)] wr3∧mu [.int .i64 (Int.tdiv k1 10),.string (cv++out)] wr3<mu [.int .i64 k1,.string out] wv))))) ∧
 ((decide (k1>0))=false →
 (ByteArray.mk [109].toArray).size+out.size≤9223372036854775807 ∧
 (∀wr4,ExtX [] wv wr4→R (.string ((ByteArray.mk [109].toArray)++out)) wr4))))
theorem e_laws_markText (k):EfV (V_laws_markText k) fn_laws_markText #[.int .i64 k]:=eV [12] false [(4,⟨[(0,.int .i64),(3,.str)],[],[],[],[]⟩)] Tryz.func120 (by kernel_rfl) (by kernel_rfl)
def V_laws_markIntS (aO:Option Addr) (aL aC:Nat) (k:Int) (w:World) (R:Value→World→Prop):Prop :=
 (∃(xInv:List Value→World→Prop) (mu:List Value→World→Nat),(∀wr,ExtX [] w wr→(∀bq∈([]:List Nat),bq<wr.heap.size)→xInv [.int .i64 k,.int .i64 0] wr) ∧
 ∀(k1 i:Int) wv,(∀bq∈([]:List Nat),bq<wv.heap.size)→xInv [.int .i64 k1,.int .i64 i] wv →
 ((decide (i<(aL:Int)))=true →
 Ix aO aL i ∧
 WrX [] wv aO (Int.toNat i*1) 1 ∧
 InR .i64 (k1+1) ∧
 InR .i64 (i+1) ∧
 (∀wr1,ExtX [] (sto wv aO (Int.toNat i*1) [.int .i64 k1]) wr1→(∀bq∈([]:List Nat),bq<wr1.heap.size)→xInv [.int .i64 (k1+1),.int .i64 (i+1)] wr1∧mu [.int .i64 (k1+1),.int .i64 (i+1)] wr1<mu [.int .i64 k1,.int .i64 i] wv)) ∧
 ((decide (i<(aL:Int)))=false →
 (∀wr2,ExtX [] wv wr2→R (.int .i64 k1) wr2)))
theorem e_laws_markIntS (aO aL aC k):EfV (V_laws_markIntS aO aL aC k) fn_laws_markIntS #[.slice aO aL aC,.int .i64 k]:=eV [] false [(2,⟨[(1,.int .i64),(5,.int .i64)],[],[0],[],[]⟩)] Tryz.func121 (by kernel_rfl) (by kernel_rfl)
def V_laws_markBoolS (aO:Option Addr) (aL aC:Nat) (k:Int) (w:World) (R:Value→World→Prop):Prop :=
 (∃(xInv:List Value→World→Prop) (mu:List Value→World→Nat),(∀wr,ExtX [] w wr→(∀bq∈([]:List Nat),bq<wr.heap.size)→xInv [.int .i64 k,.int .i64 0] wr) ∧
 ∀(k1 i:Int) wv,(∀bq∈([]:List Nat),bq<wv.heap.size)→xInv [.int .i64 k1,.int .i64 i] wv →
 ((decide (i<(aL:Int)))=true →
 (3:Int)≠0 ∧
 Ix aO aL i ∧
 WrX [] wv aO (Int.toNat i*1) 1 ∧
 InR .i64 (k1+1) ∧
 InR .i64 (i+1) ∧
 (∀wr1,ExtX [] (sto wv aO (Int.toNat i*1) [.bool ((Int.tmod k1 3)==0)]) wr1→(∀bq∈([]:List Nat),bq<wr1.heap.size)→xInv [.int .i64 (k1+1),.int .i64 (i+1)] wr1∧mu [.int .i64 (k1+1),.int .i64 (i+1)] wr1<mu [.int .i64 k1,.int .i64 i] wv)) ∧
 ((decide (i<(aL:Int)))=false →
 (∀wr2,ExtX [] wv wr2→R (.int .i64 k1) wr2)))
theorem e_laws_markBoolS (aO aL aC k):EfV (V_laws_markBoolS aO aL aC k) fn_laws_markBoolS #[.slice aO aL aC,.int .i64 k]:=eV [] false [(2,⟨[(1,.int .i64),(5,.int .i64)],[],[0],[],[]⟩)] Tryz.func122 (by kernel_rfl) (by kernel_rfl)
def V_laws_markShelfS (aO:Option Addr) (aL aC:Nat) (k:Int) (w:World) (R:Value→World→Prop):Prop :=
 (∃(xInv:List Value→World→Prop) (mu:List Value→World→Nat),(∀wr,ExtX [] w wr→(∀bq∈([]:List Nat),bq<wr.heap.size)→xInv [.int .i64 k,.int .i64 0] wr) ∧
 ∀(k1 i:Int) wv,(∀bq∈([]:List Nat),bq<wv.heap.size)→xInv [.int .i64 k1,.int .i64 i] wv →
 ((decide (i<(aL:Int)))=true →
 Ix aO aL i ∧
 WrX [] wv aO (Int.toNat i*5+0) 1 ∧
 InR .i64 (k1+1) ∧
 (3:Int)≠0 ∧
 Ix aO aL i ∧
 WrX [] (sto wv aO (Int.toNat i*5+0) [.int .i64 k1]) aO (Int.toNat i*5+1) 1 ∧
 InR .i64 ((k1+1)+1) ∧
 Ix aO aL i ∧
 WrX [] (sto (sto wv aO (Int.toNat i*5+0) [.int .i64 k1]) aO (Int.toNat i*5+1) [.bool ((Int.tmod (k1+1) 3)==0)]) aO (Int.toNat i*5+2) 1 ∧
 InR .i64 (((k1+1)+1)+1) ∧
 Ix aO aL i ∧
 WrX [] (sto (sto (sto wv aO (Int.toNat i*5+0) [.int .i64 k1]) aO (Int.toNat i*5+1) [.bool ((Int.tmod (k1+1) 3)==0)]) aO (Int.toNat i*5+2) [.int .i64 ((k1+1)+1)]) aO (Int.toNat i*5+3) 1 ∧
 InR .i64 ((((k1+1)+1)+1)+1) ∧
 Ix aO aL i ∧
 WrX [] (sto (sto (sto (sto wv aO (Int.toNat i*5+0) [.int .i64 k1]) aO (Int.toNat i*5+1) [.bool ((Int.tmod (k1+1) 3)==0)]) aO (Int.toNat i*5+2) [.int .i64 ((k1+1)+1)]) aO (Int.toNat i*5+3) [.int .i64 (((k1+1)+1)+1)]) aO (Int.toNat i*5+4) 1 ∧
 InR .i64 (((((k1+1)+1)+1)+1)+1) ∧
 InR .i64 (i+1) ∧
 (∀wr1,ExtX [] (sto (sto (sto (sto (sto wv aO (Int.toNat i*5+0) [.int .i64 k1]) aO (Int.toNat i*5+1) [.bool ((Int.tmod (k1+1) 3)==0)]) aO (Int.toNat i*5+2) [.int .i64 ((k1+1)+1)]) aO (Int.toNat i*5+3) [.int .i64 (((k1+1)+1)+1)]) aO (Int.toNat i*5+4) [.int .i64 ((((k1+1)+1)+1)+1)]) wr1→(∀bq∈([]:List Nat),bq<wr1.heap.size)→xInv [.int .i64 (((((k1+1)+1)+1)+1)+1),.int .i64 (i+1)] wr1∧mu [.int .i64 (((((k1+1)+1)+1)+1)+1),.int .i64 (i+1)] wr1<mu [.int .i64 k1,.int .i64 i] wv)) ∧
 ((decide (i<(aL:Int)))=false →
 (∀wr2,ExtX [] wv wr2→R (.int .i64 k1) wr2)))
theorem e_laws_markShelfS (aO aL aC k):EfV (V_laws_markShelfS aO aL aC k) fn_laws_markShelfS #[.slice aO aL aC,.int .i64 k]:=eV [] false [(2,⟨[(1,.int .i64),(5,.int .i64)],[],[0],[],[]⟩)] Tryz.func123 (by kernel_rfl) (by kernel_rfl)
end Go.Proofs.YtajdcjidpolloaaGreatDoor
