/- Part 7 of what the law FnExactWorldRun needs: the engine, the functions' propositions, the contracts. -/
import Derived.Test.YthhmnlcimojhlaaGreatDoorFnExactWorldRunPf
namespace Go.Proofs.YthhmnlcimojhlaaGreatDoor
open Go.RowKit
set_option linter.unusedVariables false
set_option maxRecDepth 100000
set_option maxHeartbeats 1600000
def z2g (s:ByteArray) (w:World) (R:Value→World→Prop):Prop :=
 ((zck s (ByteArray.mk [119,101,105,103,104,116].toArray))=true →
 (∀wr,ExtX [] w wr→R (.bool false) wr)) ∧
 ((zck s (ByteArray.mk [119,101,105,103,104,116].toArray))=false →
 ((zck s (ByteArray.mk [109,97,120].toArray))=true →
 (∀aa,ExtX [] w aa→R (.bool false) aa)) ∧
 ((zck s (ByteArray.mk [109,97,120].toArray))=false →
 ((zck s (ByteArray.mk [99,112,117,115].toArray))=true →
 (∀ba,ExtX [] w ba→R (.bool false) ba)) ∧
 ((zck s (ByteArray.mk [99,112,117,115].toArray))=false →
 ((zck s (ByteArray.mk [112,114,111,99,115].toArray))=true →
 (∀ca,ExtX [] w ca→R (.bool false) ca)) ∧
 ((zck s (ByteArray.mk [112,114,111,99,115].toArray))=false →
 ((zck s (ByteArray.mk [115,116,97,116].toArray))=true →
 (∀da,ExtX [] w da→R (.bool false) da)) ∧
 ((zck s (ByteArray.mk [115,116,97,116].toArray))=false →
 (∃ea,
 zab [] Tryz.prog zaf #[.int .i64 (s.size:Int),.int .i64 1,.int .i64 8] w (.bool ea) ∧
 ((!ea)=true →
 (∀fa,ExtX [] w fa→R (.bool false) fa)) ∧
 ((!ea)=false →
 (∀ga,ExtX [] w ga→(∀bq∈([]:List Nat),bq<ga.heap.size) →
 (∃it,
 ∃wv,((Instr.range zfa (.string s)):Sem Value).run Tryz.prog ga = .ok (.pointer it) wv∧Kept [] ga wv ∧
 (∃(ha:List Value→World→Prop) (mu:List Value→World→Nat),(∀ia,ExtX [] wv ia→(∀bq∈([]:List Nat),bq<ia.heap.size)→ha [] ia) ∧
 ∀ ja,(∀bq∈([]:List Nat),bq<ja.heap.size)→ha [] ja →
 (∀ka,ExtX [] ja ka→(∀bq∈([]:List Nat),bq<ka.heap.size) →
 (∃(b:Nat) (la:ByteArray) (ma:Nat),it=some (Addr.mk b 0 none)∧b∉([]:List Nat)∧ka.heap[b]? = some (.stringIter la ma) ∧
 (la.size≤ma →
 (false=true →
 False) ∧
 (false=false →
 (∀na,ExtX [] ka na→R (.bool true) na))) ∧
 (ma<la.size →
 (true=true →
 ((!(((decide (((Utf8.decode la ma).1:Int)≥97))&&(decide (((Utf8.decode la ma).1:Int)≤122)))||((decide (((Utf8.decode la ma).1:Int)≥48))&&(decide (((Utf8.decode la ma).1:Int)≤57)))))=true →
 (∀oa,ExtX [] (zp4 ka b la (ma+(Utf8.decode la ma).2)) oa→R (.bool false) oa)) ∧
 ((!(((decide (((Utf8.decode la ma).1:Int)≥97))&&(decide (((Utf8.decode la ma).1:Int)≤122)))||((decide (((Utf8.decode la ma).1:Int)≥48))&&(decide (((Utf8.decode la ma).1:Int)≤57)))))=false →
 (∀pa,ExtX [] (zp4 ka b la (ma+(Utf8.decode la ma).2)) pa→(∀bq∈([]:List Nat),bq<pa.heap.size)→ha [] pa∧mu [] pa<mu [] ja))) ∧
 (true=false →
 (∀qa,ExtX [] (zp4 ka b la (ma+(Utf8.decode la ma).2)) qa→R (.bool true) qa)))))))))))))))
theorem z3k (s):EfV (z2g s) zk0 #[.string s]:=eV [] false [(11,⟨[],[],[17],[],[]⟩)] Tryz.func274 (by kernel_rfl) (by kernel_rfl)
def zr4 (n:Option Addr) (w:World) (R:Value→World→Prop):Prop :=
 (∃(aa:List Value→Prop) (mu:List Value→Nat),aa [.pointer n,.int .i64 0] ∧
 ∀(n1:Option Addr) (ba:Int),aa [.pointer n1,.int .i64 ba] →
 (((!n1.isNone)&&(decide (ba≤3)))=true →
 n1.isSome=true ∧
 (∃ca,
 zaa [] w n1 (0+0) [.int .i64 ca] ∧
 ((ca==0)=true →
 R (.int .i64 ba) w) ∧
 ((ca==0)=false →
 InR .i64 (ba+1) ∧
 n1.isSome=true ∧
 (∃up,
 zaa [] w n1 (0+2) [.pointer up] ∧
 aa [.pointer up,.int .i64 (ba+1)]∧mu [.pointer up,.int .i64 (ba+1)]<mu [.pointer n1,.int .i64 ba])))) ∧
 (((!n1.isNone)&&(decide (ba≤3)))=false →
 R (.int .i64 (-1)) w))
theorem zss (n):PuV (zr4 n) zgt #[.pointer n]:=pV [] false [(2,⟨[(0,.ptr),(3,.int .i64)],[],[],[],[]⟩)] Tryz.func275 (by kernel_rfl) (by kernel_rfl)
def z5s (lO:Option Addr) (lL lC:Nat) (w:World) (R:Value→World→Prop):Prop :=
 (((lL:Int) != 8)=false→Ix lO lL 0) ∧
 (∃aa,
 (((lL:Int) != 8)=false→zaa [] w lO (Int.toNat 0*14+0) [.bool aa]) ∧
 ((((lL:Int) != 8)||(!aa))=false→Ix lO lL 0) ∧
 (∃ba,
 ((((lL:Int) != 8)||(!aa))=false→zaa [] w lO (Int.toNat 0*14+1) [.int .i64 ba]) ∧
 (((((lL:Int) != 8)||(!aa))||(ba != (-1)))=false→Ix lO lL 0) ∧
 (∃(ca:ByteArray),
 (((((lL:Int) != 8)||(!aa))||(ba != (-1)))=false→zaa [] w lO (Int.toNat 0*14+2) [.string ca]) ∧
 ((((((lL:Int) != 8)||(!aa))||(ba != (-1)))||(!zck ca (ByteArray.mk [].toArray)))=true →
 (∀wr,ExtX [] w wr→R (.tuple #[.slice none 0 0,.bool false]) wr)) ∧
 ((((((lL:Int) != 8)||(!aa))||(ba != (-1)))||(!zck ca (ByteArray.mk [].toArray)))=false →
 (∀da,ExtX [] w da→(∀bq∈([]:List Nat),bq<da.heap.size) →
 (∃ea fa ga,
 ∃wv,((Instr.makeSlice zl9 (.int .i64 8) (.int .i64 8)):Sem Value).run Tryz.prog da = .ok (.slice ea fa ga) wv∧Kept [] da wv ∧
 (∃(ha:List Value→World→Prop) (mu:List Value→World→Nat),(∀ia,ExtX [] wv ia→(∀bq∈([]:List Nat),bq<ia.heap.size)→ha [.int .i64 0] ia) ∧
 ∀(x:Int) ja,(∀bq∈([]:List Nat),bq<ja.heap.size)→ha [.int .i64 x] ja →
 ((decide (x<(lL:Int)))=true →
 Ix lO lL x ∧
 (∃ka,
 zaa [] ja lO (Int.toNat x*14+0) [.bool ka] ∧
 (ka=true →
 Ix lO lL x ∧
 (∃(la:ByteArray),
 zaa [] ja lO (Int.toNat x*14+2) [.string la] ∧
 (∀b wb,ExtX [] ja wb→ja.heap.size≤b→wb.heap[b]? = some (Obj.cells ([.int .i64 x,.string la,.pointer none]:List Value).toArray ztk (0,0))→b∉([]:List Nat) →
 Ix ea fa x ∧
 WrX [] wb ea (Int.toNat x*1) 1 ∧
 InR .i64 (x+1) ∧
 (∀ma,ExtX [] (sto wb ea (Int.toNat x*1) [.pointer ((some (Addr.mk b 0 none)).map (·.add 0))]) ma→(∀bq∈([]:List Nat),bq<ma.heap.size)→ha [.int .i64 (x+1)] ma∧mu [.int .i64 (x+1)] ma<mu [.int .i64 x] ja)))) ∧
 (ka=false →
 InR .i64 (x+1) ∧
 (∀na,ExtX [] ja na→(∀bq∈([]:List Nat),bq<na.heap.size)→ha [.int .i64 (x+1)] na∧mu [.int .i64 (x+1)] na<mu [.int .i64 x] ja)))) ∧
 ((decide (x<(lL:Int)))=false →
 (∀oa,ExtX [] ja oa→(∀bq∈([]:List Nat),bq<oa.heap.size) →
 (∃(mp:Value),
 ∃pa,((Instr.makeMap zbm none):Sem Value).run Tryz.prog oa = .ok mp pa∧Kept [] oa pa ∧
 (∃(qa:List Value→World→Prop) (ra:List Value→World→Nat),(∀sa,ExtX [] pa sa→(∀bq∈([]:List Nat),bq<sa.heap.size)→qa [.int .i64 1] sa) ∧
 ∀(g:Int) ta,(∀bq∈([]:List Nat),bq<ta.heap.size)→qa [.int .i64 g] ta →
 ((decide (g<8))=true →
 Ix ea fa g ∧
 (∃x1,
 zaa [] ta ea (Int.toNat g*1) [.pointer x1] ∧
 (x1.isNone=true →
 InR .i64 (g+1) ∧
 (∀ua,ExtX [] ta ua→(∀bq∈([]:List Nat),bq<ua.heap.size)→qa [.int .i64 (g+1)] ua∧ra [.int .i64 (g+1)] ua<ra [.int .i64 g] ta)) ∧
 (x1.isNone=false →
 Ix lO lL g ∧
 (∃(va:ByteArray),
 zaa [] ta lO (Int.toNat g*14+2) [.string va] ∧
 (∃wa,
 zab [] Tryz.prog zk0 #[.string va] ta (.bool wa) ∧
 ((!wa)=false→Ix lO lL g) ∧
 (∃xa,
 ((!wa)=false→zaa [] ta lO (Int.toNat g*14+1) [.int .i64 xa]) ∧
 (∃ya,
 ((!wa)=false→zab [] Tryz.prog zfe #[.slice lO lL lC,.int .i64 xa] ta (.bool ya)) ∧
 (((!wa)||(!ya))=true →
 (∀za,ExtX [] ta za→R (.tuple #[.slice none 0 0,.bool false]) za)) ∧
 (((!wa)||(!ya))=false →
 Ix ea fa g ∧
 (∃x2,
 zaa [] ta ea (Int.toNat g*1) [.pointer x2] ∧
 Ix lO lL g ∧
 (∃ab,
 zaa [] ta lO (Int.toNat g*14+1) [.int .i64 ab] ∧
 Ix ea fa ab ∧
 (∃x3,
 zaa [] ta ea (Int.toNat ab*1) [.pointer x3] ∧
 x2.isSome=true ∧
 WrX [] ta x2 (0+2) 1 ∧
 Ix lO lL g ∧
 (∃bb,
 zaa [] (sto ta x2 (0+2) [.pointer x3]) lO (Int.toNat g*14+1) [.int .i64 bb] ∧
 Ix lO lL g ∧
 (∃(cb:ByteArray),
 zaa [] (sto ta x2 (0+2) [.pointer x3]) lO (Int.toNat g*14+2) [.string cb] ∧
 (∀b1,(sto ta x2 (0+2) [.pointer x3]).heap.size≤b1 →
 zaa [] (sto ta x2 (0+2) [.pointer x3]) lO (Int.toNat g*14+2) [.string cb] ∧
 zaa [] (sto ta x2 (0+2) [.pointer x3]) lO (Int.toNat g*14+1) [.int .i64 bb] ∧
 (∀db,ExtX [] (sto ta x2 (0+2) [.pointer x3]) db→(∀bq∈([b1]:List Nat),bq<db.heap.size) →
 (∃lk eb,
 ∃fb,((Instr.lookup zbm mp (.agg #[.int .i64 bb,.string cb]) true):Sem Value).run Tryz.prog db = .ok (.tuple #[.int .i64 lk,.bool eb]) fb∧Kept [b1] db fb ∧
 (eb=true →
 (∀gb,ExtX [b1] fb gb→R (.tuple #[.slice none 0 0,.bool false]) gb)) ∧
 (eb=false →
 (∀hb,ExtX [b1] fb hb→(∀bq∈([b1]:List Nat),bq<hb.heap.size) →
 ∃ib,((do Instr.mapUpdate zbm mp (.agg #[.int .i64 bb,.string cb]) (.int .i64 g); pure undef):Sem Value).run Tryz.prog hb = .ok undef ib∧Kept [b1] hb ib ∧
 InR .i64 (g+1) ∧
 (∀jb,ExtX [b1] ib jb→(∀bq∈([b1]:List Nat),bq<jb.heap.size)→qa [.int .i64 (g+1)] jb∧ra [.int .i64 (g+1)] jb<ra [.int .i64 g] ta))))))))))))))))))) ∧
 ((decide (g<8))=false →
 (∃(kb:List Value→World→Prop) (lb:List Value→World→Nat),(∀mb,ExtX [] ta mb→(∀bq∈([]:List Nat),bq<mb.heap.size)→kb [.int .i64 0] mb) ∧
 ∀(x4:Int) nb,(∀bq∈([]:List Nat),bq<nb.heap.size)→kb [.int .i64 x4] nb →
 ((decide (x4<(fa:Int)))=true →
 Ix ea fa x4 ∧
 (∃x5,
 zaa [] nb ea (Int.toNat x4*1) [.pointer x5] ∧
 (∃ob,
 ((!x5.isNone)=true→zab [] Tryz.prog zgt #[.pointer x5] nb (.int .i64 ob)) ∧
 (((!x5.isNone)&&(decide (ob<0)))=true →
 (∀pb,ExtX [] nb pb→R (.tuple #[.slice none 0 0,.bool false]) pb)) ∧
 (((!x5.isNone)&&(decide (ob<0)))=false →
 InR .i64 (x4+1) ∧
 (∀qb,ExtX [] nb qb→(∀bq∈([]:List Nat),bq<qb.heap.size)→kb [.int .i64 (x4+1)] qb∧lb [.int .i64 (x4+1)] qb<lb [.int .i64 x4] nb))))) ∧
 ((decide (x4<(fa:Int)))=false →
 (∀rb,ExtX [] nb rb→R (.tuple #[.slice ea fa ga,.bool true]) rb)))))))))))))))
theorem z6c (lO lL lC):EfV (z5s lO lL lC) zmi #[.slice lO lL lC]:=eV [57] false [(5,⟨[(40,.int .i64)],[],[0,4,39],[],[]⟩),(12,⟨[(7,.int .i64)],[],[0,4,6],[],[]⟩),(24,⟨[(124,.int .i64)],[],[4,122,123],[],[]⟩)] Tryz.func270 (by kernel_rfl) (by kernel_rfl)
def z2h (lO:Option Addr) (lL lC:Nat) (w:World) (R:Value→World→Prop):Prop :=
 (∀wr,ExtX [] w wr→(∀bq∈([]:List Nat),bq<wr.heap.size) →
 Calls Tryz.prog zmi #[.slice lO lL lC] wr fun e wv =>
 (∃aa ba ca da,
 e = .returned (.tuple #[.slice aa ba ca,.bool da])∧Kept [] wr wv ∧
 (∀ea,ExtX [] wv ea→R (.bool da) ea)))
theorem z3l (lO lL lC):EfV (z2h lO lL lC) zk1 #[.slice lO lL lC]:=eV [] false [] Tryz.func254 (by kernel_rfl) (by kernel_rfl)
def zoz (wv:Option Addr) (w:World) (R:Value→World→Prop):Prop :=
 wv.isSome=true ∧
 (∃aa,
 zaa [] w wv (0+0) [.int .i64 aa] ∧
 (∀b,w.heap.size≤b →
 (∃ba,
 (∀wx,ExtX [] w wx→wx.heap[b]? = some (Obj.cells ([.int .i64 aa]:List Value).toArray ty_int (0,0))→zab [] Tryz.prog zbq #[.slice (some (Addr.mk b 0 none)) 1 1] wx (.bool ba)) ∧
 (ba=true→wv.isSome=true) ∧
 (∃ca da ea,
 (ba=true→zaa [] w wv (0+1) [.slice ca da ea]) ∧
 (∃fa,
 (ba=true→zab [] Tryz.prog zaf #[.int .i64 (da:Int),.int .i64 1,.int .i64 4] w (.bool fa)) ∧
 (∃ga,
 ((ba&&fa)=true→zab [] Tryz.prog zcm #[.pointer wv] w (.int .i64 ga)) ∧
 (((ba&&fa)&&(ga != 0))=true→wv.isSome=true) ∧
 (∃ha ia ja,
 (((ba&&fa)&&(ga != 0))=true→zaa [] w wv (0+2) [.slice ha ia ja]) ∧
 ((((ba&&fa)&&(ga != 0))&&((ia:Int)==12))=true→wv.isSome=true) ∧
 (∃ka la ma,
 ((((ba&&fa)&&(ga != 0))&&((ia:Int)==12))=true→zaa [] w wv (0+3) [.slice ka la ma]) ∧
 (∃na,
 ((((ba&&fa)&&(ga != 0))&&((ia:Int)==12))=true→zab [] Tryz.prog zk1 #[.slice ka la ma] w (.bool na)) ∧
 R (.bool ((((ba&&fa)&&(ga != 0))&&((ia:Int)==12))&&na)) w)))))))))
theorem zo7 (wv):PuV (zoz wv) zdj #[.pointer wv]:=pV [] false [] Tryz.func215 (by kernel_rfl) (by kernel_rfl)
def zvj (ba:Int) (w:World) (R:Value→World→Prop):Prop :=
 (∃aa,
 zab [] Tryz.prog zaf #[.int .i64 ba,.int .i64 1,.int .i64 20] w (.bool aa) ∧
 R (.bool aa) w)
theorem zx7 (weight):PuV (zvj weight) zeb #[.int .i64 weight]:=pV [] false [] Tryz.func46 (by kernel_rfl) (by kernel_rfl)
def zto (m:Int) (w:World) (R:Value→World→Prop):Prop :=
 R (.bool ((decide (m≥0))&&(decide (m≤15)))) w
theorem zug (m):PuV (zto m) zfd #[.int .i64 m]:=pV [] false [] Tryz.func225 (by kernel_rfl) (by kernel_rfl)
def z2f (m:Int) (w:World) (R:Value→World→Prop):Prop :=
 (∃ok,
 zab [] Tryz.prog zfd #[.int .i64 m] w (.bool ok) ∧
 R (.bool ok) w)
theorem z4p (m):PuV (z2f m) zfw #[.int .i64 m]:=pV [] false [] Tryz.func152 (by kernel_rfl) (by kernel_rfl)
def zvi (m:Int) (w:World) (R:Value→World→Prop):Prop :=
 (∃aa,
 ((m != 0)=true→zab [] Tryz.prog zfw #[.int .i64 m] w (.bool aa)) ∧
 R (.bool ((m != 0)&&aa)) w)
theorem zx6 (m):PuV (zvi m) zf4 #[.int .i64 m]:=pV [] false [] Tryz.func67 (by kernel_rfl) (by kernel_rfl)
def zve (b0 b1 b2:Int) (aa:Option Addr) (ba ca:Nat) (da:Option Addr) (ea fa:Nat) (w:World) (R:Value→World→Prop):Prop :=
 (∀b,w.heap.size≤b →
 R (.bool (((((b0==0)&&(b1==0))&&(b2==0))&&((ba:Int)==0))&&((ea:Int)==0))) w)
theorem zx3 (b0 b1 b2 b3O b3L b3C b4O b4L b4C):PuV (zve b0 b1 b2 b3O b3L b3C b4O b4L b4C) zf2 #[.agg #[.int .i64 b0,.int .i64 b1,.int .i64 b2,.slice b3O b3L b3C,.slice b4O b4L b4C]]:=pV [] false [] Tryz.func271 (by kernel_rfl) (by kernel_rfl)
def ztq (g0:Bool) (g1:Int) (g2:ByteArray) (g3 g4 g5 g6 g7 g8 g9 ba:Int) (ca:Option Addr) (da ea:Nat) (fa:Option Addr) (ga ha:Nat) (ia:Option Addr) (ja ka:Nat) (w:World) (R:Value→World→Prop):Prop :=
 (∀b,w.heap.size≤b →
 (∃aa,
 (((((((((!g0)&&(g1==0))&&(zck g2 (ByteArray.mk [].toArray)))&&(g3==0))&&(g4==0))&&(g5==0))&&(g6==0))&&(g7==0))=true→zab [] Tryz.prog zf2 #[.agg #[.int .i64 g8,.int .i64 g9,.int .i64 ba,.slice ca da ea,.slice fa ga ha]] w (.bool aa)) ∧
 R (.bool ((((((((((!g0)&&(g1==0))&&(zck g2 (ByteArray.mk [].toArray)))&&(g3==0))&&(g4==0))&&(g5==0))&&(g6==0))&&(g7==0))&&aa)&&((ja:Int)==0))) w))
theorem zui (g0 g1 g2 g3 g4 g5 g6 g7 g8 g9 g10 g11O g11L g11C g12O g12L g12C g13O g13L g13C):PuV (ztq g0 g1 g2 g3 g4 g5 g6 g7 g8 g9 g10 g11O g11L g11C g12O g12L g12C g13O g13L g13C) zhm #[.agg #[.bool g0,.int .i64 g1,.string g2,.int .i64 g3,.int .i64 g4,.int .i64 g5,.int .i64 g6,.int .i64 g7,.int .i64 g8,.int .i64 g9,.int .i64 g10,.slice g11O g11L g11C,.slice g12O g12L g12C,.slice g13O g13L g13C]]:=pV [] false [] Tryz.func255 (by kernel_rfl) (by kernel_rfl)
def z2d (b0 b1 b2:Int) (ha:Option Addr) (ia ja:Nat) (ka:Option Addr) (la ma:Nat) (w:World) (R:Value→World→Prop):Prop :=
 (∀b,w.heap.size≤b →
 (∃aa,
 zab [] Tryz.prog zaf #[.int .i64 b0,.int .i64 1,.int .i64 10000] w (.bool aa) ∧
 (∃ba,
 ((!aa)=false→zab [] Tryz.prog zaf #[.int .i64 (ia:Int),.int .i64 1,.int .i64 4] w (.bool ba)) ∧
 ((((!aa)||(!ba))||((la:Int) != (ia:Int)))=true →
 R (.bool false) w) ∧
 ((((!aa)||(!ba))||((la:Int) != (ia:Int)))=false →
 (∃ca,
 zab [] Tryz.prog zaf #[.int .i64 b1,.int .i64 0,.int .i64 b0] w (.bool ca) ∧
 (∃da,
 ((!ca)=false→zab [] Tryz.prog zaf #[.int .i64 b2,.int .i64 0,.int .i64 b0] w (.bool da)) ∧
 (((!ca)||(!da))=true →
 R (.bool false) w) ∧
 (((!ca)||(!da))=false →
 InR .i64 (b1+b2) ∧
 (∃(ea:List Value→Prop) (mu:List Value→Nat),ea [.int .i64 (b1+b2),.int .i64 0] ∧
 ∀(fa x:Int),ea [.int .i64 fa,.int .i64 x] →
 ((decide (x<(ia:Int)))=true →
 Ix ha ia x ∧
 (∃x1,
 zaa [] w ha (Int.toNat x*1) [.int .i64 x1] ∧
 (∃ga,
 zab [] Tryz.prog zaf #[.int .i64 x1,.int .i64 0,.int .i64 b0] w (.bool ga) ∧
 ((!ga)=false→Ix ka la x) ∧
 (∃x2,
 ((!ga)=false→zaa [] w ka (Int.toNat x*1) [.bool x2]) ∧
 (((!ga)||(x2&&((x1 != 0)||(b1 != 0))))=true →
 R (.bool false) w) ∧
 (((!ga)||(x2&&((x1 != 0)||(b1 != 0))))=false →
 InR .i64 (fa+x1) ∧
 InR .i64 (x+1) ∧
 ea [.int .i64 (fa+x1),.int .i64 (x+1)]∧mu [.int .i64 (fa+x1),.int .i64 (x+1)]<mu [.int .i64 fa,.int .i64 x]))))) ∧
 ((decide (x<(ia:Int)))=false →
 R (.bool (fa==b0)) w)))))))))
theorem z4n (b0 b1 b2 b3O b3L b3C b4O b4L b4C):PuV (z2d b0 b1 b2 b3O b3L b3C b4O b4L b4C) zky #[.agg #[.int .i64 b0,.int .i64 b1,.int .i64 b2,.slice b3O b3L b3C,.slice b4O b4L b4C]]:=pV [] false [(7,⟨[(3,.int .i64),(48,.int .i64)],[],[1,46,47],[],[]⟩)] Tryz.func272 (by kernel_rfl) (by kernel_rfl)
def zoy (wv:Option Addr) (g0:Bool) (g1:Int) (g2:ByteArray) (g3 g4 g5 g6 g7 g8 g9 ja:Int) (ka:Option Addr) (la ma:Nat) (na:Option Addr) (oa pa:Nat) (qa:Option Addr) (ra sa:Nat) (w:World) (R:Value→World→Prop):Prop :=
 (∀b,w.heap.size≤b →
 (∃aa,
 zab [] Tryz.prog zf2 #[.agg #[.int .i64 g8,.int .i64 g9,.int .i64 ja,.slice ka la ma,.slice na oa pa]] w (.bool aa) ∧
 (aa=true →
 R (.bool ((g5==0)&&(g6==0))) w) ∧
 (aa=false →
 (∃ba,
 zab [] Tryz.prog zky #[.agg #[.int .i64 g8,.int .i64 g9,.int .i64 ja,.slice ka la ma,.slice na oa pa]] w (.bool ba) ∧
 (ba=true→wv.isSome=true) ∧
 (∃ca da ea,
 (ba=true→zaa [] w wv (0+1) [.slice ca da ea]) ∧
 (∃fa,
 ((ba&&((la:Int)==(da:Int)))=true→zab [] Tryz.prog zaf #[.int .i64 g5,.int .i64 1,.int .i64 1000] w (.bool fa)) ∧
 (((ba&&((la:Int)==(da:Int)))&&fa)=true→wv.isSome=true) ∧
 (∃ga,
 (((ba&&((la:Int)==(da:Int)))&&fa)=true→zaa [] w wv (0+0) [.int .i64 ga]) ∧
 (((ba&&((la:Int)==(da:Int)))&&fa)=true→InR .i64 (ga+1)) ∧
 (((ba&&((la:Int)==(da:Int)))&&fa)=true→wv.isSome=true) ∧
 (∃ha,
 (((ba&&((la:Int)==(da:Int)))&&fa)=true→zaa [] w wv (0+0) [.int .i64 ha]) ∧
 (((ba&&((la:Int)==(da:Int)))&&fa)=true→InR .i64 (ha+g5)) ∧
 (∃ia,
 (((ba&&((la:Int)==(da:Int)))&&fa)=true→zab [] Tryz.prog zaf #[.int .i64 g6,.int .i64 (ga+1),.int .i64 (ha+g5)] w (.bool ia)) ∧
 R (.bool (((ba&&((la:Int)==(da:Int)))&&fa)&&ia)) w)))))))))
theorem zo6 (wv g0 g1 g2 g3 g4 g5 g6 g7 g8 g9 g10 g11O g11L g11C g12O g12L g12C g13O g13L g13C):PuV (zoy wv g0 g1 g2 g3 g4 g5 g6 g7 g8 g9 g10 g11O g11L g11C g12O g12L g12C g13O g13L g13C) zdi #[.pointer wv,.agg #[.bool g0,.int .i64 g1,.string g2,.int .i64 g3,.int .i64 g4,.int .i64 g5,.int .i64 g6,.int .i64 g7,.int .i64 g8,.int .i64 g9,.int .i64 g10,.slice g11O g11L g11C,.slice g12O g12L g12C,.slice g13O g13L g13C]]:=pV [] false [] Tryz.func256 (by kernel_rfl) (by kernel_rfl)
def znj (wv:Option Addr) (w:World) (R:Value→World→Prop):Prop :=
 wv.isSome=true ∧
 (∃aa ba ca,
 zaa [] w wv (0+3) [.slice aa ba ca] ∧
 (∃(da:List Value→Prop) (mu:List Value→Nat),da [.int .i64 0] ∧
 ∀(x:Int),da [.int .i64 x] →
 ((decide (x<(ba:Int)))=true →
 Ix aa ba x ∧
 (∃(x0:Bool) (x1:Int) (x2:ByteArray) (x3 x4 x5 x6 x7 x8 x9 ea:Int) (fa:Option Addr) (ga ha:Nat) (ia:Option Addr) (ja ka:Nat) (la:Option Addr) (ma na:Nat),
 zaa [] w aa (Int.toNat x*14) [.bool x0,.int .i64 x1,.string x2,.int .i64 x3,.int .i64 x4,.int .i64 x5,.int .i64 x6,.int .i64 x7,.int .i64 x8,.int .i64 x9,.int .i64 ea,.slice fa ga ha,.slice ia ja ka,.slice la ma na] ∧
 (∀b,w.heap.size≤b →
 ((!x0)=true →
 (∃oa,
 zab [] Tryz.prog zhm #[.agg #[.bool x0,.int .i64 x1,.string x2,.int .i64 x3,.int .i64 x4,.int .i64 x5,.int .i64 x6,.int .i64 x7,.int .i64 x8,.int .i64 x9,.int .i64 ea,.slice fa ga ha,.slice ia ja ka,.slice la ma na]] w (.bool oa) ∧
 ((!oa)=true →
 R (.bool false) w) ∧
 ((!oa)=false →
 InR .i64 (x+1) ∧
 da [.int .i64 (x+1)]∧mu [.int .i64 (x+1)]<mu [.int .i64 x]))) ∧
 ((!x0)=false →
 (∃pa,
 zab [] Tryz.prog zeb #[.int .i64 x3] w (.bool pa) ∧
 (∃qa,
 ((!pa)=false→zab [] Tryz.prog zf4 #[.int .i64 x4] w (.bool qa)) ∧
 (((!pa)||(!qa))=false→(∀b1,w.heap.size≤b1 →
 (∃ra,
 (((!pa)||(!qa))=false→(∀wx,ExtX [] w wx→wx.heap[b1]? = some (Obj.cells ([.int .i64 x7]:List Value).toArray ty_int (0,0))→zab [] Tryz.prog zbq #[.slice (some (Addr.mk b1 0 none)) 1 1] wx (.bool ra))) ∧
 ((((!pa)||(!qa))||(!ra))=false→wv.isSome=true) ∧
 (∃sa ta ua,
 ((((!pa)||(!qa))||(!ra))=false→zaa [] w wv (0+1) [.slice sa ta ua]) ∧
 (∃va,
 (((((!pa)||(!qa))||(!ra))||((ma:Int) != (ta:Int)))=false→zab [] Tryz.prog zdi #[.pointer wv,.agg #[.bool x0,.int .i64 x1,.string x2,.int .i64 x3,.int .i64 x4,.int .i64 x5,.int .i64 x6,.int .i64 x7,.int .i64 x8,.int .i64 x9,.int .i64 ea,.slice fa ga ha,.slice ia ja ka,.slice la ma na]] w (.bool va)) ∧
 ((((((!pa)||(!qa))||(!ra))||((ma:Int) != (ta:Int)))||(!va))=true →
 R (.bool false) w) ∧
 ((((((!pa)||(!qa))||(!ra))||((ma:Int) != (ta:Int)))||(!va))=false →
 InR .i64 (x+1) ∧
 da [.int .i64 (x+1)]∧mu [.int .i64 (x+1)]<mu [.int .i64 x])))))) ∧
 ((((!pa)||(!qa))=false→False) →
 (true=false→wv.isSome=true) ∧
 (∃wa xa ya,
 (true=false→zaa [] w wv (0+1) [.slice wa xa ya]) ∧
 (∃za,
 ((true||((ma:Int) != (xa:Int)))=false→zab [] Tryz.prog zdi #[.pointer wv,.agg #[.bool x0,.int .i64 x1,.string x2,.int .i64 x3,.int .i64 x4,.int .i64 x5,.int .i64 x6,.int .i64 x7,.int .i64 x8,.int .i64 x9,.int .i64 ea,.slice fa ga ha,.slice ia ja ka,.slice la ma na]] w (.bool za)) ∧
 (((true||((ma:Int) != (xa:Int)))||(!za))=true →
 R (.bool false) w) ∧
 (((true||((ma:Int) != (xa:Int)))||(!za))=false →
 InR .i64 (x+1) ∧
 da [.int .i64 (x+1)]∧mu [.int .i64 (x+1)]<mu [.int .i64 x])))))))))) ∧
 ((decide (x<(ba:Int)))=false →
 wv.isSome=true ∧
 (∃ab bb cb,
 zaa [] w wv (0+3) [.slice ab bb cb] ∧
 Ix ab bb 0 ∧
 (∃(db:Bool) (eb:Int) (fb:ByteArray) (gb hb ib jb kb lb mb nb:Int) (ob:Option Addr) (pb qb:Nat) (rb:Option Addr) (sb tb:Nat) (ub:Option Addr) (vb wb:Nat),
 zaa [] w ab (Int.toNat 0*14) [.bool db,.int .i64 eb,.string fb,.int .i64 gb,.int .i64 hb,.int .i64 ib,.int .i64 jb,.int .i64 kb,.int .i64 lb,.int .i64 mb,.int .i64 nb,.slice ob pb qb,.slice rb sb tb,.slice ub vb wb] ∧
 (∀b2,w.heap.size≤b2 →
 R (.bool (((gb==10)&&(hb==15))&&(lb==0))) w))))))
theorem zob (wv):PuV (znj wv) zc3 #[.pointer wv]:=pV [] false [(2,⟨[(11,.int .i64)],[],[0,9,10],[],[]⟩)] Tryz.func216 (by kernel_rfl) (by kernel_rfl)
def zrx (wv:Option Addr) (aa:Int) (w:World) (R:Value→World→Prop):Prop :=
 (∀b,w.heap.size≤b →
 R (.agg #[.pointer wv,.int .i64 aa]) w)
theorem zsm (wv cpu):PuV (zrx wv cpu) zbe #[.pointer wv,.int .i64 cpu]:=pV [] false [] Tryz.func49 (by kernel_rfl) (by kernel_rfl)
def z2j (ba:Int) (w:World) (R:Value→World→Prop):Prop :=
 (∃aa,
 zab [] Tryz.prog zaf #[.int .i64 ba,.int .i64 (-10),.int .i64 9] w (.bool aa) ∧
 R (.bool aa) w)
theorem z4r (nice):PuV (z2j nice) zh2 #[.int .i64 nice]:=pV [] false [] Tryz.func82 (by kernel_rfl) (by kernel_rfl)
def zr3 (p0:Option Addr) (p1 g:Int) (w:World) (R:Value→World→Prop):Prop :=
 (∀b,w.heap.size≤b →
 p0.isSome=true ∧
 (∃aa ba ca,
 zaa [] w p0 (0+3) [.slice aa ba ca] ∧
 Ix aa ba g ∧
 (∃da ea fa,
 zaa [] w aa (Int.toNat g*14+13) [.slice da ea fa] ∧
 Ix da ea p1 ∧
 R (.pointer (da.map (·.add (Int.toNat p1*5)))) w)))
theorem zsr (p0 p1 g):PuV (zr3 p0 p1 g) zah #[.agg #[.pointer p0,.int .i64 p1],.int .i64 g]:=pV [] false [] Tryz.func88 (by kernel_rfl) (by kernel_rfl)
def zy8 (a b:Int) (w:World) (R:Value→World→Prop):Prop :=
 (∃aa,
 zab [] Tryz.prog zfw #[.int .i64 a] w (.bool aa) ∧
 (∃ba,
 ((!aa)=false→zab [] Tryz.prog zfw #[.int .i64 b] w (.bool ba)) ∧
 (((!aa)||(!ba))=true →
 R (.int .i64 0) w) ∧
 (((!aa)||(!ba))=false →
 R (.int .i64 (BitI .and .i64 a b)) w)))
theorem z0q (a b):PuV (zy8 a b) ze0 #[.int .i64 a,.int .i64 b]:=pV [] false [] Tryz.func164 (by kernel_rfl) (by kernel_rfl)
def zry (wv:Option Addr) (g:Int) (w:World) (R:Value→World→Prop):Prop :=
 (∃aa,
 zab [] Tryz.prog zcm #[.pointer wv] w (.int .i64 aa) ∧
 (∃(ba:List Value→Prop) (mu:List Value→Nat),ba [.int .i64 g,.int .i64 aa] ∧
 ∀(g1 ca:Int),ba [.int .i64 g1,.int .i64 ca] →
 ((g1 != 0)=true →
 wv.isSome=true ∧
 (∃da ea fa,
 zaa [] w wv (0+3) [.slice da ea fa] ∧
 Ix da ea g1 ∧
 (∃ga,
 zaa [] w da (Int.toNat g1*14+4) [.int .i64 ga] ∧
 (∃ha,
 zab [] Tryz.prog ze0 #[.int .i64 ca,.int .i64 ga] w (.int .i64 ha) ∧
 wv.isSome=true ∧
 (∃ia ja ka,
 zaa [] w wv (0+3) [.slice ia ja ka] ∧
 Ix ia ja g1 ∧
 (∃la,
 zaa [] w ia (Int.toNat g1*14+1) [.int .i64 la] ∧
 ba [.int .i64 la,.int .i64 ha]∧mu [.int .i64 la,.int .i64 ha]<mu [.int .i64 g1,.int .i64 ca])))))) ∧
 ((g1 != 0)=false →
 wv.isSome=true ∧
 (∃ma na oa,
 zaa [] w wv (0+3) [.slice ma na oa] ∧
 Ix ma na 0 ∧
 (∃pa,
 zaa [] w ma (Int.toNat 0*14+4) [.int .i64 pa] ∧
 (∃qa,
 zab [] Tryz.prog ze0 #[.int .i64 ca,.int .i64 pa] w (.int .i64 qa) ∧
 R (.int .i64 qa) w))))))
theorem zsn (wv g):PuV (zry wv g) zgo #[.pointer wv,.int .i64 g]:=pV [] false [(2,⟨[(1,.int .i64),(5,.int .i64)],[],[0],[],[]⟩)] Tryz.func163 (by kernel_rfl) (by kernel_rfl)
def zm4 (wv:Option Addr) (da g:Int) (w:World) (R:Value→World→Prop):Prop :=
 (∃aa,
 zab [] Tryz.prog zgo #[.pointer wv,.int .i64 g] w (.int .i64 aa) ∧
 (∃ba,
 zab [] Tryz.prog ze0 #[.int .i64 da,.int .i64 aa] w (.int .i64 ba) ∧
 ((ba != 0)=true →
 R (.int .i64 ba) w) ∧
 ((ba != 0)=false →
 ((aa != 0)=true →
 R (.int .i64 aa) w) ∧
 ((aa != 0)=false →
 (∃ca,
 zab [] Tryz.prog zcm #[.pointer wv] w (.int .i64 ca) ∧
 R (.int .i64 ca) w)))))
theorem znc (wv mask g):PuV (zm4 wv mask g) zd2 #[.pointer wv,.int .i64 mask,.int .i64 g]:=pV [] false [] Tryz.func87 (by kernel_rfl) (by kernel_rfl)
def zox (wv:Option Addr) (ja:Int) (w:World) (R:Value→World→Prop):Prop :=
 wv.isSome=true ∧
 (∃aa ba ca,
 zaa [] w wv (0+2) [.slice aa ba ca] ∧
 Ix aa ba ja ∧
 (∃da,
 zaa [] w aa (Int.toNat ja*9+4) [.int .i64 da] ∧
 wv.isSome=true ∧
 (∃ea fa ga,
 zaa [] w wv (0+2) [.slice ea fa ga] ∧
 Ix ea fa ja ∧
 (∃ha,
 zaa [] w ea (Int.toNat ja*9+1) [.int .i64 ha] ∧
 (∃ia,
 zab [] Tryz.prog zd2 #[.pointer wv,.int .i64 da,.int .i64 ha] w (.int .i64 ia) ∧
 R (.int .i64 ia) w)))))
theorem zo5 (wv task):PuV (zox wv task) ze1 #[.pointer wv,.int .i64 task]:=pV [] false [] Tryz.func100 (by kernel_rfl) (by kernel_rfl)
def zr0 (m ba:Int) (w:World) (R:Value→World→Prop):Prop :=
 (∃ok,
 zab [] Tryz.prog zfd #[.int .i64 m] w (.bool ok) ∧
 (∃aa,
 (ok=true→zab [] Tryz.prog zaf #[.int .i64 ba,.int .i64 0,.int .i64 3] w (.bool aa)) ∧
 ((ok&&aa)=true→0≤ba) ∧
 R (.bool ((ok&&aa)&&((BitI .and .i64 (Int.fdiv m (2 ^ (min (Int.toNat ba) 64))) 1)==1))) w))
theorem zsp (m cpu):PuV (zr0 m cpu) zgr #[.int .i64 m,.int .i64 cpu]:=pV [] false [] Tryz.func226 (by kernel_rfl) (by kernel_rfl)
def zy9 (m ba:Int) (w:World) (R:Value→World→Prop):Prop :=
 (∃aa,
 zab [] Tryz.prog zgr #[.int .i64 m,.int .i64 ba] w (.bool aa) ∧
 R (.bool aa) w)
theorem z0r (m cpu):PuV (zy9 m cpu) zjn #[.int .i64 m,.int .i64 cpu]:=pV [] false [] Tryz.func153 (by kernel_rfl) (by kernel_rfl)
def zvb (ba:Int) (w:World) (R:Value→World→Prop):Prop :=
 (∃aa,
 zab [] Tryz.prog zh2 #[.int .i64 ba] w (.bool aa) ∧
 ((!aa)=true →
 R (.int .i64 0) w) ∧
 ((!aa)=false →
 InR .i64 (10 - ba) ∧
 R (.int .i64 (10 - ba)) w))
theorem zx2 (nice):PuV (zvb nice) zea #[.int .i64 nice]:=pV [] false [] Tryz.func228 (by kernel_rfl) (by kernel_rfl)
def z2i (ba:Int) (w:World) (R:Value→World→Prop):Prop :=
 (∃aa,
 zab [] Tryz.prog zaf #[.int .i64 ba,.int .i64 0,.int .i64 8000000] w (.bool aa) ∧
 R (.bool aa) w)
theorem z4q (load):PuV (z2i load) zk2 #[.int .i64 load]:=pV [] false [] Tryz.func257 (by kernel_rfl) (by kernel_rfl)
def zqm (w:World) (R:Value→World→Prop):Prop :=
 (∀b,w.heap.size≤b →
 (∀b1,w.heap.size≤b1 →
 (∃(aa:List Value→Prop) (ba:List Value→Nat),aa [.int .i64 1,.int .i64 0,.int .i64 0,.int .i64 0,.int .i64 0,.int .i64 0,.int .i64 0,.int .i64 0,.int .i64 0,.int .i64 0,.int .i64 0,.int .i64 0,.int .i64 0,.int .i64 0,.int .i64 0,.int .i64 0,.int .i64 0,.int .i64 0,.int .i64 0,.int .i64 0,.int .i64 0,.int .i64 0] ∧
 ∀(ca l l1 l2 l3 l4 l5 l6 l7 l8 l9 da ea fa ga ha ia ja ka la ma na:Int),aa [.int .i64 ca,.int .i64 l,.int .i64 l1,.int .i64 l2,.int .i64 l3,.int .i64 l4,.int .i64 l5,.int .i64 l6,.int .i64 l7,.int .i64 l8,.int .i64 l9,.int .i64 da,.int .i64 ea,.int .i64 fa,.int .i64 ga,.int .i64 ha,.int .i64 ia,.int .i64 ja,.int .i64 ka,.int .i64 la,.int .i64 ma,.int .i64 na] →
 ((decide (ca≤20))=true →
 (ca≠0∧InR .i64 (Int.tdiv 232792560 ca)) ∧
 (0≤ca∧ca<(21:Int)) ∧
 (Int.toNat ca+0<21) ∧
 (∃oa pa qa ra sa ta ua va wa xa ya za ab bb cb db eb fb gb hb ib,
 ([.int .i64 l,.int .i64 l1,.int .i64 l2,.int .i64 l3,.int .i64 l4,.int .i64 l5,.int .i64 l6,.int .i64 l7,.int .i64 l8,.int .i64 l9,.int .i64 da,.int .i64 ea,.int .i64 fa,.int .i64 ga,.int .i64 ha,.int .i64 ia,.int .i64 ja,.int .i64 ka,.int .i64 la,.int .i64 ma,.int .i64 na]:List Value).set (Int.toNat ca+0) (.int .i64 (Int.tdiv 232792560 ca))=[.int .i64 oa,.int .i64 pa,.int .i64 qa,.int .i64 ra,.int .i64 sa,.int .i64 ta,.int .i64 ua,.int .i64 va,.int .i64 wa,.int .i64 xa,.int .i64 ya,.int .i64 za,.int .i64 ab,.int .i64 bb,.int .i64 cb,.int .i64 db,.int .i64 eb,.int .i64 fb,.int .i64 gb,.int .i64 hb,.int .i64 ib] ∧
 InR .i64 (ca+1) ∧
 aa [.int .i64 (ca+1),.int .i64 oa,.int .i64 pa,.int .i64 qa,.int .i64 ra,.int .i64 sa,.int .i64 ta,.int .i64 ua,.int .i64 va,.int .i64 wa,.int .i64 xa,.int .i64 ya,.int .i64 za,.int .i64 ab,.int .i64 bb,.int .i64 cb,.int .i64 db,.int .i64 eb,.int .i64 fb,.int .i64 gb,.int .i64 hb,.int .i64 ib]∧ba [.int .i64 (ca+1),.int .i64 oa,.int .i64 pa,.int .i64 qa,.int .i64 ra,.int .i64 sa,.int .i64 ta,.int .i64 ua,.int .i64 va,.int .i64 wa,.int .i64 xa,.int .i64 ya,.int .i64 za,.int .i64 ab,.int .i64 bb,.int .i64 cb,.int .i64 db,.int .i64 eb,.int .i64 fb,.int .i64 gb,.int .i64 hb,.int .i64 ib]<ba [.int .i64 ca,.int .i64 l,.int .i64 l1,.int .i64 l2,.int .i64 l3,.int .i64 l4,.int .i64 l5,.int .i64 l6,.int .i64 l7,.int .i64 l8,.int .i64 l9,.int .i64 da,.int .i64 ea,.int .i64 fa,.int .i64 ga,.int .i64 ha,.int .i64 ia,.int .i64 ja,.int .i64 ka,.int .i64 la,.int .i64 ma,.int .i64 na])) ∧
 ((decide (ca≤20))=false →
 R (.agg #[.int .i64 l,.int .i64 l1,.int .i64 l2,.int .i64 l3,.int .i64 l4,.int .i64 l5,.int .i64 l6,.int .i64 l7,.int .i64 l8,.int .i64 l9,.int .i64 da,.int .i64 ea,.int .i64 fa,.int .i64 ga,.int .i64 ha,.int .i64 ia,.int .i64 ja,.int .i64 ka,.int .i64 la,.int .i64 ma,.int .i64 na]) w))))
theorem zrj:PuV zqm zgb #[]:=pV [] false [(3,⟨[(2,.int .i64)],[(1,[.int .i64,.int .i64,.int .i64,.int .i64,.int .i64,.int .i64,.int .i64,.int .i64,.int .i64,.int .i64,.int .i64,.int .i64,.int .i64,.int .i64,.int .i64,.int .i64,.int .i64,.int .i64,.int .i64,.int .i64,.int .i64])],[0,1],[],[]⟩)] Tryz.func269 (by kernel_rfl) (by kernel_rfl)
def zqg (xa ya:Int) (w:World) (R:Value→World→Prop):Prop :=
 (∃aa,
 zab [] Tryz.prog zaf #[.int .i64 xa,.int .i64 0,.int .i64 100000000] w (.bool aa) ∧
 (∃ba,
 ((!aa)=false→zab [] Tryz.prog zeb #[.int .i64 ya] w (.bool ba)) ∧
 (((!aa)||(!ba))=true →
 R (.int .i64 0) w) ∧
 (((!aa)||(!ba))=false →
 (∃ca da ea fa ga ha ia ja ka la ma na oa pa qa ra sa ta ua va wa,
 zab [] Tryz.prog zgb #[] w (.agg #[.int .i64 ca,.int .i64 da,.int .i64 ea,.int .i64 fa,.int .i64 ga,.int .i64 ha,.int .i64 ia,.int .i64 ja,.int .i64 ka,.int .i64 la,.int .i64 ma,.int .i64 na,.int .i64 oa,.int .i64 pa,.int .i64 qa,.int .i64 ra,.int .i64 sa,.int .i64 ta,.int .i64 ua,.int .i64 va,.int .i64 wa]) ∧
 (∃x,
 (0≤ya∧ya<(21:Int)∧(#[.int .i64 ca,.int .i64 da,.int .i64 ea,.int .i64 fa,.int .i64 ga,.int .i64 ha,.int .i64 ia,.int .i64 ja,.int .i64 ka,.int .i64 la,.int .i64 ma,.int .i64 na,.int .i64 oa,.int .i64 pa,.int .i64 qa,.int .i64 ra,.int .i64 sa,.int .i64 ta,.int .i64 ua,.int .i64 va,.int .i64 wa]:Array Value)[Int.toNat ya]? = some (.int .i64 x)) ∧
 InR .i64 (xa*x) ∧
 R (.int .i64 (xa*x)) w)))))
theorem zre (units weight):PuV (zqg units weight) zbv #[.int .i64 units,.int .i64 weight]:=pV [] false [] Tryz.func248 (by kernel_rfl) (by kernel_rfl)
def zy7 (ba:Int) (w:World) (R:Value→World→Prop):Prop :=
 (∃aa,
 zab [] Tryz.prog zbv #[.int .i64 149,.int .i64 ba] w (.int .i64 aa) ∧
 R (.int .i64 aa) w)
theorem z0p (weight):PuV (zy7 weight) zgn #[.int .i64 weight]:=pV [] false [] Tryz.func204 (by kernel_rfl) (by kernel_rfl)
def z2k (v ba ca:Int) (w:World) (R:Value→World→Prop):Prop :=
 ((decide (v≥ba))=true→InR .i64 (v - ba)) ∧
 (∃aa,
 ((decide (v≥ba))=true→zab [] Tryz.prog zgn #[.int .i64 ca] w (.int .i64 aa)) ∧
 R (.bool ((decide (v≥ba))&&(decide (v - ba≤aa)))) w)
theorem z4s (v floor weight):PuV (z2k v floor weight) zh3 #[.int .i64 v,.int .i64 floor,.int .i64 weight]:=pV [] false [] Tryz.func258 (by kernel_rfl) (by kernel_rfl)
def zo0 (wv:Option Addr) (w:World) (R:Value→World→Prop):Prop :=
 wv.isSome=true ∧
 (∃aa ba ca,
 zaa [] w wv (0+2) [.slice aa ba ca] ∧
 (∃(da:List Value→Prop) (mu:List Value→Nat),da [.int .i64 0] ∧
 ∀(x:Int),da [.int .i64 x] →
 ((decide (x<(ba:Int)))=true →
 Ix aa ba x ∧
 (∃x0 x1 x2 x3 x4 x5 x6 x7 x8,
 zaa [] w aa (Int.toNat x*9) [.int .i64 x0,.int .i64 x1,.int .i64 x2,.int .i64 x3,.int .i64 x4,.int .i64 x5,.int .i64 x6,.int .i64 x7,.int .i64 x8] ∧
 (∀b,w.heap.size≤b →
 (∃eq,
 (∀wq,((do eqGuard .eql zap (.tmp 16) (.tmp 17) (.agg #[.int .i64 x0,.int .i64 x1,.int .i64 x2,.int .i64 x3,.int .i64 x4,.int .i64 x5,.int .i64 x6,.int .i64 x7,.int .i64 x8]) (.agg #[.int .i64 0,.int .i64 0,.int .i64 0,.int .i64 0,.int .i64 0,.int .i64 0,.int .i64 0,.int .i64 0,.int .i64 0]); binOp .eql zap (.agg #[.int .i64 x0,.int .i64 x1,.int .i64 x2,.int .i64 x3,.int .i64 x4,.int .i64 x5,.int .i64 x6,.int .i64 x7,.int .i64 x8]) (.agg #[.int .i64 0,.int .i64 0,.int .i64 0,.int .i64 0,.int .i64 0,.int .i64 0,.int .i64 0,.int .i64 0,.int .i64 0])):Sem Value).run Tryz.prog wq = .ok (.bool eq) wq) ∧
 (eq=true →
 InR .i64 (x+1) ∧
 da [.int .i64 (x+1)]∧mu [.int .i64 (x+1)]<mu [.int .i64 x]) ∧
 (eq=false →
 (((x0 != 1)&&(x0 != 2))=false→wv.isSome=true) ∧
 (∃ea fa ga,
 (((x0 != 1)&&(x0 != 2))=false→zaa [] w wv (0+3) [.slice ea fa ga]) ∧
 (∃ha,
 (((x0 != 1)&&(x0 != 2))=false→zab [] Tryz.prog zfe #[.slice ea fa ga,.int .i64 x1] w (.bool ha)) ∧
 (∃ia,
 ((((x0 != 1)&&(x0 != 2))||(!ha))=false→zab [] Tryz.prog zh2 #[.int .i64 x3] w (.bool ia)) ∧
 (∃ja,
 (((((x0 != 1)&&(x0 != 2))||(!ha))||(!ia))=false→zab [] Tryz.prog zf4 #[.int .i64 x4] w (.bool ja)) ∧
 ((((((x0 != 1)&&(x0 != 2))||(!ha))||(!ia))||(!ja))=true →
 R (.bool false) w) ∧
 ((((((x0 != 1)&&(x0 != 2))||(!ha))||(!ia))||(!ja))=false →
 (∀b1,w.heap.size≤b1 →
 (∃ka,
 (∀wx,ExtX [] w wx→wx.heap[b1]? = some (Obj.cells ([.int .i64 x5,.int .i64 x6,.int .i64 x7]:List Value).toArray ty_int (0,0))→zab [] Tryz.prog zbq #[.slice (some (Addr.mk b1 0 none)) 3 3] wx (.bool ka)) ∧
 (∃la,
 ((!ka)=false→zab [] Tryz.prog zk2 #[.int .i64 x8] w (.bool la)) ∧
 (∃ma,
 (((!ka)||(!la))=false→zab [] Tryz.prog ze1 #[.pointer wv,.int .i64 x] w (.int .i64 ma)) ∧
 (∃na,
 (((!ka)||(!la))=false→zab [] Tryz.prog zjn #[.int .i64 ma,.int .i64 x2] w (.bool na)) ∧
 ((((!ka)||(!la))||(!na))=true →
 R (.bool false) w) ∧
 ((((!ka)||(!la))||(!na))=false →
 (∃oa pa,
 zab [] Tryz.prog zbe #[.pointer wv,.int .i64 x2] w (.agg #[.pointer oa,.int .i64 pa]) ∧
 (∃qa,
 zab [] Tryz.prog zah #[.agg #[.pointer oa,.int .i64 pa],.int .i64 x1] w (.pointer qa) ∧
 qa.isSome=true ∧
 (∃ra,
 zaa [] w qa (0+0) [.int .i64 ra] ∧
 ((x0==1)=true→(∀b2,w.heap.size≤b2 →
 (∃sa,
 ((x0==1)=true→(∀ta,ExtX [] w ta→ta.heap[b2]? = some (Obj.cells ([.int .i64 ra]:List Value).toArray ty_int (0,0))→zab [] Tryz.prog zbq #[.slice (some (Addr.mk b2 0 none)) 1 1] ta (.bool sa))) ∧
 (∃ua,
 ((!sa)=false→((x0==1)=true→zab [] Tryz.prog zea #[.int .i64 x3] w (.int .i64 ua))) ∧
 (∃va,
 ((!sa)=false→((x0==1)=true→zab [] Tryz.prog zh3 #[.int .i64 x5,.int .i64 ra,.int .i64 ua] w (.bool va))) ∧
 (((x0==1)&&((!sa)||(!va)))=true →
 R (.bool false) w) ∧
 (((x0==1)&&((!sa)||(!va)))=false →
 InR .i64 (x+1) ∧
 da [.int .i64 (x+1)]∧mu [.int .i64 (x+1)]<mu [.int .i64 x])))))) ∧
 (((x0==1)=true→False) →
 (false=true →
 R (.bool false) w) ∧
 (false=false →
 InR .i64 (x+1) ∧
 da [.int .i64 (x+1)]∧mu [.int .i64 (x+1)]<mu [.int .i64 x]))))))))))))))))))))) ∧
 ((decide (x<(ba:Int)))=false →
 R (.bool true) w)))
theorem zo8 (wv):PuV (zo0 wv) zdk #[.pointer wv]:=pV [] false [(2,⟨[(11,.int .i64)],[],[0,9,10],[],[]⟩)] Tryz.func217 (by kernel_rfl) (by kernel_rfl)
def zql (p0:Option Addr) (p1 da g:Int) (w:World) (R:Value→World→Prop):Prop :=
 (∀b,w.heap.size≤b →
 p0.isSome=true ∧
 (∃aa ba ca,
 zaa [] w p0 (0+2) [.slice aa ba ca] ∧
 Ix aa ba da ∧
 (∃x0 x1 x2 x3 x4 x5 x6 x7 x8,
 zaa [] w aa (Int.toNat da*9) [.int .i64 x0,.int .i64 x1,.int .i64 x2,.int .i64 x3,.int .i64 x4,.int .i64 x5,.int .i64 x6,.int .i64 x7,.int .i64 x8] ∧
 (∀b1,w.heap.size≤b1 →
 R (.bool (((x0==1)&&(x1==g))&&(x2==p1))) w))))
theorem zri (p0 p1 task g):PuV (zql p0 p1 task g) zcy #[.agg #[.pointer p0,.int .i64 p1],.int .i64 task,.int .i64 g]:=pV [] false [] Tryz.func207 (by kernel_rfl) (by kernel_rfl)
def zr2 (p0:Option Addr) (p1 ka g:Int) (w:World) (R:Value→World→Prop):Prop :=
 (∀b,w.heap.size≤b →
 ((ka != 0)=true→p0.isSome=true) ∧
 (∃aa ba ca,
 ((ka != 0)=true→zaa [] w p0 (0+3) [.slice aa ba ca]) ∧
 ((ka != 0)=true→Ix aa ba ka) ∧
 (∃da,
 ((ka != 0)=true→zaa [] w aa (Int.toNat ka*14+0) [.bool da]) ∧
 (((ka != 0)&&da)=true→p0.isSome=true) ∧
 (∃ea fa ga,
 (((ka != 0)&&da)=true→zaa [] w p0 (0+3) [.slice ea fa ga]) ∧
 (((ka != 0)&&da)=true→Ix ea fa ka) ∧
 (∃ha,
 (((ka != 0)&&da)=true→zaa [] w ea (Int.toNat ka*14+1) [.int .i64 ha]) ∧
 (∃ia,
 ((((ka != 0)&&da)&&(ha==g))=true→zab [] Tryz.prog zah #[.agg #[.pointer p0,.int .i64 p1],.int .i64 ka] w (.pointer ia)) ∧
 ((((ka != 0)&&da)&&(ha==g))=true→ia.isSome=true) ∧
 (∃ja,
 ((((ka != 0)&&da)&&(ha==g))=true→zaa [] w ia (0+1) [.bool ja]) ∧
 R (.bool ((((ka != 0)&&da)&&(ha==g))&&ja)) w)))))))
theorem zsq (p0 p1 kid g):PuV (zr2 p0 p1 kid g) zdl #[.agg #[.pointer p0,.int .i64 p1],.int .i64 kid,.int .i64 g]:=pV [] false [] Tryz.func208 (by kernel_rfl) (by kernel_rfl)
def zqi (p0:Option Addr) (p1 g:Int) (w:World) (R:Value→World→Prop):Prop :=
 (∀b,w.heap.size≤b →
 p0.isSome=true ∧
 (∃aa ba ca,
 zaa [] w p0 (0+2) [.slice aa ba ca] ∧
 (∃(da:List Value→Prop) (mu:List Value→Nat),da [.int .i64 0] ∧
 ∀(x:Int),da [.int .i64 x] →
 ((decide (x<(ba:Int)))=true →
 (∃ea,
 zab [] Tryz.prog zcy #[.agg #[.pointer p0,.int .i64 p1],.int .i64 x,.int .i64 g] w (.bool ea) ∧
 (ea=true →
 R (.bool true) w) ∧
 (ea=false →
 InR .i64 (x+1) ∧
 da [.int .i64 (x+1)]∧mu [.int .i64 (x+1)]<mu [.int .i64 x]))) ∧
 ((decide (x<(ba:Int)))=false →
 p0.isSome=true ∧
 (∃fa ga ha,
 zaa [] w p0 (0+3) [.slice fa ga ha] ∧
 (∃(ia:List Value→Prop) (ja:List Value→Nat),ia [.int .i64 0] ∧
 ∀(x1:Int),ia [.int .i64 x1] →
 ((decide (x1<(ga:Int)))=true →
 (∃ka,
 zab [] Tryz.prog zdl #[.agg #[.pointer p0,.int .i64 p1],.int .i64 x1,.int .i64 g] w (.bool ka) ∧
 (ka=true →
 R (.bool true) w) ∧
 (ka=false →
 InR .i64 (x1+1) ∧
 ia [.int .i64 (x1+1)]∧ja [.int .i64 (x1+1)]<ja [.int .i64 x1]))) ∧
 ((decide (x1<(ga:Int)))=false →
 R (.bool false) w)))))))
theorem zrg (p0 p1 g):PuV (zqi p0 p1 g) zcx #[.agg #[.pointer p0,.int .i64 p1],.int .i64 g]:=pV [] false [(2,⟨[(13,.int .i64)],[],[1,2,12],[],[]⟩),(8,⟨[(27,.int .i64)],[],[1,2,26],[],[]⟩)] Tryz.func133 (by kernel_rfl) (by kernel_rfl)
def zvg (p0:Option Addr) (p1 g:Int) (w:World) (R:Value→World→Prop):Prop :=
 (∀b,w.heap.size≤b →
 p0.isSome=true ∧
 (∃aa ba ca,
 zaa [] w p0 (0+3) [.slice aa ba ca] ∧
 Ix aa ba g ∧
 (∃da ea fa ga ha ia ja ka la,
 zaa [] w aa (Int.toNat g*14+8) [.int .i64 da,.int .i64 ea,.int .i64 fa,.slice ga ha ia,.slice ja ka la] ∧
 (∀b1,w.heap.size≤b1 →
 ((decide (da>0))=true→Ix ja ka p1) ∧
 (∃x,
 ((decide (da>0))=true→zaa [] w ja (Int.toNat p1*1) [.bool x]) ∧
 R (.bool ((decide (da>0))&&x)) w)))))
theorem zx5 (p0 p1 g):PuV (zvg p0 p1 g) zf3 #[.agg #[.pointer p0,.int .i64 p1],.int .i64 g]:=pV [] false [] Tryz.func206 (by kernel_rfl) (by kernel_rfl)
def zm5 (wv:Option Addr) (w:World) (R:Value→World→Prop):Prop :=
 wv.isSome=true ∧
 (∃aa ba ca,
 zaa [] w wv (0+3) [.slice aa ba ca] ∧
 (∃(da:List Value→Prop) (mu:List Value→Nat),da [.int .i64 0] ∧
 ∀(x:Int),da [.int .i64 x] →
 ((decide (x<(ba:Int)))=true →
 Ix aa ba x ∧
 (∃(x0:Bool) (x1:Int) (x2:ByteArray) (x3 x4 x5 x6 x7 x8 x9 ea:Int) (fa:Option Addr) (ga ha:Nat) (ia:Option Addr) (ja ka:Nat) (la:Option Addr) (ma na:Nat),
 zaa [] w aa (Int.toNat x*14) [.bool x0,.int .i64 x1,.string x2,.int .i64 x3,.int .i64 x4,.int .i64 x5,.int .i64 x6,.int .i64 x7,.int .i64 x8,.int .i64 x9,.int .i64 ea,.slice fa ga ha,.slice ia ja ka,.slice la ma na] ∧
 (∀b,w.heap.size≤b →
 (∃(oa:List Value→Prop) (pa:List Value→Nat),oa [.int .i64 0] ∧
 ∀(qa:Int),oa [.int .i64 qa] →
 ((decide (qa<(ma:Int)))=true →
 Ix la ma qa ∧
 (∃ra sa ta ua va,
 zaa [] w la (Int.toNat qa*5) [.int .i64 ra,.bool sa,.int .i64 ta,.int .i64 ua,.int .i64 va] ∧
 (∀b1,w.heap.size≤b1 →
 (∀b2,w.heap.size≤b2 →
 (∃wa,
 (∀wx,ExtX [] w wx→wx.heap[b2]? = some (Obj.cells ([.int .i64 ra,.int .i64 ta,.int .i64 va]:List Value).toArray ty_int (0,0))→zab [] Tryz.prog zbq #[.slice (some (Addr.mk b2 0 none)) 3 3] wx (.bool wa)) ∧
 (∃xa,
 ((!wa)=false→zab [] Tryz.prog zeb #[.int .i64 ua] w (.bool xa)) ∧
 (((!wa)||(!xa))=true →
 R (.bool false) w) ∧
 (((!wa)||(!xa))=false →
 InR .i64 (qa+1) ∧
 oa [.int .i64 (qa+1)]∧pa [.int .i64 (qa+1)]<pa [.int .i64 qa]))))))) ∧
 ((decide (qa<(ma:Int)))=false →
 InR .i64 (x+1) ∧
 da [.int .i64 (x+1)]∧mu [.int .i64 (x+1)]<mu [.int .i64 x]))))) ∧
 ((decide (x<(ba:Int)))=false →
 wv.isSome=true ∧
 (∃ya za ab,
 zaa [] w wv (0+1) [.slice ya za ab] ∧
 (∃(bb:List Value→Prop) (cb:List Value→Nat),bb [.int .i64 0] ∧
 ∀(db:Int),bb [.int .i64 db] →
 ((decide (db<(za:Int)))=true →
 (∃eb fb,
 zab [] Tryz.prog zbe #[.pointer wv,.int .i64 db] w (.agg #[.pointer eb,.int .i64 fb]) ∧
 (∀b3,w.heap.size≤b3 →
 (∃gb,
 zab [] Tryz.prog zah #[.agg #[.pointer eb,.int .i64 fb],.int .i64 0] w (.pointer gb) ∧
 gb.isSome=true ∧
 (∃hb,
 zaa [] w gb (0+1) [.bool hb] ∧
 (hb=false→gb.isSome=true) ∧
 (∃v,
 (hb=false→zaa [] w gb (0+2) [.int .i64 v]) ∧
 ((hb||(v != 0))=false→gb.isSome=true) ∧
 (∃ib,
 ((hb||(v != 0))=false→zaa [] w gb (0+3) [.int .i64 ib]) ∧
 (((hb||(v != 0))||(ib != 10))=true →
 R (.bool false) w) ∧
 (((hb||(v != 0))||(ib != 10))=false →
 (∃(jb:List Value→Prop) (kb:List Value→Nat),jb [.int .i64 1] ∧
 ∀(g:Int),jb [.int .i64 g] →
 ((decide (g<8))=true →
 eb.isSome=true ∧
 (∃lb mb nb,
 zaa [] w eb (0+3) [.slice lb mb nb] ∧
 Ix lb mb g ∧
 (∃ob,
 zaa [] w lb (Int.toNat g*14+0) [.bool ob] ∧
 ((!ob)=true →
 InR .i64 (g+1) ∧
 jb [.int .i64 (g+1)]∧kb [.int .i64 (g+1)]<kb [.int .i64 g]) ∧
 ((!ob)=false →
 (∃pb,
 zab [] Tryz.prog zah #[.agg #[.pointer eb,.int .i64 fb],.int .i64 g] w (.pointer pb) ∧
 pb.isSome=true ∧
 (∃qb,
 zaa [] w pb (0+1) [.bool qb] ∧
 (∃rb,
 zab [] Tryz.prog zcx #[.agg #[.pointer eb,.int .i64 fb],.int .i64 g] w (.bool rb) ∧
 (∃sb,
 (rb=true→zab [] Tryz.prog zf3 #[.agg #[.pointer eb,.int .i64 fb],.int .i64 g] w (.bool sb)) ∧
 ((!(qb==(rb&&(!sb))))=false→pb.isSome=true) ∧
 (∃tb,
 ((!(qb==(rb&&(!sb))))=false→zaa [] w pb (0+1) [.bool tb]) ∧
 (tb=true→((!(qb==(rb&&(!sb))))=false→pb.isSome=true)) ∧
 (∃v1,
 (tb=true→((!(qb==(rb&&(!sb))))=false→zaa [] w pb (0+2) [.int .i64 v1])) ∧
 (tb=true→((!(qb==(rb&&(!sb))))=false→eb.isSome=true)) ∧
 (∃ub vb wb,
 (tb=true→((!(qb==(rb&&(!sb))))=false→zaa [] w eb (0+3) [.slice ub vb wb])) ∧
 (tb=true→((!(qb==(rb&&(!sb))))=false→Ix ub vb g)) ∧
 (∃xb,
 (tb=true→((!(qb==(rb&&(!sb))))=false→zaa [] w ub (Int.toNat g*14+1) [.int .i64 xb])) ∧
 (∃yb,
 (tb=true→((!(qb==(rb&&(!sb))))=false→zab [] Tryz.prog zah #[.agg #[.pointer eb,.int .i64 fb],.int .i64 xb] w (.pointer yb))) ∧
 (tb=true→((!(qb==(rb&&(!sb))))=false→yb.isSome=true)) ∧
 (∃zb,
 (tb=true→((!(qb==(rb&&(!sb))))=false→zaa [] w yb (0+0) [.int .i64 zb])) ∧
 (tb=true→((!(qb==(rb&&(!sb))))=false→pb.isSome=true)) ∧
 (∃ac,
 (tb=true→((!(qb==(rb&&(!sb))))=false→zaa [] w pb (0+3) [.int .i64 ac])) ∧
 (∃bc,
 (tb=true→((!(qb==(rb&&(!sb))))=false→zab [] Tryz.prog zh3 #[.int .i64 v1,.int .i64 zb,.int .i64 ac] w (.bool bc))) ∧
 (((!(qb==(rb&&(!sb))))||(tb&&(!bc)))=true →
 R (.bool false) w) ∧
 (((!(qb==(rb&&(!sb))))||(tb&&(!bc)))=false →
 InR .i64 (g+1) ∧
 jb [.int .i64 (g+1)]∧kb [.int .i64 (g+1)]<kb [.int .i64 g]))))))))))))))))) ∧
 ((decide (g<8))=false →
 InR .i64 (db+1) ∧
 bb [.int .i64 (db+1)]∧cb [.int .i64 (db+1)]<cb [.int .i64 db])))))))))) ∧
 ((decide (db<(za:Int)))=false →
 R (.bool true) w))))))
theorem znd (wv):PuV (zm5 wv) zcr #[.pointer wv]:=pV [] false [(2,⟨[(17,.int .i64)],[],[0,15,16],[],[]⟩),(5,⟨[(24,.int .i64)],[],[0,15,16,17,22,23],[],[]⟩),(12,⟨[(50,.int .i64)],[],[0,49],[],[]⟩),(19,⟨[(10,.int .i64)],[],[0,8,49,50],[],[]⟩)] Tryz.func218 (by kernel_rfl) (by kernel_rfl)
def zm6 (wv:Option Addr) (ia:Int) (w:World) (R:Value→World→Prop):Prop :=
 wv.isSome=true ∧
 (∃aa ba ca,
 zaa [] w wv (0+2) [.slice aa ba ca] ∧
 InR .i64 ((ba:Int) - 1) ∧
 (∃da,
 zab [] Tryz.prog zaf #[.int .i64 ia,.int .i64 0,.int .i64 ((ba:Int) - 1)] w (.bool da) ∧
 (da=true→wv.isSome=true) ∧
 (∃ea fa ga,
 (da=true→zaa [] w wv (0+2) [.slice ea fa ga]) ∧
 (da=true→Ix ea fa ia) ∧
 (∃ha,
 (da=true→zaa [] w ea (Int.toNat ia*9+0) [.int .i64 ha]) ∧
 R (.bool (da&&(ha != 0))) w))))
theorem zne (wv task):PuV (zm6 wv task) zd3 #[.pointer wv,.int .i64 task]:=pV [] false [] Tryz.func68 (by kernel_rfl) (by kernel_rfl)
def zqj (p0:Option Addr) (p1 ka:Int) (w:World) (R:Value→World→Prop):Prop :=
 (∀b,w.heap.size≤b →
 p0.isSome=true ∧
 (∃aa ba ca,
 zaa [] w p0 (0+2) [.slice aa ba ca] ∧
 Ix aa ba ka ∧
 (∃x0 x1 x2 x3 x4 x5 x6 x7 x8,
 zaa [] w aa (Int.toNat ka*9) [.int .i64 x0,.int .i64 x1,.int .i64 x2,.int .i64 x3,.int .i64 x4,.int .i64 x5,.int .i64 x6,.int .i64 x7,.int .i64 x8] ∧
 (∀b1,w.heap.size≤b1 →
 (((x0 != 1)||(x2 != p1))=true →
 R (.bool false) w) ∧
 (((x0 != 1)||(x2 != p1))=false →
 (∃(da:List Value→Prop) (mu:List Value→Nat),da [.int .i64 x1] ∧
 ∀(g:Int),da [.int .i64 g] →
 ((g != 0)=true →
 (∃ea,
 zab [] Tryz.prog zah #[.agg #[.pointer p0,.int .i64 p1],.int .i64 g] w (.pointer ea) ∧
 ea.isSome=true ∧
 (∃fa,
 zaa [] w ea (0+1) [.bool fa] ∧
 ((!fa)=true →
 R (.bool false) w) ∧
 ((!fa)=false →
 p0.isSome=true ∧
 (∃ga ha ia,
 zaa [] w p0 (0+3) [.slice ga ha ia] ∧
 Ix ga ha g ∧
 (∃ja,
 zaa [] w ga (Int.toNat g*14+1) [.int .i64 ja] ∧
 da [.int .i64 ja]∧mu [.int .i64 ja]<mu [.int .i64 g])))))) ∧
 ((g != 0)=false →
 R (.bool true) w)))))))
theorem zrh (p0 p1 task):PuV (zqj p0 p1 task) zd4 #[.agg #[.pointer p0,.int .i64 p1],.int .i64 task]:=pV [] false [(5,⟨[(6,.int .i64)],[],[2],[],[]⟩)] Tryz.func136 (by kernel_rfl) (by kernel_rfl)
def zpt (wv:Option Addr) (w:World) (R:Value→World→Prop):Prop :=
 wv.isSome=true ∧
 (∃aa ba ca,
 zaa [] w wv (0+1) [.slice aa ba ca] ∧
 (∃(da:List Value→Prop) (mu:List Value→Nat),da [.int .i64 0] ∧
 ∀(x:Int),da [.int .i64 x] →
 ((decide (x<(ba:Int)))=true →
 Ix aa ba x ∧
 (∃x0 x1 x2 x3 x4,
 zaa [] w aa (Int.toNat x*5) [.bool x0,.int .i64 x1,.int .i64 x2,.int .i64 x3,.int .i64 x4] ∧
 (∀b,w.heap.size≤b →
 (∀b1,w.heap.size≤b1 →
 (∃ea,
 (∀wx,ExtX [] w wx→wx.heap[b1]? = some (Obj.cells ([.int .i64 x3,.int .i64 x4]:List Value).toArray ty_int (0,0))→zab [] Tryz.prog zbq #[.slice (some (Addr.mk b1 0 none)) 2 2] wx (.bool ea)) ∧
 ((!ea)=true →
 R (.bool false) w) ∧
 ((!ea)=false →
 (((x1==(-1))&&(x2==0))=true →
 InR .i64 (x+1) ∧
 da [.int .i64 (x+1)]∧mu [.int .i64 (x+1)]<mu [.int .i64 x]) ∧
 (((x1==(-1))&&(x2==0))=false →
 (∃fa ga,
 zab [] Tryz.prog zbe #[.pointer wv,.int .i64 x] w (.agg #[.pointer fa,.int .i64 ga]) ∧
 (∀b2,w.heap.size≤b2 →
 (∃ha,
 ((!x0)=false→zab [] Tryz.prog zd3 #[.pointer wv,.int .i64 x1] w (.bool ha)) ∧
 (∃ia,
 (((!x0)||(!ha))=false→zab [] Tryz.prog zd4 #[.agg #[.pointer fa,.int .i64 ga],.int .i64 x1] w (.bool ia)) ∧
 (∃ja,
 ((((!x0)||(!ha))||(!ia))=false→zab [] Tryz.prog zaf #[.int .i64 x2,.int .i64 1,.int .i64 149] w (.bool ja)) ∧
 (((((!x0)||(!ha))||(!ia))||(!ja))=true →
 R (.bool false) w) ∧
 (((((!x0)||(!ha))||(!ia))||(!ja))=false →
 wv.isSome=true ∧
 (∃ka la ma,
 zaa [] w wv (0+2) [.slice ka la ma] ∧
 Ix ka la x1 ∧
 (∃na oa pa qa ra x5 x6 x7 x8,
 zaa [] w ka (Int.toNat x1*9) [.int .i64 na,.int .i64 oa,.int .i64 pa,.int .i64 qa,.int .i64 ra,.int .i64 x5,.int .i64 x6,.int .i64 x7,.int .i64 x8] ∧
 (∀b3,w.heap.size≤b3 →
 zaa [] w ka (Int.toNat x1*9) [.int .i64 na,.int .i64 oa,.int .i64 pa,.int .i64 qa,.int .i64 ra,.int .i64 x5,.int .i64 x6,.int .i64 x7,.int .i64 x8] ∧
 (some (za1,([.bool x0,.int .i64 x1,.int .i64 x2,.int .i64 x3,.int .i64 x4]:List Value))=some (za1,([.bool x0,.int .i64 x1,.int .i64 x2,.int .i64 x3,.int .i64 x4]:List Value))) ∧
 zaa [] w wv (0+2) [.slice ka la ma] ∧
 (∃sa,
 zab [] Tryz.prog zah #[.agg #[.pointer fa,.int .i64 ga],.int .i64 oa] w (.pointer sa) ∧
 sa.isSome=true ∧
 (∃ta,
 zaa [] w sa (0+0) [.int .i64 ta] ∧
 InR .i64 (x5 - ta) ∧
 (∃ua,
 zab [] Tryz.prog zea #[.int .i64 qa] w (.int .i64 ua) ∧
 (∃va,
 zab [] Tryz.prog zbv #[.int .i64 x2,.int .i64 ua] w (.int .i64 va) ∧
 ((decide (x5 - ta>va))=true →
 R (.bool false) w) ∧
 ((decide (x5 - ta>va))=false →
 (∃(wa:List Value→Prop) (xa:List Value→Nat),wa [.int .i64 oa] ∧
 ∀(g:Int),wa [.int .i64 g] →
 ((g != 0)=true →
 (∃ya,
 zab [] Tryz.prog zah #[.agg #[.pointer fa,.int .i64 ga],.int .i64 g] w (.pointer ya) ∧
 ya.isSome=true ∧
 (∃v,
 zaa [] w ya (0+2) [.int .i64 v] ∧
 wv.isSome=true ∧
 (∃za ab bb,
 zaa [] w wv (0+3) [.slice za ab bb] ∧
 Ix za ab g ∧
 (∃cb,
 zaa [] w za (Int.toNat g*14+1) [.int .i64 cb] ∧
 (∃db,
 zab [] Tryz.prog zah #[.agg #[.pointer fa,.int .i64 ga],.int .i64 cb] w (.pointer db) ∧
 db.isSome=true ∧
 (∃eb,
 zaa [] w db (0+0) [.int .i64 eb] ∧
 InR .i64 (v - eb) ∧
 ya.isSome=true ∧
 (∃fb,
 zaa [] w ya (0+3) [.int .i64 fb] ∧
 (∃gb,
 zab [] Tryz.prog zbv #[.int .i64 x2,.int .i64 fb] w (.int .i64 gb) ∧
 ((decide (v - eb>gb))=true →
 R (.bool false) w) ∧
 ((decide (v - eb>gb))=false →
 wv.isSome=true ∧
 (∃hb ib jb,
 zaa [] w wv (0+3) [.slice hb ib jb] ∧
 Ix hb ib g ∧
 (∃kb,
 zaa [] w hb (Int.toNat g*14+1) [.int .i64 kb] ∧
 wa [.int .i64 kb]∧xa [.int .i64 kb]<xa [.int .i64 g])))))))))))) ∧
 ((g != 0)=false →
 InR .i64 (x+1) ∧
 da [.int .i64 (x+1)]∧mu [.int .i64 (x+1)]<mu [.int .i64 x]))))))))))))))))))))))) ∧
 ((decide (x<(ba:Int)))=false →
 R (.bool true) w)))
theorem zp7 (wv):PuV (zpt wv) zdw #[.pointer wv]:=pV [] false [(2,⟨[(14,.int .i64)],[],[0,12,13],[],[]⟩),(14,⟨[(7,.int .i64)],[],[0,4,5,12,13,14],[],[]⟩)] Tryz.func219 (by kernel_rfl) (by kernel_rfl)
def zza (w0:Int) (ja:Option Addr) (ka la:Nat) (ma:Option Addr) (na oa:Nat) (pa:Option Addr) (qa ra:Nat) (w:World) (R:Value→World→Prop):Prop :=
 (∀b wb,ExtX [] w wb→w.heap.size≤b→wb.heap[b]? = some (Obj.cells ([.int .i64 w0,.slice ja ka la,.slice ma na oa,.slice pa qa ra]:List Value).toArray zak (0,0))→b∉([]:List Nat) →
 (∀b1,wb.heap.size≤b1 →
 (∃(aa:List Value→World→Prop) (mu:List Value→World→Nat),(∀wr,ExtX [] wb wr→(∀bq∈([b1]:List Nat),bq<wr.heap.size)→aa [.bool true,.int .i64 0] wr) ∧
 ∀(ok:Bool) (x:Int) wv,(∀bq∈([b1]:List Nat),bq<wv.heap.size)→aa [.bool ok,.int .i64 x] wv →
 ((decide (x<5))=true →
 (∃(ba:Fn) (ca:Array Value) (da:Array Value),
 (0≤x∧x<(5:Int)∧(#[.func (.func zdj) #[] #[],.func (.func zc3) #[] #[],.func (.func zdk) #[] #[],.func (.func zcr) #[] #[],.func (.func zdw) #[] #[]]:Array Value)[Int.toNat x]? = some (.func ba ca da)) ∧
 (∀ea,ExtX [b1] wv ea→(∀bq∈([b1]:List Nat),bq<ea.heap.size) →
 zm3 Tryz.prog (.func ba ca da) [.pointer ((some (Addr.mk b 0 none)).map (·.add 0))] ea fun e fa =>
 (∃rv,
 e = .returned (.bool rv)∧Kept [b1] ea fa ∧
 ((!rv)=true →
 (∀ga,ExtX [b1] fa ga→R (.bool false) ga)) ∧
 ((!rv)=false →
 InR .i64 (x+1) ∧
 (∀ha,ExtX [b1] fa ha→(∀bq∈([b1]:List Nat),bq<ha.heap.size)→aa [.bool ok,.int .i64 (x+1)] ha∧mu [.bool ok,.int .i64 (x+1)] ha<mu [.bool ok,.int .i64 x] wv)))))) ∧
 ((decide (x<5))=false →
 (∀ia,ExtX [b1] wv ia→R (.bool ok) ia)))))
theorem zz1 (w0 w1O w1L w1C w2O w2L w2C w3O w3L w3C):EfV (zza w0 w1O w1L w1C w2O w2L w2C w3O w3L w3C) zjo #[.agg #[.int .i64 w0,.slice w1O w1L w1C,.slice w2O w2L w2C,.slice w3O w3L w3C]]:=eV [1] false [(4,⟨[(4,.bool),(9,.int .i64)],[],[1,8],[],[]⟩)] Tryz.func149 (by kernel_rfl) (by kernel_rfl)
def zvd (b0 b1 b2:Int) (oa:Option Addr) (pa qa:Nat) (ra:Option Addr) (sa ta:Nat) (w:World) (R:Value→World→Prop):Prop :=
 (∀b,w.heap.size≤b →
 (∀b5,w.heap.size≤b5 →
 (∀wr,ExtX [] w wr→(∀bq∈([b,b5]:List Nat),bq<wr.heap.size) →
 (∃aa ba ca,
 ∃wv,((Instr.makeSlice zb5 (.int .i64 (pa:Int)) (.int .i64 (pa:Int))):Sem Value).run Tryz.prog wr = .ok (.slice aa ba ca) wv∧Kept [b,b5] wr wv ∧
 (∀da,ExtX [b,b5] wv da→(∀bq∈([b,b5]:List Nat),bq<da.heap.size) →
 (∃ap,
 ∃ea,(builtin .copy #[zb5,zb5] ty_int #[false,false] #[.slice aa ba ca,.slice oa pa qa]).run Tryz.prog da = .ok (.value (.int .i64 ap)) ea∧Kept [b,b5] da ea ∧
 (∀fa,ExtX [b,b5] ea fa→(∀bq∈([b,b5]:List Nat),bq<fa.heap.size) →
 (∃ga ha ia,
 ∃ja,((Instr.makeSlice zcu (.int .i64 (sa:Int)) (.int .i64 (sa:Int))):Sem Value).run Tryz.prog fa = .ok (.slice ga ha ia) ja∧Kept [b,b5] fa ja ∧
 (∀ka,ExtX [b,b5] ja ka→(∀bq∈([b,b5]:List Nat),bq<ka.heap.size) →
 (∃la,
 ∃ma,(builtin .copy #[zcu,zcu] ty_int #[false,false] #[.slice ga ha ia,.slice ra sa ta]).run Tryz.prog ka = .ok (.value (.int .i64 la)) ma∧Kept [b,b5] ka ma ∧
 (∀na,ExtX [b,b5] ma na→R (.agg #[.int .i64 b0,.int .i64 b1,.int .i64 b2,.slice aa ba ca,.slice ga ha ia]) na)))))))))))
theorem zwm (b0 b1 b2 b3O b3L b3C b4O b4L b4C):EfV (zvd b0 b1 b2 b3O b3L b3C b4O b4L b4C) zim #[.agg #[.int .i64 b0,.int .i64 b1,.int .i64 b2,.slice b3O b3L b3C,.slice b4O b4L b4C]]:=eV [] false [] Tryz.func220 (by kernel_rfl) (by kernel_rfl)
def ztt (w0:Int) (sb:Option Addr) (tb ub:Nat) (vb:Option Addr) (wb xb:Nat) (yb:Option Addr) (zb ac:Nat) (w:World) (R:Value→World→Prop):Prop :=
 (∀b,w.heap.size≤b →
 (∀b1,w.heap.size≤b1 →
 (∀b2,w.heap.size≤b2 →
 (∀wr,ExtX [] w wr→(∀bq∈([b,b1,b2]:List Nat),bq<wr.heap.size) →
 (∃aa ba ca,
 ∃wv,(builtin .append #[zb0,zb0] zb0 #[false,false] #[.slice none 0 0,.slice sb tb ub]).run Tryz.prog wr = .ok (.value (.slice aa ba ca)) wv∧Kept [b,b1,b2] wr wv ∧
 (∀da,ExtX [b,b1,b2] wv da→(∀bq∈([b,b1,b2]:List Nat),bq<da.heap.size) →
 (∃ea fa ga,
 ∃ha,(builtin .append #[zbt,zbt] zbt #[false,false] #[.slice none 0 0,.slice vb wb xb]).run Tryz.prog da = .ok (.value (.slice ea fa ga)) ha∧Kept [b,b1,b2] da ha ∧
 (∀ia,ExtX [b,b1,b2] ha ia→(∀bq∈([b,b1,b2]:List Nat),bq<ia.heap.size) →
 (∃ja ka la,
 ∃ma,(builtin .append #[zar,zar] zar #[false,false] #[.slice none 0 0,.slice yb zb ac]).run Tryz.prog ia = .ok (.value (.slice ja ka la)) ma∧Kept [b,b1,b2] ia ma ∧
 (∃(na:List Value→World→Prop) (mu:List Value→World→Nat),(∀oa,ExtX [b,b1,b2] ma oa→(∀bq∈([b,b1,b2]:List Nat),bq<oa.heap.size)→na [.int .i64 0] oa) ∧
 ∀(x:Int) pa,(∀bq∈([b,b1,b2]:List Nat),bq<pa.heap.size)→na [.int .i64 x] pa →
 ((decide (x<(ka:Int)))=true →
 Ix yb zb x ∧
 (∃(x0:Bool) (x1:Int) (x2:ByteArray) (x3 x4 x5 x6 x7 x8 x9 qa:Int) (ra:Option Addr) (sa ta:Nat) (ua:Option Addr) (va wa:Nat) (xa:Option Addr) (ya za:Nat),
 zaa [b,b1,b2] pa yb (Int.toNat x*14) [.bool x0,.int .i64 x1,.string x2,.int .i64 x3,.int .i64 x4,.int .i64 x5,.int .i64 x6,.int .i64 x7,.int .i64 x8,.int .i64 x9,.int .i64 qa,.slice ra sa ta,.slice ua va wa,.slice xa ya za] ∧
 (∀b3,pa.heap.size≤b3 →
 (∀ab,ExtX [b,b1,b2] pa ab→(∀bq∈([b,b1,b2,b3]:List Nat),bq<ab.heap.size) →
 Calls Tryz.prog zim #[.agg #[.int .i64 x8,.int .i64 x9,.int .i64 qa,.slice ra sa ta,.slice ua va wa]] ab fun e bb =>
 (∃cb db eb fb gb hb ib jb kb,
 e = .returned (.agg #[.int .i64 cb,.int .i64 db,.int .i64 eb,.slice fb gb hb,.slice ib jb kb])∧Kept [b,b1,b2,b3] ab bb ∧
 (some (zak,([.int .i64 w0,.slice aa ba ca,.slice ea fa ga,.slice ja ka la]:List Value))=some (zak,([.int .i64 w0,.slice aa ba ca,.slice ea fa ga,.slice ja ka la]:List Value))) ∧
 Ix ja ka x ∧
 WrX [b,b1,b2,b3] bb ja (Int.toNat x*14+8) 5 ∧
 (∀lb,ExtX [b,b1,b2,b3] (sto bb ja (Int.toNat x*14+8) [.int .i64 cb,.int .i64 db,.int .i64 eb,.slice fb gb hb,.slice ib jb kb]) lb→(∀bq∈([b,b1,b2,b3]:List Nat),bq<lb.heap.size) →
 (∃mb nb ob,
 ∃pb,(builtin .append #[zbk,zbk] zbk #[true,false] #[.slice none 0 0,.slice xa ya za]).run Tryz.prog lb = .ok (.value (.slice mb nb ob)) pb∧Kept [b,b1,b2,b3] lb pb ∧
 (some (zak,([.int .i64 w0,.slice aa ba ca,.slice ea fa ga,.slice ja ka la]:List Value))=some (zak,([.int .i64 w0,.slice aa ba ca,.slice ea fa ga,.slice ja ka la]:List Value))) ∧
 Ix ja ka x ∧
 WrX [b,b1,b2,b3] pb ja (Int.toNat x*14+13) 1 ∧
 InR .i64 (x+1) ∧
 (∀qb,ExtX [b,b1,b2,b3] (sto pb ja (Int.toNat x*14+13) [.slice mb nb ob]) qb→(∀bq∈([b,b1,b2,b3]:List Nat),bq<qb.heap.size)→na [.int .i64 (x+1)] qb∧mu [.int .i64 (x+1)] qb<mu [.int .i64 x] pa)))))))) ∧
 ((decide (x<(ka:Int)))=false →
 (∀rb,ExtX [b,b1,b2] pa rb→R (.agg #[.int .i64 w0,.slice aa ba ca,.slice ea fa ga,.slice ja ka la]) rb))))))))))))
theorem zt5 (w0 w1O w1L w1C w2O w2L w2C w3O w3L w3C):EfV (ztt w0 w1O w1L w1C w2O w2L w2C w3O w3L w3C) zff #[.agg #[.int .i64 w0,.slice w1O w1L w1C,.slice w2O w2L w2C,.slice w3O w3L w3C]]:=eV [] false [(6,⟨[(30,.int .i64)],[],[1,2,3,29],[],[]⟩)] Tryz.func150 (by kernel_rfl) (by kernel_rfl)
def zzb (w0:Int) (qb:Option Addr) (rb sb:Nat) (tb:Option Addr) (ub vb:Nat) (xb:Option Addr) (yb zb:Nat) (ac:Fn) (bc:Array Value) (cc:Array Value) (w:World) (R:Value→World→Prop):Prop :=
 (∀b,w.heap.size≤b →
 (∀b1,w.heap.size≤b1 →
 (∃aa,
 zab [] Tryz.prog zjo #[.agg #[.int .i64 w0,.slice qb rb sb,.slice tb ub vb,.slice xb yb zb]] w (.bool aa) ∧
 ((!aa)=true →
 (∀wr,ExtX [] w wr→R (.tuple #[.agg #[.int .i64 0,.slice none 0 0,.slice none 0 0,.slice none 0 0],.int .i64 1]) wr)) ∧
 ((!aa)=false →
 (∀ba,ExtX [] w ba→(∀bq∈([b,b1]:List Nat),bq<ba.heap.size) →
 Calls Tryz.prog zff #[.agg #[.int .i64 w0,.slice qb rb sb,.slice tb ub vb,.slice xb yb zb]] ba fun e wv =>
 (∃ca da ea fa ga ha ia ja ka la,
 e = .returned (.agg #[.int .i64 ca,.slice da ea fa,.slice ga ha ia,.slice ja ka la])∧Kept [b,b1] ba wv ∧
 (∀b2 wb,ExtX [b,b1] wv wb→wv.heap.size≤b2→wb.heap[b2]? = some (Obj.cells ([.int .i64 0,.slice none 0 0,.slice none 0 0,.slice none 0 0]:List Value).toArray zak (0,0))→b2∉([b,b1]:List Nat) →
 WrX [b,b1] wb (some (Addr.mk b2 0 none)) 0 4 ∧
 (∀b3 ma,ExtX [b,b1] (sto wb (some (Addr.mk b2 0 none)) 0 [.int .i64 ca,.slice da ea fa,.slice ga ha ia,.slice ja ka la]) ma→(sto wb (some (Addr.mk b2 0 none)) 0 [.int .i64 ca,.slice da ea fa,.slice ga ha ia,.slice ja ka la]).heap.size≤b3→ma.heap[b3]? = some (Obj.cells ([.int .i64 0]:List Value).toArray zbs (0,0))→b3∉([b,b1]:List Nat) →
 (∀na,ExtX [b,b1] ma na→(∀bq∈([b,b1]:List Nat),bq<na.heap.size) →
 zm3 Tryz.prog (.func ac bc cc) [.pointer ((some (Addr.mk b2 0 none)).map (·.add 0))] na fun e1 oa =>
 (∃(rv:Value),
 e1 = .returned rv∧Kept [b,b1] na oa ∧
 (∀pa,ExtX [b,b1] oa pa→(∀bq∈([b,b1]:List Nat),bq<pa.heap.size) →
 Calls Tryz.prog znq #[rv,.iface zd0 (.pointer ((some (Addr.mk b3 0 none)).map (·.add 0)))] pa fun e2 qa =>
 (∃ra,
 e2 = .returned (.bool ra)∧Kept [b,b1] pa qa ∧
 (ra=true →
 (∃sa,
 zaa [b,b1] qa (some (Addr.mk b3 0 none)) (0+0) [.int .i64 sa] ∧
 (∀ta,ExtX [b,b1] qa ta→(∀bq∈([b,b1]:List Nat),bq<ta.heap.size) →
 Calls Tryz.prog zff #[.agg #[.int .i64 w0,.slice qb rb sb,.slice tb ub vb,.slice xb yb zb]] ta fun e3 ua =>
 (∃va wa xa ya za ab bb cb db eb,
 e3 = .returned (.agg #[.int .i64 va,.slice wa xa ya,.slice za ab bb,.slice cb db eb])∧Kept [b,b1] ta ua ∧
 zaa [b,b1] ua (some (Addr.mk b3 0 none)) (0+0) [.int .i64 sa] ∧
 zaa [b,b1] ua (some (Addr.mk b3 0 none)) (0+0) [.int .i64 sa] ∧
 (∀fb,ExtX [b,b1] ua fb→R (.tuple #[.agg #[.int .i64 va,.slice wa xa ya,.slice za ab bb,.slice cb db eb],.int .i64 sa]) fb))))) ∧
 (ra=false →
 (∃x0 gb hb ib jb kb lb mb nb ob,
 zaa [b,b1] qa (some (Addr.mk b2 0 none)) 0 [.int .i64 x0,.slice gb hb ib,.slice jb kb lb,.slice mb nb ob] ∧
 (∀pb,ExtX [b,b1] qa pb→R (.tuple #[.agg #[.int .i64 x0,.slice gb hb ib,.slice jb kb lb,.slice mb nb ob],.int .i64 0]) pb)))))))))))))))
theorem zz2 (w0 w1O w1L w1C w2O w2L w2C w3O w3L w3C callF callA callK):EfV (zzb w0 w1O w1L w1C w2O w2L w2C w3O w3L w3C callF callA callK) zgq #[.agg #[.int .i64 w0,.slice w1O w1L w1C,.slice w2O w2L w2C,.slice w3O w3L w3C],.func callF callA callK]:=eV [6,7] false [] Tryz.func65 (by kernel_rfl) (by kernel_rfl)
def z5t (a0:Bool) (a1 a2 a3 a4:Int) (b0:Bool) (b1 b2 b3 b4:Int) (w:World) (R:Value→World→Prop):Prop :=
 (∀b,w.heap.size≤b →
 (∀b5,w.heap.size≤b5 →
 ((!(a0==b0))=true →
 R (.bool false) w) ∧
 ((!(a0==b0))=false →
 ((a1 != b1)=true →
 R (.bool false) w) ∧
 ((a1 != b1)=false →
 ((a2 != b2)=true →
 R (.bool false) w) ∧
 ((a2 != b2)=false →
 ((a3 != b3)=true →
 R (.bool false) w) ∧
 ((a3 != b3)=false →
 ((a4 != b4)=true →
 R (.bool false) w) ∧
 ((a4 != b4)=false →
 R (.bool true) w)))))))
theorem z69 (a0 a1 a2 a3 a4 b0 b1 b2 b3 b4):PuV (z5t a0 a1 a2 a3 a4 b0 b1 b2 b3 b4) zmj #[.agg #[.bool a0,.int .i64 a1,.int .i64 a2,.int .i64 a3,.int .i64 a4],.agg #[.bool b0,.int .i64 b1,.int .i64 b2,.int .i64 b3,.int .i64 b4]]:=pV [] false [] Tryz.func137 (by kernel_rfl) (by kernel_rfl)
def z2n (aO:Option Addr) (aL aC:Nat) (bO:Option Addr) (bL bC:Nat) (w:World) (R:Value→World→Prop):Prop :=
 (((aL:Int) != (bL:Int))=true →
 R (.bool false) w) ∧
 (((aL:Int) != (bL:Int))=false →
 (∃(aa:List Value→Prop) (mu:List Value→Nat),aa [.int .i64 0] ∧
 ∀(i:Int),aa [.int .i64 i] →
 ((decide (i<(aL:Int)))=true →
 Ix aO aL i ∧
 (∃x0 x1 x2 x3 x4,
 zaa [] w aO (Int.toNat i*5) [.bool x0,.int .i64 x1,.int .i64 x2,.int .i64 x3,.int .i64 x4] ∧
 Ix bO bL i ∧
 (∃ba ca da ea fa,
 zaa [] w bO (Int.toNat i*5) [.bool ba,.int .i64 ca,.int .i64 da,.int .i64 ea,.int .i64 fa] ∧
 (∃ga,
 zab [] Tryz.prog zmj #[.agg #[.bool x0,.int .i64 x1,.int .i64 x2,.int .i64 x3,.int .i64 x4],.agg #[.bool ba,.int .i64 ca,.int .i64 da,.int .i64 ea,.int .i64 fa]] w (.bool ga) ∧
 ((!ga)=true →
 R (.bool false) w) ∧
 ((!ga)=false →
 InR .i64 (i+1) ∧
 aa [.int .i64 (i+1)]∧mu [.int .i64 (i+1)]<mu [.int .i64 i]))))) ∧
 ((decide (i<(aL:Int)))=false →
 R (.bool true) w)))
theorem z4v (aO aL aC bO bL bC):PuV (z2n aO aL aC bO bL bC) zk4 #[.slice aO aL aC,.slice bO bL bC]:=pV [] false [(4,⟨[(5,.int .i64)],[],[0,1],[],[]⟩)] Tryz.func52 (by kernel_rfl) (by kernel_rfl)
def z2p (a0 a1 a2 a3 a4 a5 a6 a7 a8 b0 b1 b2 b3 b4 b5 b6 b7 b8:Int) (w:World) (R:Value→World→Prop):Prop :=
 (∀b,w.heap.size≤b →
 (∀b9,w.heap.size≤b9 →
 ((a0 != b0)=true →
 R (.bool false) w) ∧
 ((a0 != b0)=false →
 ((a1 != b1)=true →
 R (.bool false) w) ∧
 ((a1 != b1)=false →
 ((a2 != b2)=true →
 R (.bool false) w) ∧
 ((a2 != b2)=false →
 ((a3 != b3)=true →
 R (.bool false) w) ∧
 ((a3 != b3)=false →
 ((a4 != b4)=true →
 R (.bool false) w) ∧
 ((a4 != b4)=false →
 ((a5 != b5)=true →
 R (.bool false) w) ∧
 ((a5 != b5)=false →
 ((a6 != b6)=true →
 R (.bool false) w) ∧
 ((a6 != b6)=false →
 ((a7 != b7)=true →
 R (.bool false) w) ∧
 ((a7 != b7)=false →
 ((a8 != b8)=true →
 R (.bool false) w) ∧
 ((a8 != b8)=false →
 R (.bool true) w)))))))))))
theorem z4x (a0 a1 a2 a3 a4 a5 a6 a7 a8 b0 b1 b2 b3 b4 b5 b6 b7 b8):PuV (z2p a0 a1 a2 a3 a4 a5 a6 a7 a8 b0 b1 b2 b3 b4 b5 b6 b7 b8) zk6 #[.agg #[.int .i64 a0,.int .i64 a1,.int .i64 a2,.int .i64 a3,.int .i64 a4,.int .i64 a5,.int .i64 a6,.int .i64 a7,.int .i64 a8],.agg #[.int .i64 b0,.int .i64 b1,.int .i64 b2,.int .i64 b3,.int .i64 b4,.int .i64 b5,.int .i64 b6,.int .i64 b7,.int .i64 b8]]:=pV [] false [] Tryz.func138 (by kernel_rfl) (by kernel_rfl)
def zzf (aO:Option Addr) (aL aC:Nat) (bO:Option Addr) (bL bC:Nat) (w:World) (R:Value→World→Prop):Prop :=
 (((aL:Int) != (bL:Int))=true →
 R (.bool false) w) ∧
 (((aL:Int) != (bL:Int))=false →
 (∃(aa:List Value→Prop) (mu:List Value→Nat),aa [.int .i64 0] ∧
 ∀(i:Int),aa [.int .i64 i] →
 ((decide (i<(aL:Int)))=true →
 Ix aO aL i ∧
 (∃x0 x1 x2 x3 x4 x5 x6 x7 x8,
 zaa [] w aO (Int.toNat i*9) [.int .i64 x0,.int .i64 x1,.int .i64 x2,.int .i64 x3,.int .i64 x4,.int .i64 x5,.int .i64 x6,.int .i64 x7,.int .i64 x8] ∧
 Ix bO bL i ∧
 (∃ba ca da ea fa ga ha ia ja,
 zaa [] w bO (Int.toNat i*9) [.int .i64 ba,.int .i64 ca,.int .i64 da,.int .i64 ea,.int .i64 fa,.int .i64 ga,.int .i64 ha,.int .i64 ia,.int .i64 ja] ∧
 (∃ka,
 zab [] Tryz.prog zk6 #[.agg #[.int .i64 x0,.int .i64 x1,.int .i64 x2,.int .i64 x3,.int .i64 x4,.int .i64 x5,.int .i64 x6,.int .i64 x7,.int .i64 x8],.agg #[.int .i64 ba,.int .i64 ca,.int .i64 da,.int .i64 ea,.int .i64 fa,.int .i64 ga,.int .i64 ha,.int .i64 ia,.int .i64 ja]] w (.bool ka) ∧
 ((!ka)=true →
 R (.bool false) w) ∧
 ((!ka)=false →
 InR .i64 (i+1) ∧
 aa [.int .i64 (i+1)]∧mu [.int .i64 (i+1)]<mu [.int .i64 i]))))) ∧
 ((decide (i<(aL:Int)))=false →
 R (.bool true) w)))
theorem z0w (aO aL aC bO bL bC):PuV (zzf aO aL aC bO bL bC) zjs #[.slice aO aL aC,.slice bO bL bC]:=pV [] false [(4,⟨[(5,.int .i64)],[],[0,1],[],[]⟩)] Tryz.func53 (by kernel_rfl) (by kernel_rfl)
def z2o (aO:Option Addr) (aL aC:Nat) (bO:Option Addr) (bL bC:Nat) (w:World) (R:Value→World→Prop):Prop :=
 (((aL:Int) != (bL:Int))=true →
 R (.bool false) w) ∧
 (((aL:Int) != (bL:Int))=false →
 (∃(aa:List Value→Prop) (mu:List Value→Nat),aa [.int .i64 0] ∧
 ∀(i:Int),aa [.int .i64 i] →
 ((decide (i<(aL:Int)))=true →
 Ix aO aL i ∧
 (∃x,
 zaa [] w aO (Int.toNat i*1) [.int .i64 x] ∧
 Ix bO bL i ∧
 (∃x1,
 zaa [] w bO (Int.toNat i*1) [.int .i64 x1] ∧
 ((x != x1)=true →
 R (.bool false) w) ∧
 ((x != x1)=false →
 InR .i64 (i+1) ∧
 aa [.int .i64 (i+1)]∧mu [.int .i64 (i+1)]<mu [.int .i64 i])))) ∧
 ((decide (i<(aL:Int)))=false →
 R (.bool true) w)))
theorem z4w (aO aL aC bO bL bC):PuV (z2o aO aL aC bO bL bC) zk5 #[.slice aO aL aC,.slice bO bL bC]:=pV [] false [(4,⟨[(5,.int .i64)],[],[0,1],[],[]⟩)] Tryz.func250 (by kernel_rfl) (by kernel_rfl)
def zzc (aO:Option Addr) (aL aC:Nat) (bO:Option Addr) (bL bC:Nat) (w:World) (R:Value→World→Prop):Prop :=
 (((aL:Int) != (bL:Int))=true →
 R (.bool false) w) ∧
 (((aL:Int) != (bL:Int))=false →
 (∃(aa:List Value→Prop) (mu:List Value→Nat),aa [.int .i64 0] ∧
 ∀(i:Int),aa [.int .i64 i] →
 ((decide (i<(aL:Int)))=true →
 Ix aO aL i ∧
 (∃x,
 zaa [] w aO (Int.toNat i*1) [.bool x] ∧
 Ix bO bL i ∧
 (∃x1,
 zaa [] w bO (Int.toNat i*1) [.bool x1] ∧
 ((!(x==x1))=true →
 R (.bool false) w) ∧
 ((!(x==x1))=false →
 InR .i64 (i+1) ∧
 aa [.int .i64 (i+1)]∧mu [.int .i64 (i+1)]<mu [.int .i64 i])))) ∧
 ((decide (i<(aL:Int)))=false →
 R (.bool true) w)))
theorem z0t (aO aL aC bO bL bC):PuV (zzc aO aL aC bO bL bC) zjp #[.slice aO aL aC,.slice bO bL bC]:=pV [] false [(4,⟨[(5,.int .i64)],[],[0,1],[],[]⟩)] Tryz.func251 (by kernel_rfl) (by kernel_rfl)
def z2m (a0 a1 a2:Int) (ca:Option Addr) (da ea:Nat) (fa:Option Addr) (ga ha:Nat) (b0 b1 b2:Int) (ia:Option Addr) (ja ka:Nat) (la:Option Addr) (ma na:Nat) (w:World) (R:Value→World→Prop):Prop :=
 (∀b,w.heap.size≤b →
 (∀b5,w.heap.size≤b5 →
 ((a0 != b0)=true →
 R (.bool false) w) ∧
 ((a0 != b0)=false →
 ((a1 != b1)=true →
 R (.bool false) w) ∧
 ((a1 != b1)=false →
 ((a2 != b2)=true →
 R (.bool false) w) ∧
 ((a2 != b2)=false →
 (∃aa,
 zab [] Tryz.prog zk5 #[.slice ca da ea,.slice ia ja ka] w (.bool aa) ∧
 ((!aa)=true →
 R (.bool false) w) ∧
 ((!aa)=false →
 (∃ba,
 zab [] Tryz.prog zjp #[.slice fa ga ha,.slice la ma na] w (.bool ba) ∧
 ((!ba)=true →
 R (.bool false) w) ∧
 ((!ba)=false →
 R (.bool true) w)))))))))
theorem z4u (a0 a1 a2 a3O a3L a3C a4O a4L a4C b0 b1 b2 b3O b3L b3C b4O b4L b4C):PuV (z2m a0 a1 a2 a3O a3L a3C a4O a4L a4C b0 b1 b2 b3O b3L b3C b4O b4L b4C) zk3 #[.agg #[.int .i64 a0,.int .i64 a1,.int .i64 a2,.slice a3O a3L a3C,.slice a4O a4L a4C],.agg #[.int .i64 b0,.int .i64 b1,.int .i64 b2,.slice b3O b3L b3C,.slice b4O b4L b4C]]:=pV [] false [] Tryz.func213 (by kernel_rfl) (by kernel_rfl)
def zze (a0:Int) (a1:Bool) (a2 a3 a4 b0:Int) (b1:Bool) (b2 b3 b4:Int) (w:World) (R:Value→World→Prop):Prop :=
 (∀b,w.heap.size≤b →
 (∀b5,w.heap.size≤b5 →
 ((a0 != b0)=true →
 R (.bool false) w) ∧
 ((a0 != b0)=false →
 ((!(a1==b1))=true →
 R (.bool false) w) ∧
 ((!(a1==b1))=false →
 ((a2 != b2)=true →
 R (.bool false) w) ∧
 ((a2 != b2)=false →
 ((a3 != b3)=true →
 R (.bool false) w) ∧
 ((a3 != b3)=false →
 ((a4 != b4)=true →
 R (.bool false) w) ∧
 ((a4 != b4)=false →
 R (.bool true) w)))))))
theorem z0v (a0 a1 a2 a3 a4 b0 b1 b2 b3 b4):PuV (zze a0 a1 a2 a3 a4 b0 b1 b2 b3 b4) zjr #[.agg #[.int .i64 a0,.bool a1,.int .i64 a2,.int .i64 a3,.int .i64 a4],.agg #[.int .i64 b0,.bool b1,.int .i64 b2,.int .i64 b3,.int .i64 b4]]:=pV [] false [] Tryz.func252 (by kernel_rfl) (by kernel_rfl)
def zvm (aO:Option Addr) (aL aC:Nat) (bO:Option Addr) (bL bC:Nat) (w:World) (R:Value→World→Prop):Prop :=
 (((aL:Int) != (bL:Int))=true →
 R (.bool false) w) ∧
 (((aL:Int) != (bL:Int))=false →
 (∃(aa:List Value→Prop) (mu:List Value→Nat),aa [.int .i64 0] ∧
 ∀(i:Int),aa [.int .i64 i] →
 ((decide (i<(aL:Int)))=true →
 Ix aO aL i ∧
 (∃x0 x1 x2 x3 x4,
 zaa [] w aO (Int.toNat i*5) [.int .i64 x0,.bool x1,.int .i64 x2,.int .i64 x3,.int .i64 x4] ∧
 Ix bO bL i ∧
 (∃ba ca da ea fa,
 zaa [] w bO (Int.toNat i*5) [.int .i64 ba,.bool ca,.int .i64 da,.int .i64 ea,.int .i64 fa] ∧
 (∃ga,
 zab [] Tryz.prog zjr #[.agg #[.int .i64 x0,.bool x1,.int .i64 x2,.int .i64 x3,.int .i64 x4],.agg #[.int .i64 ba,.bool ca,.int .i64 da,.int .i64 ea,.int .i64 fa]] w (.bool ga) ∧
 ((!ga)=true →
 R (.bool false) w) ∧
 ((!ga)=false →
 InR .i64 (i+1) ∧
 aa [.int .i64 (i+1)]∧mu [.int .i64 (i+1)]<mu [.int .i64 i]))))) ∧
 ((decide (i<(aL:Int)))=false →
 R (.bool true) w)))
theorem zx9 (aO aL aC bO bL bC):PuV (zvm aO aL aC bO bL bC) zir #[.slice aO aL aC,.slice bO bL bC]:=pV [] false [(4,⟨[(5,.int .i64)],[],[0,1],[],[]⟩)] Tryz.func214 (by kernel_rfl) (by kernel_rfl)
def zzd (a0:Bool) (a1:Int) (a2:ByteArray) (a3 a4 a5 a6 a7 a8 a9 da:Int) (ea:Option Addr) (fa ga:Nat) (ha:Option Addr) (ia ja:Nat) (ka:Option Addr) (la ma:Nat) (b0:Bool) (b1:Int) (b2:ByteArray) (b3 b4 b5 b6 b7 b8 b9 na:Int) (oa:Option Addr) (pa qa:Nat) (ra:Option Addr) (sa ta:Nat) (ua:Option Addr) (va wa:Nat) (w:World) (R:Value→World→Prop):Prop :=
 (∀b,w.heap.size≤b →
 (∀aa,w.heap.size≤aa →
 ((!(a0==b0))=true →
 R (.bool false) w) ∧
 ((!(a0==b0))=false →
 ((a1 != b1)=true →
 R (.bool false) w) ∧
 ((a1 != b1)=false →
 ((!zck a2 b2)=true →
 R (.bool false) w) ∧
 ((!zck a2 b2)=false →
 ((a3 != b3)=true →
 R (.bool false) w) ∧
 ((a3 != b3)=false →
 ((a4 != b4)=true →
 R (.bool false) w) ∧
 ((a4 != b4)=false →
 ((a5 != b5)=true →
 R (.bool false) w) ∧
 ((a5 != b5)=false →
 ((a6 != b6)=true →
 R (.bool false) w) ∧
 ((a6 != b6)=false →
 ((a7 != b7)=true →
 R (.bool false) w) ∧
 ((a7 != b7)=false →
 (∃ba,
 zab [] Tryz.prog zk3 #[.agg #[.int .i64 a8,.int .i64 a9,.int .i64 da,.slice ea fa ga,.slice ha ia ja],.agg #[.int .i64 b8,.int .i64 b9,.int .i64 na,.slice oa pa qa,.slice ra sa ta]] w (.bool ba) ∧
 ((!ba)=true →
 R (.bool false) w) ∧
 ((!ba)=false →
 (∃ca,
 zab [] Tryz.prog zir #[.slice ka la ma,.slice ua va wa] w (.bool ca) ∧
 ((!ca)=true →
 R (.bool false) w) ∧
 ((!ca)=false →
 R (.bool true) w))))))))))))))
theorem z0u (a0 a1 a2 a3 a4 a5 a6 a7 a8 a9 a10 a11O a11L a11C a12O a12L a12C a13O a13L a13C b0 b1 b2 b3 b4 b5 b6 b7 b8 b9 b10 b11O b11L b11C b12O b12L b12C b13O b13L b13C):PuV (zzd a0 a1 a2 a3 a4 a5 a6 a7 a8 a9 a10 a11O a11L a11C a12O a12L a12C a13O a13L a13C b0 b1 b2 b3 b4 b5 b6 b7 b8 b9 b10 b11O b11L b11C b12O b12L b12C b13O b13L b13C) zjq #[.agg #[.bool a0,.int .i64 a1,.string a2,.int .i64 a3,.int .i64 a4,.int .i64 a5,.int .i64 a6,.int .i64 a7,.int .i64 a8,.int .i64 a9,.int .i64 a10,.slice a11O a11L a11C,.slice a12O a12L a12C,.slice a13O a13L a13C],.agg #[.bool b0,.int .i64 b1,.string b2,.int .i64 b3,.int .i64 b4,.int .i64 b5,.int .i64 b6,.int .i64 b7,.int .i64 b8,.int .i64 b9,.int .i64 b10,.slice b11O b11L b11C,.slice b12O b12L b12C,.slice b13O b13L b13C]]:=pV [] false [] Tryz.func139 (by kernel_rfl) (by kernel_rfl)
def zvl (aO:Option Addr) (aL aC:Nat) (bO:Option Addr) (bL bC:Nat) (w:World) (R:Value→World→Prop):Prop :=
 (((aL:Int) != (bL:Int))=true →
 R (.bool false) w) ∧
 (((aL:Int) != (bL:Int))=false →
 (∃(aa:List Value→Prop) (mu:List Value→Nat),aa [.int .i64 0] ∧
 ∀(i:Int),aa [.int .i64 i] →
 ((decide (i<(aL:Int)))=true →
 Ix aO aL i ∧
 (∃(x0:Bool) (x1:Int) (x2:ByteArray) (x3 x4 x5 x6 x7 x8 x9 ba:Int) (ca:Option Addr) (da ea:Nat) (fa:Option Addr) (ga ha:Nat) (ia:Option Addr) (ja ka:Nat),
 zaa [] w aO (Int.toNat i*14) [.bool x0,.int .i64 x1,.string x2,.int .i64 x3,.int .i64 x4,.int .i64 x5,.int .i64 x6,.int .i64 x7,.int .i64 x8,.int .i64 x9,.int .i64 ba,.slice ca da ea,.slice fa ga ha,.slice ia ja ka] ∧
 Ix bO bL i ∧
 (∃(la:Bool) (ma:Int) (na:ByteArray) (oa pa qa ra sa ta ua va:Int) (wa:Option Addr) (xa ya:Nat) (za:Option Addr) (ab bb:Nat) (cb:Option Addr) (db eb:Nat),
 zaa [] w bO (Int.toNat i*14) [.bool la,.int .i64 ma,.string na,.int .i64 oa,.int .i64 pa,.int .i64 qa,.int .i64 ra,.int .i64 sa,.int .i64 ta,.int .i64 ua,.int .i64 va,.slice wa xa ya,.slice za ab bb,.slice cb db eb] ∧
 (∃fb,
 zab [] Tryz.prog zjq #[.agg #[.bool x0,.int .i64 x1,.string x2,.int .i64 x3,.int .i64 x4,.int .i64 x5,.int .i64 x6,.int .i64 x7,.int .i64 x8,.int .i64 x9,.int .i64 ba,.slice ca da ea,.slice fa ga ha,.slice ia ja ka],.agg #[.bool la,.int .i64 ma,.string na,.int .i64 oa,.int .i64 pa,.int .i64 qa,.int .i64 ra,.int .i64 sa,.int .i64 ta,.int .i64 ua,.int .i64 va,.slice wa xa ya,.slice za ab bb,.slice cb db eb]] w (.bool fb) ∧
 ((!fb)=true →
 R (.bool false) w) ∧
 ((!fb)=false →
 InR .i64 (i+1) ∧
 aa [.int .i64 (i+1)]∧mu [.int .i64 (i+1)]<mu [.int .i64 i]))))) ∧
 ((decide (i<(aL:Int)))=false →
 R (.bool true) w)))
theorem zx8 (aO aL aC bO bL bC):PuV (zvl aO aL aC bO bL bC) ziq #[.slice aO aL aC,.slice bO bL bC]:=pV [] false [(4,⟨[(5,.int .i64)],[],[0,1],[],[]⟩)] Tryz.func54 (by kernel_rfl) (by kernel_rfl)
def zzg (a0:Int) (da:Option Addr) (ea fa:Nat) (ga:Option Addr) (ha ia:Nat) (ja:Option Addr) (ka la:Nat) (b0:Int) (ma:Option Addr) (na oa:Nat) (pa:Option Addr) (qa ra:Nat) (sa:Option Addr) (ta ua:Nat) (w:World) (R:Value→World→Prop):Prop :=
 (∀b,w.heap.size≤b →
 (∀b4,w.heap.size≤b4 →
 ((a0 != b0)=true →
 R (.bool false) w) ∧
 ((a0 != b0)=false →
 (∃aa,
 zab [] Tryz.prog zk4 #[.slice da ea fa,.slice ma na oa] w (.bool aa) ∧
 ((!aa)=true →
 R (.bool false) w) ∧
 ((!aa)=false →
 (∃ba,
 zab [] Tryz.prog zjs #[.slice ga ha ia,.slice pa qa ra] w (.bool ba) ∧
 ((!ba)=true →
 R (.bool false) w) ∧
 ((!ba)=false →
 (∃ca,
 zab [] Tryz.prog ziq #[.slice ja ka la,.slice sa ta ua] w (.bool ca) ∧
 ((!ca)=true →
 R (.bool false) w) ∧
 ((!ca)=false →
 R (.bool true) w)))))))))
theorem z0x (a0 a1O a1L a1C a2O a2L a2C a3O a3L a3C b0 b1O b1L b1C b2O b2L b2C b3O b3L b3C):PuV (zzg a0 a1O a1L a1C a2O a2L a2C a3O a3L a3C b0 b1O b1L b1C b2O b2L b2C b3O b3L b3C) zcz #[.agg #[.int .i64 a0,.slice a1O a1L a1C,.slice a2O a2L a2C,.slice a3O a3L a3C],.agg #[.int .i64 b0,.slice b1O b1L b1C,.slice b2O b2L b2C,.slice b3O b3L b3C]]:=pV [] false [] Tryz.func16 (by kernel_rfl) (by kernel_rfl)
def zvp (aO:Option Addr) (aL aC:Nat) (k:Int) (w:World) (R:Value→World→Prop):Prop :=
 (∃(aa:List Value→World→Prop) (mu:List Value→World→Nat),(∀wr,ExtX [] w wr→(∀bq∈([]:List Nat),bq<wr.heap.size)→aa [.int .i64 k,.int .i64 0] wr) ∧
 ∀(k1 i:Int) wv,(∀bq∈([]:List Nat),bq<wv.heap.size)→aa [.int .i64 k1,.int .i64 i] wv →
 ((decide (i<(aL:Int)))=true →
 (3:Int)≠0 ∧
 Ix aO aL i ∧
 WrX [] wv aO (Int.toNat i*5+0) 1 ∧
 InR .i64 (k1+1) ∧
 Ix aO aL i ∧
 WrX [] (sto wv aO (Int.toNat i*5+0) [.bool ((Int.tmod k1 3)==0)]) aO (Int.toNat i*5+1) 1 ∧
 InR .i64 ((k1+1)+1) ∧
 Ix aO aL i ∧
 WrX [] (sto (sto wv aO (Int.toNat i*5+0) [.bool ((Int.tmod k1 3)==0)]) aO (Int.toNat i*5+1) [.int .i64 (k1+1)]) aO (Int.toNat i*5+2) 1 ∧
 InR .i64 (((k1+1)+1)+1) ∧
 Ix aO aL i ∧
 WrX [] (sto (sto (sto wv aO (Int.toNat i*5+0) [.bool ((Int.tmod k1 3)==0)]) aO (Int.toNat i*5+1) [.int .i64 (k1+1)]) aO (Int.toNat i*5+2) [.int .i64 ((k1+1)+1)]) aO (Int.toNat i*5+3) 1 ∧
 InR .i64 ((((k1+1)+1)+1)+1) ∧
 Ix aO aL i ∧
 WrX [] (sto (sto (sto (sto wv aO (Int.toNat i*5+0) [.bool ((Int.tmod k1 3)==0)]) aO (Int.toNat i*5+1) [.int .i64 (k1+1)]) aO (Int.toNat i*5+2) [.int .i64 ((k1+1)+1)]) aO (Int.toNat i*5+3) [.int .i64 (((k1+1)+1)+1)]) aO (Int.toNat i*5+4) 1 ∧
 InR .i64 (((((k1+1)+1)+1)+1)+1) ∧
 InR .i64 (i+1) ∧
 (∀ba,ExtX [] (sto (sto (sto (sto (sto wv aO (Int.toNat i*5+0) [.bool ((Int.tmod k1 3)==0)]) aO (Int.toNat i*5+1) [.int .i64 (k1+1)]) aO (Int.toNat i*5+2) [.int .i64 ((k1+1)+1)]) aO (Int.toNat i*5+3) [.int .i64 (((k1+1)+1)+1)]) aO (Int.toNat i*5+4) [.int .i64 ((((k1+1)+1)+1)+1)]) ba→(∀bq∈([]:List Nat),bq<ba.heap.size)→aa [.int .i64 (((((k1+1)+1)+1)+1)+1),.int .i64 (i+1)] ba∧mu [.int .i64 (((((k1+1)+1)+1)+1)+1),.int .i64 (i+1)] ba<mu [.int .i64 k1,.int .i64 i] wv)) ∧
 ((decide (i<(aL:Int)))=false →
 (∀ca,ExtX [] wv ca→R (.int .i64 k1) ca)))
theorem zwp (aO aL aC k):EfV (zvp aO aL aC k) ziu #[.slice aO aL aC,.int .i64 k]:=eV [] false [(2,⟨[(1,.int .i64),(5,.int .i64)],[],[0],[],[]⟩)] Tryz.func55 (by kernel_rfl) (by kernel_rfl)
def zty (aO:Option Addr) (aL aC:Nat) (k:Int) (w:World) (R:Value→World→Prop):Prop :=
 (∃(aa:List Value→World→Prop) (mu:List Value→World→Nat),(∀wr,ExtX [] w wr→(∀bq∈([]:List Nat),bq<wr.heap.size)→aa [.int .i64 k,.int .i64 0] wr) ∧
 ∀(k1 i:Int) wv,(∀bq∈([]:List Nat),bq<wv.heap.size)→aa [.int .i64 k1,.int .i64 i] wv →
 ((decide (i<(aL:Int)))=true →
 Ix aO aL i ∧
 WrX [] wv aO (Int.toNat i*9+0) 1 ∧
 InR .i64 (k1+1) ∧
 Ix aO aL i ∧
 WrX [] (sto wv aO (Int.toNat i*9+0) [.int .i64 k1]) aO (Int.toNat i*9+1) 1 ∧
 InR .i64 ((k1+1)+1) ∧
 Ix aO aL i ∧
 WrX [] (sto (sto wv aO (Int.toNat i*9+0) [.int .i64 k1]) aO (Int.toNat i*9+1) [.int .i64 (k1+1)]) aO (Int.toNat i*9+2) 1 ∧
 InR .i64 (((k1+1)+1)+1) ∧
 Ix aO aL i ∧
 WrX [] (sto (sto (sto wv aO (Int.toNat i*9+0) [.int .i64 k1]) aO (Int.toNat i*9+1) [.int .i64 (k1+1)]) aO (Int.toNat i*9+2) [.int .i64 ((k1+1)+1)]) aO (Int.toNat i*9+3) 1 ∧
 InR .i64 ((((k1+1)+1)+1)+1) ∧
 Ix aO aL i ∧
 WrX [] (sto (sto (sto (sto wv aO (Int.toNat i*9+0) [.int .i64 k1]) aO (Int.toNat i*9+1) [.int .i64 (k1+1)]) aO (Int.toNat i*9+2) [.int .i64 ((k1+1)+1)]) aO (Int.toNat i*9+3) [.int .i64 (((k1+1)+1)+1)]) aO (Int.toNat i*9+4) 1 ∧
 InR .i64 (((((k1+1)+1)+1)+1)+1) ∧
 Ix aO aL i ∧
 WrX [] (sto (sto (sto (sto (sto wv aO (Int.toNat i*9+0) [.int .i64 k1]) aO (Int.toNat i*9+1) [.int .i64 (k1+1)]) aO (Int.toNat i*9+2) [.int .i64 ((k1+1)+1)]) aO (Int.toNat i*9+3) [.int .i64 (((k1+1)+1)+1)]) aO (Int.toNat i*9+4) [.int .i64 ((((k1+1)+1)+1)+1)]) aO (Int.toNat i*9+5) 1 ∧
 InR .i64 ((((((k1+1)+1)+1)+1)+1)+1) ∧
 Ix aO aL i ∧
 WrX [] (sto (sto (sto (sto (sto (sto wv aO (Int.toNat i*9+0) [.int .i64 k1]) aO (Int.toNat i*9+1) [.int .i64 (k1+1)]) aO (Int.toNat i*9+2) [.int .i64 ((k1+1)+1)]) aO (Int.toNat i*9+3) [.int .i64 (((k1+1)+1)+1)]) aO (Int.toNat i*9+4) [.int .i64 ((((k1+1)+1)+1)+1)]) aO (Int.toNat i*9+5) [.int .i64 (((((k1+1)+1)+1)+1)+1)]) aO (Int.toNat i*9+6) 1 ∧
 InR .i64 (((((((k1+1)+1)+1)+1)+1)+1)+1) ∧
 Ix aO aL i ∧
 WrX [] (sto (sto (sto (sto (sto (sto (sto wv aO (Int.toNat i*9+0) [.int .i64 k1]) aO (Int.toNat i*9+1) [.int .i64 (k1+1)]) aO (Int.toNat i*9+2) [.int .i64 ((k1+1)+1)]) aO (Int.toNat i*9+3) [.int .i64 (((k1+1)+1)+1)]) aO (Int.toNat i*9+4) [.int .i64 ((((k1+1)+1)+1)+1)]) aO (Int.toNat i*9+5) [.int .i64 (((((k1+1)+1)+1)+1)+1)]) aO (Int.toNat i*9+6) [.int .i64 ((((((k1+1)+1)+1)+1)+1)+1)]) aO (Int.toNat i*9+7) 1 ∧
 InR .i64 ((((((((k1+1)+1)+1)+1)+1)+1)+1)+1) ∧
 Ix aO aL i ∧
 WrX [] (sto (sto (sto (sto (sto (sto (sto (sto wv aO (Int.toNat i*9+0) [.int .i64 k1]) aO (Int.toNat i*9+1) [.int .i64 (k1+1)]) aO (Int.toNat i*9+2) [.int .i64 ((k1+1)+1)]) aO (Int.toNat i*9+3) [.int .i64 (((k1+1)+1)+1)]) aO (Int.toNat i*9+4) [.int .i64 ((((k1+1)+1)+1)+1)]) aO (Int.toNat i*9+5) [.int .i64 (((((k1+1)+1)+1)+1)+1)]) aO (Int.toNat i*9+6) [.int .i64 ((((((k1+1)+1)+1)+1)+1)+1)]) aO (Int.toNat i*9+7) [.int .i64 (((((((k1+1)+1)+1)+1)+1)+1)+1)]) aO (Int.toNat i*9+8) 1 ∧
 InR .i64 (((((((((k1+1)+1)+1)+1)+1)+1)+1)+1)+1) ∧
 InR .i64 (i+1) ∧
 (∀ba,ExtX [] (sto (sto (sto (sto (sto (sto (sto (sto (sto wv aO (Int.toNat i*9+0) [.int .i64 k1]) aO (Int.toNat i*9+1) [.int .i64 (k1+1)]) aO (Int.toNat i*9+2) [.int .i64 ((k1+1)+1)]) aO (Int.toNat i*9+3) [.int .i64 (((k1+1)+1)+1)]) aO (Int.toNat i*9+4) [.int .i64 ((((k1+1)+1)+1)+1)]) aO (Int.toNat i*9+5) [.int .i64 (((((k1+1)+1)+1)+1)+1)]) aO (Int.toNat i*9+6) [.int .i64 ((((((k1+1)+1)+1)+1)+1)+1)]) aO (Int.toNat i*9+7) [.int .i64 (((((((k1+1)+1)+1)+1)+1)+1)+1)]) aO (Int.toNat i*9+8) [.int .i64 ((((((((k1+1)+1)+1)+1)+1)+1)+1)+1)]) ba→(∀bq∈([]:List Nat),bq<ba.heap.size)→aa [.int .i64 (((((((((k1+1)+1)+1)+1)+1)+1)+1)+1)+1),.int .i64 (i+1)] ba∧mu [.int .i64 (((((((((k1+1)+1)+1)+1)+1)+1)+1)+1)+1),.int .i64 (i+1)] ba<mu [.int .i64 k1,.int .i64 i] wv)) ∧
 ((decide (i<(aL:Int)))=false →
 (∀ca,ExtX [] wv ca→R (.int .i64 k1) ca)))
theorem zt7 (aO aL aC k):EfV (zty aO aL aC k) zhs #[.slice aO aL aC,.int .i64 k]:=eV [] false [(2,⟨[(1,.int .i64),(5,.int .i64)],[],[0],[],[]⟩)] Tryz.func56 (by kernel_rfl) (by kernel_rfl)
def zvr (k:Int) (w:World) (R:Value→World→Prop):Prop :=
 ((decide (k≤0))=true →
 (∀wr,ExtX [] w wr→R (.string (ByteArray.mk [109,48].toArray)) wr)) ∧
 ((decide (k≤0))=false →
 (∃(aa:List Value→World→Prop) (mu:List Value→World→Nat),(∀ba,ExtX [] w ba→(∀bq∈([]:List Nat),bq<ba.heap.size)→aa [.int .i64 k,.string (ByteArray.mk [].toArray)] ba) ∧
 ∀(k1:Int) (ca:ByteArray) wv,(∀bq∈([]:List Nat),bq<wv.heap.size)→aa [.int .i64 k1,.string ca] wv →
 ((decide (k1>0))=true →
 (10:Int)≠0 ∧
 InR .i64 (48+(Int.tmod k1 10)) ∧
 InR .u8 (48+(Int.tmod k1 10)) ∧
 (∀b wb,ExtX [] wv wb→wv.heap.size≤b→wb.heap[b]? = some (Obj.cells ([.int .u8 (48+(Int.tmod k1 10))]:List Value).toArray zu4 (0,0))→b∉([]:List Nat) →
 (∀da,ExtX [] wb da→(∀bq∈([]:List Nat),bq<da.heap.size) →
 (∃(cv:ByteArray),
 ∃ea,((convert zqc zfa (.slice (some (Addr.mk b 0 none)) 1 1)):Sem Value).run Tryz.prog da = .ok (.string cv) ea∧Kept [] da ea ∧
 cv.size+ca.size≤9223372036854775807 ∧
 ((10:Int)≠0∧InR .i64 (Int.tdiv k1 10)) ∧
 (∀fa,ExtX [] ea fa→(∀bq∈([]:List Nat),bq<fa.heap.size)→aa [.int .i64 (Int.tdiv k1 10),.string (cv++ca)] fa∧mu [.int .i64 (Int.tdiv k1 10),.string (cv++ca)] fa<mu [.int .i64 k1,.string ca] wv))))) ∧
 ((decide (k1>0))=false →
 (ByteArray.mk [109].toArray).size+ca.size≤9223372036854775807 ∧
 (∀ga,ExtX [] wv ga→R (.string ((ByteArray.mk [109].toArray)++ca)) ga))))
theorem zwr (k):EfV (zvr k) zf5 #[.int .i64 k]:=eV [12] false [(4,⟨[(0,.int .i64),(3,.str)],[],[],[],[]⟩)] Tryz.func140 (by kernel_rfl) (by kernel_rfl)
def zvq (aO:Option Addr) (aL aC:Nat) (k:Int) (w:World) (R:Value→World→Prop):Prop :=
 (∃(aa:List Value→World→Prop) (mu:List Value→World→Nat),(∀wr,ExtX [] w wr→(∀bq∈([]:List Nat),bq<wr.heap.size)→aa [.int .i64 k,.int .i64 0] wr) ∧
 ∀(k1 i:Int) wv,(∀bq∈([]:List Nat),bq<wv.heap.size)→aa [.int .i64 k1,.int .i64 i] wv →
 ((decide (i<(aL:Int)))=true →
 Ix aO aL i ∧
 WrX [] wv aO (Int.toNat i*1) 1 ∧
 InR .i64 (k1+1) ∧
 InR .i64 (i+1) ∧
 (∀ba,ExtX [] (sto wv aO (Int.toNat i*1) [.int .i64 k1]) ba→(∀bq∈([]:List Nat),bq<ba.heap.size)→aa [.int .i64 (k1+1),.int .i64 (i+1)] ba∧mu [.int .i64 (k1+1),.int .i64 (i+1)] ba<mu [.int .i64 k1,.int .i64 i] wv)) ∧
 ((decide (i<(aL:Int)))=false →
 (∀ca,ExtX [] wv ca→R (.int .i64 k1) ca)))
theorem zwq (aO aL aC k):EfV (zvq aO aL aC k) ziv #[.slice aO aL aC,.int .i64 k]:=eV [] false [(2,⟨[(1,.int .i64),(5,.int .i64)],[],[0],[],[]⟩)] Tryz.func141 (by kernel_rfl) (by kernel_rfl)
def ztx (aO:Option Addr) (aL aC:Nat) (k:Int) (w:World) (R:Value→World→Prop):Prop :=
 (∃(aa:List Value→World→Prop) (mu:List Value→World→Nat),(∀wr,ExtX [] w wr→(∀bq∈([]:List Nat),bq<wr.heap.size)→aa [.int .i64 k,.int .i64 0] wr) ∧
 ∀(k1 i:Int) wv,(∀bq∈([]:List Nat),bq<wv.heap.size)→aa [.int .i64 k1,.int .i64 i] wv →
 ((decide (i<(aL:Int)))=true →
 (3:Int)≠0 ∧
 Ix aO aL i ∧
 WrX [] wv aO (Int.toNat i*1) 1 ∧
 InR .i64 (k1+1) ∧
 InR .i64 (i+1) ∧
 (∀ba,ExtX [] (sto wv aO (Int.toNat i*1) [.bool ((Int.tmod k1 3)==0)]) ba→(∀bq∈([]:List Nat),bq<ba.heap.size)→aa [.int .i64 (k1+1),.int .i64 (i+1)] ba∧mu [.int .i64 (k1+1),.int .i64 (i+1)] ba<mu [.int .i64 k1,.int .i64 i] wv)) ∧
 ((decide (i<(aL:Int)))=false →
 (∀ca,ExtX [] wv ca→R (.int .i64 k1) ca)))
theorem zt6 (aO aL aC k):EfV (ztx aO aL aC k) zhr #[.slice aO aL aC,.int .i64 k]:=eV [] false [(2,⟨[(1,.int .i64),(5,.int .i64)],[],[0],[],[]⟩)] Tryz.func142 (by kernel_rfl) (by kernel_rfl)
def zr9 (aO:Option Addr) (aL aC:Nat) (k:Int) (w:World) (R:Value→World→Prop):Prop :=
 (∃(aa:List Value→World→Prop) (mu:List Value→World→Nat),(∀wr,ExtX [] w wr→(∀bq∈([]:List Nat),bq<wr.heap.size)→aa [.int .i64 k,.int .i64 0] wr) ∧
 ∀(k1 i:Int) wv,(∀bq∈([]:List Nat),bq<wv.heap.size)→aa [.int .i64 k1,.int .i64 i] wv →
 ((decide (i<(aL:Int)))=true →
 Ix aO aL i ∧
 WrX [] wv aO (Int.toNat i*5+0) 1 ∧
 InR .i64 (k1+1) ∧
 (3:Int)≠0 ∧
 Ix aO aL i ∧
 WrX [] (sto wv aO (Int.toNat i*5+0) [.int .i64 k1]) aO (Int.toNat i*5+1) 1 ∧
 InR .i64 ((k1+1)+1) ∧
 Ix aO aL i ∧
 WrX [] (sto (sto wv aO (Int.toNat i*5+0) [.int .i64 k1]) aO (Int.toNat i*5+1) [.bool ((Int.tmod (k1+1) 3)==0)]) aO (Int.toNat i*5+2) 1 ∧
 InR .i64 (((k1+1)+1)+1) ∧
 Ix aO aL i ∧
 WrX [] (sto (sto (sto wv aO (Int.toNat i*5+0) [.int .i64 k1]) aO (Int.toNat i*5+1) [.bool ((Int.tmod (k1+1) 3)==0)]) aO (Int.toNat i*5+2) [.int .i64 ((k1+1)+1)]) aO (Int.toNat i*5+3) 1 ∧
 InR .i64 ((((k1+1)+1)+1)+1) ∧
 Ix aO aL i ∧
 WrX [] (sto (sto (sto (sto wv aO (Int.toNat i*5+0) [.int .i64 k1]) aO (Int.toNat i*5+1) [.bool ((Int.tmod (k1+1) 3)==0)]) aO (Int.toNat i*5+2) [.int .i64 ((k1+1)+1)]) aO (Int.toNat i*5+3) [.int .i64 (((k1+1)+1)+1)]) aO (Int.toNat i*5+4) 1 ∧
 InR .i64 (((((k1+1)+1)+1)+1)+1) ∧
 InR .i64 (i+1) ∧
 (∀ba,ExtX [] (sto (sto (sto (sto (sto wv aO (Int.toNat i*5+0) [.int .i64 k1]) aO (Int.toNat i*5+1) [.bool ((Int.tmod (k1+1) 3)==0)]) aO (Int.toNat i*5+2) [.int .i64 ((k1+1)+1)]) aO (Int.toNat i*5+3) [.int .i64 (((k1+1)+1)+1)]) aO (Int.toNat i*5+4) [.int .i64 ((((k1+1)+1)+1)+1)]) ba→(∀bq∈([]:List Nat),bq<ba.heap.size)→aa [.int .i64 (((((k1+1)+1)+1)+1)+1),.int .i64 (i+1)] ba∧mu [.int .i64 (((((k1+1)+1)+1)+1)+1),.int .i64 (i+1)] ba<mu [.int .i64 k1,.int .i64 i] wv)) ∧
 ((decide (i<(aL:Int)))=false →
 (∀ca,ExtX [] wv ca→R (.int .i64 k1) ca)))
theorem zsf (aO aL aC k):EfV (zr9 aO aL aC k) zgy #[.slice aO aL aC,.int .i64 k]:=eV [] false [(2,⟨[(1,.int .i64),(5,.int .i64)],[],[0],[],[]⟩)] Tryz.func143 (by kernel_rfl) (by kernel_rfl)
def zr8 (aO:Option Addr) (aL aC:Nat) (k:Int) (w:World) (R:Value→World→Prop):Prop :=
 (∃(aa:List Value→World→Prop) (mu:List Value→World→Nat),(∀wr,ExtX [] w wr→(∀bq∈([]:List Nat),bq<wr.heap.size)→aa [.int .i64 k,.int .i64 0] wr) ∧
 ∀(k1 i:Int) wv,(∀bq∈([]:List Nat),bq<wv.heap.size)→aa [.int .i64 k1,.int .i64 i] wv →
 ((decide (i<(aL:Int)))=true →
 (3:Int)≠0 ∧
 Ix aO aL i ∧
 WrX [] wv aO (Int.toNat i*14+0) 1 ∧
 InR .i64 (k1+1) ∧
 Ix aO aL i ∧
 WrX [] (sto wv aO (Int.toNat i*14+0) [.bool ((Int.tmod k1 3)==0)]) aO (Int.toNat i*14+1) 1 ∧
 InR .i64 ((k1+1)+1) ∧
 (∃(ba:ByteArray),
 zab [] Tryz.prog zf5 #[.int .i64 ((k1+1)+1)] (sto (sto wv aO (Int.toNat i*14+0) [.bool ((Int.tmod k1 3)==0)]) aO (Int.toNat i*14+1) [.int .i64 (k1+1)]) (.string ba) ∧
 Ix aO aL i ∧
 WrX [] (sto (sto wv aO (Int.toNat i*14+0) [.bool ((Int.tmod k1 3)==0)]) aO (Int.toNat i*14+1) [.int .i64 (k1+1)]) aO (Int.toNat i*14+2) 1 ∧
 InR .i64 (((k1+1)+1)+1) ∧
 Ix aO aL i ∧
 WrX [] (sto (sto (sto wv aO (Int.toNat i*14+0) [.bool ((Int.tmod k1 3)==0)]) aO (Int.toNat i*14+1) [.int .i64 (k1+1)]) aO (Int.toNat i*14+2) [.string ba]) aO (Int.toNat i*14+3) 1 ∧
 InR .i64 ((((k1+1)+1)+1)+1) ∧
 Ix aO aL i ∧
 WrX [] (sto (sto (sto (sto wv aO (Int.toNat i*14+0) [.bool ((Int.tmod k1 3)==0)]) aO (Int.toNat i*14+1) [.int .i64 (k1+1)]) aO (Int.toNat i*14+2) [.string ba]) aO (Int.toNat i*14+3) [.int .i64 (((k1+1)+1)+1)]) aO (Int.toNat i*14+4) 1 ∧
 InR .i64 (((((k1+1)+1)+1)+1)+1) ∧
 Ix aO aL i ∧
 WrX [] (sto (sto (sto (sto (sto wv aO (Int.toNat i*14+0) [.bool ((Int.tmod k1 3)==0)]) aO (Int.toNat i*14+1) [.int .i64 (k1+1)]) aO (Int.toNat i*14+2) [.string ba]) aO (Int.toNat i*14+3) [.int .i64 (((k1+1)+1)+1)]) aO (Int.toNat i*14+4) [.int .i64 ((((k1+1)+1)+1)+1)]) aO (Int.toNat i*14+5) 1 ∧
 InR .i64 ((((((k1+1)+1)+1)+1)+1)+1) ∧
 Ix aO aL i ∧
 WrX [] (sto (sto (sto (sto (sto (sto wv aO (Int.toNat i*14+0) [.bool ((Int.tmod k1 3)==0)]) aO (Int.toNat i*14+1) [.int .i64 (k1+1)]) aO (Int.toNat i*14+2) [.string ba]) aO (Int.toNat i*14+3) [.int .i64 (((k1+1)+1)+1)]) aO (Int.toNat i*14+4) [.int .i64 ((((k1+1)+1)+1)+1)]) aO (Int.toNat i*14+5) [.int .i64 (((((k1+1)+1)+1)+1)+1)]) aO (Int.toNat i*14+6) 1 ∧
 InR .i64 (((((((k1+1)+1)+1)+1)+1)+1)+1) ∧
 Ix aO aL i ∧
 WrX [] (sto (sto (sto (sto (sto (sto (sto wv aO (Int.toNat i*14+0) [.bool ((Int.tmod k1 3)==0)]) aO (Int.toNat i*14+1) [.int .i64 (k1+1)]) aO (Int.toNat i*14+2) [.string ba]) aO (Int.toNat i*14+3) [.int .i64 (((k1+1)+1)+1)]) aO (Int.toNat i*14+4) [.int .i64 ((((k1+1)+1)+1)+1)]) aO (Int.toNat i*14+5) [.int .i64 (((((k1+1)+1)+1)+1)+1)]) aO (Int.toNat i*14+6) [.int .i64 ((((((k1+1)+1)+1)+1)+1)+1)]) aO (Int.toNat i*14+7) 1 ∧
 InR .i64 ((((((((k1+1)+1)+1)+1)+1)+1)+1)+1) ∧
 Ix aO aL i ∧
 WrX [] (sto (sto (sto (sto (sto (sto (sto (sto wv aO (Int.toNat i*14+0) [.bool ((Int.tmod k1 3)==0)]) aO (Int.toNat i*14+1) [.int .i64 (k1+1)]) aO (Int.toNat i*14+2) [.string ba]) aO (Int.toNat i*14+3) [.int .i64 (((k1+1)+1)+1)]) aO (Int.toNat i*14+4) [.int .i64 ((((k1+1)+1)+1)+1)]) aO (Int.toNat i*14+5) [.int .i64 (((((k1+1)+1)+1)+1)+1)]) aO (Int.toNat i*14+6) [.int .i64 ((((((k1+1)+1)+1)+1)+1)+1)]) aO (Int.toNat i*14+7) [.int .i64 (((((((k1+1)+1)+1)+1)+1)+1)+1)]) aO (Int.toNat i*14+8+0) 1 ∧
 InR .i64 (((((((((k1+1)+1)+1)+1)+1)+1)+1)+1)+1) ∧
 Ix aO aL i ∧
 WrX [] (sto (sto (sto (sto (sto (sto (sto (sto (sto wv aO (Int.toNat i*14+0) [.bool ((Int.tmod k1 3)==0)]) aO (Int.toNat i*14+1) [.int .i64 (k1+1)]) aO (Int.toNat i*14+2) [.string ba]) aO (Int.toNat i*14+3) [.int .i64 (((k1+1)+1)+1)]) aO (Int.toNat i*14+4) [.int .i64 ((((k1+1)+1)+1)+1)]) aO (Int.toNat i*14+5) [.int .i64 (((((k1+1)+1)+1)+1)+1)]) aO (Int.toNat i*14+6) [.int .i64 ((((((k1+1)+1)+1)+1)+1)+1)]) aO (Int.toNat i*14+7) [.int .i64 (((((((k1+1)+1)+1)+1)+1)+1)+1)]) aO (Int.toNat i*14+8+0) [.int .i64 ((((((((k1+1)+1)+1)+1)+1)+1)+1)+1)]) aO (Int.toNat i*14+8+1) 1 ∧
 InR .i64 ((((((((((k1+1)+1)+1)+1)+1)+1)+1)+1)+1)+1) ∧
 Ix aO aL i ∧
 WrX [] (sto (sto (sto (sto (sto (sto (sto (sto (sto (sto wv aO (Int.toNat i*14+0) [.bool ((Int.tmod k1 3)==0)]) aO (Int.toNat i*14+1) [.int .i64 (k1+1)]) aO (Int.toNat i*14+2) [.string ba]) aO (Int.toNat i*14+3) [.int .i64 (((k1+1)+1)+1)]) aO (Int.toNat i*14+4) [.int .i64 ((((k1+1)+1)+1)+1)]) aO (Int.toNat i*14+5) [.int .i64 (((((k1+1)+1)+1)+1)+1)]) aO (Int.toNat i*14+6) [.int .i64 ((((((k1+1)+1)+1)+1)+1)+1)]) aO (Int.toNat i*14+7) [.int .i64 (((((((k1+1)+1)+1)+1)+1)+1)+1)]) aO (Int.toNat i*14+8+0) [.int .i64 ((((((((k1+1)+1)+1)+1)+1)+1)+1)+1)]) aO (Int.toNat i*14+8+1) [.int .i64 (((((((((k1+1)+1)+1)+1)+1)+1)+1)+1)+1)]) aO (Int.toNat i*14+8+2) 1 ∧
 InR .i64 (((((((((((k1+1)+1)+1)+1)+1)+1)+1)+1)+1)+1)+1) ∧
 Ix aO aL i ∧
 (∃ca da ea,
 zaa [] (sto (sto (sto (sto (sto (sto (sto (sto (sto (sto (sto wv aO (Int.toNat i*14+0) [.bool ((Int.tmod k1 3)==0)]) aO (Int.toNat i*14+1) [.int .i64 (k1+1)]) aO (Int.toNat i*14+2) [.string ba]) aO (Int.toNat i*14+3) [.int .i64 (((k1+1)+1)+1)]) aO (Int.toNat i*14+4) [.int .i64 ((((k1+1)+1)+1)+1)]) aO (Int.toNat i*14+5) [.int .i64 (((((k1+1)+1)+1)+1)+1)]) aO (Int.toNat i*14+6) [.int .i64 ((((((k1+1)+1)+1)+1)+1)+1)]) aO (Int.toNat i*14+7) [.int .i64 (((((((k1+1)+1)+1)+1)+1)+1)+1)]) aO (Int.toNat i*14+8+0) [.int .i64 ((((((((k1+1)+1)+1)+1)+1)+1)+1)+1)]) aO (Int.toNat i*14+8+1) [.int .i64 (((((((((k1+1)+1)+1)+1)+1)+1)+1)+1)+1)]) aO (Int.toNat i*14+8+2) [.int .i64 ((((((((((k1+1)+1)+1)+1)+1)+1)+1)+1)+1)+1)]) aO (Int.toNat i*14+8+3) [.slice ca da ea] ∧
 (∀fa,ExtX [] (sto (sto (sto (sto (sto (sto (sto (sto (sto (sto (sto wv aO (Int.toNat i*14+0) [.bool ((Int.tmod k1 3)==0)]) aO (Int.toNat i*14+1) [.int .i64 (k1+1)]) aO (Int.toNat i*14+2) [.string ba]) aO (Int.toNat i*14+3) [.int .i64 (((k1+1)+1)+1)]) aO (Int.toNat i*14+4) [.int .i64 ((((k1+1)+1)+1)+1)]) aO (Int.toNat i*14+5) [.int .i64 (((((k1+1)+1)+1)+1)+1)]) aO (Int.toNat i*14+6) [.int .i64 ((((((k1+1)+1)+1)+1)+1)+1)]) aO (Int.toNat i*14+7) [.int .i64 (((((((k1+1)+1)+1)+1)+1)+1)+1)]) aO (Int.toNat i*14+8+0) [.int .i64 ((((((((k1+1)+1)+1)+1)+1)+1)+1)+1)]) aO (Int.toNat i*14+8+1) [.int .i64 (((((((((k1+1)+1)+1)+1)+1)+1)+1)+1)+1)]) aO (Int.toNat i*14+8+2) [.int .i64 ((((((((((k1+1)+1)+1)+1)+1)+1)+1)+1)+1)+1)]) fa→(∀bq∈([]:List Nat),bq<fa.heap.size) →
 Calls Tryz.prog ziv #[.slice ca da ea,.int .i64 (((((((((((k1+1)+1)+1)+1)+1)+1)+1)+1)+1)+1)+1)] fa fun e ga =>
 (∃ha,
 e = .returned (.int .i64 ha)∧Kept [] fa ga ∧
 Ix aO aL i ∧
 (∃ia ja ka,
 zaa [] ga aO (Int.toNat i*14+8+4) [.slice ia ja ka] ∧
 (∀la,ExtX [] ga la→(∀bq∈([]:List Nat),bq<la.heap.size) →
 Calls Tryz.prog zhr #[.slice ia ja ka,.int .i64 ha] la fun e1 ma =>
 (∃na,
 e1 = .returned (.int .i64 na)∧Kept [] la ma ∧
 Ix aO aL i ∧
 (∃oa pa qa,
 zaa [] ma aO (Int.toNat i*14+13) [.slice oa pa qa] ∧
 (∀ra,ExtX [] ma ra→(∀bq∈([]:List Nat),bq<ra.heap.size) →
 Calls Tryz.prog zgy #[.slice oa pa qa,.int .i64 na] ra fun e2 sa =>
 (∃ta,
 e2 = .returned (.int .i64 ta)∧Kept [] ra sa ∧
 InR .i64 (i+1) ∧
 (∀ua,ExtX [] sa ua→(∀bq∈([]:List Nat),bq<ua.heap.size)→aa [.int .i64 ta,.int .i64 (i+1)] ua∧mu [.int .i64 ta,.int .i64 (i+1)] ua<mu [.int .i64 k1,.int .i64 i] wv)))))))))))) ∧
 ((decide (i<(aL:Int)))=false →
 (∀va,ExtX [] wv va→R (.int .i64 k1) va)))
theorem zse (aO aL aC k):EfV (zr8 aO aL aC k) zgx #[.slice aO aL aC,.int .i64 k]:=eV [] false [(2,⟨[(1,.int .i64),(5,.int .i64)],[],[0],[],[]⟩)] Tryz.func57 (by kernel_rfl) (by kernel_rfl)
def ztz (a0:Int) (ia:Option Addr) (ja ka:Nat) (la:Option Addr) (ma na:Nat) (oa:Option Addr) (pa qa:Nat) (k:Int) (w:World) (R:Value→World→Prop):Prop :=
 (∀b,w.heap.size≤b →
 (∀wr,ExtX [] w wr→(∀bq∈([b]:List Nat),bq<wr.heap.size) →
 Calls Tryz.prog ziu #[.slice ia ja ka,.int .i64 k] wr fun e wv =>
 (∃aa,
 e = .returned (.int .i64 aa)∧Kept [b] wr wv ∧
 (∀ba,ExtX [b] wv ba→(∀bq∈([b]:List Nat),bq<ba.heap.size) →
 Calls Tryz.prog zhs #[.slice la ma na,.int .i64 aa] ba fun e1 ca =>
 (∃da,
 e1 = .returned (.int .i64 da)∧Kept [b] ba ca ∧
 (∀ea,ExtX [b] ca ea→(∀bq∈([b]:List Nat),bq<ea.heap.size) →
 Calls Tryz.prog zgx #[.slice oa pa qa,.int .i64 da] ea fun e2 fa =>
 (∃ga,
 e2 = .returned (.int .i64 ga)∧Kept [b] ea fa ∧
 (∀ha,ExtX [b] fa ha→R (.int .i64 ga) ha))))))))
theorem zt8 (a0 a1O a1L a1C a2O a2L a2C a3O a3L a3C k):EfV (ztz a0 a1O a1L a1C a2O a2L a2C a3O a3L a3C k) zfh #[.agg #[.int .i64 a0,.slice a1O a1L a1C,.slice a2O a2L a2C,.slice a3O a3L a3C],.int .i64 k]:=eV [] false [] Tryz.func17 (by kernel_rfl) (by kernel_rfl)
def zvn (aO:Option Addr) (aL aC:Nat) (k:Int) (w:World) (R:Value→World→Prop):Prop :=
 (∃(aa:List Value→Prop) (mu:List Value→Nat),aa [.int .i64 k,.int .i64 0] ∧
 ∀(k1 i:Int),aa [.int .i64 k1,.int .i64 i] →
 ((decide (i<(aL:Int)))=true →
 Ix aO aL i ∧
 (∃up,
 zaa [] w aO (Int.toNat i*5+0) [.bool up] ∧
 (3:Int)≠0 ∧
 ((!(up==((Int.tmod k1 3)==0)))=true →
 R (.int .i64 (-1)) w) ∧
 ((!(up==((Int.tmod k1 3)==0)))=false →
 InR .i64 (k1+1) ∧
 Ix aO aL i ∧
 (∃ba,
 zaa [] w aO (Int.toNat i*5+1) [.int .i64 ba] ∧
 ((ba != (k1+1))=true →
 R (.int .i64 (-1)) w) ∧
 ((ba != (k1+1))=false →
 InR .i64 ((k1+1)+1) ∧
 Ix aO aL i ∧
 (∃ca,
 zaa [] w aO (Int.toNat i*5+2) [.int .i64 ca] ∧
 ((ca != ((k1+1)+1))=true →
 R (.int .i64 (-1)) w) ∧
 ((ca != ((k1+1)+1))=false →
 InR .i64 (((k1+1)+1)+1) ∧
 Ix aO aL i ∧
 (∃da,
 zaa [] w aO (Int.toNat i*5+3) [.int .i64 da] ∧
 ((da != (((k1+1)+1)+1))=true →
 R (.int .i64 (-1)) w) ∧
 ((da != (((k1+1)+1)+1))=false →
 InR .i64 ((((k1+1)+1)+1)+1) ∧
 Ix aO aL i ∧
 (∃ea,
 zaa [] w aO (Int.toNat i*5+4) [.int .i64 ea] ∧
 ((ea != ((((k1+1)+1)+1)+1))=true →
 R (.int .i64 (-1)) w) ∧
 ((ea != ((((k1+1)+1)+1)+1))=false →
 InR .i64 (((((k1+1)+1)+1)+1)+1) ∧
 InR .i64 (i+1) ∧
 aa [.int .i64 (((((k1+1)+1)+1)+1)+1),.int .i64 (i+1)]∧mu [.int .i64 (((((k1+1)+1)+1)+1)+1),.int .i64 (i+1)]<mu [.int .i64 k1,.int .i64 i]))))))))))) ∧
 ((decide (i<(aL:Int)))=false →
 R (.int .i64 k1) w))
theorem zya (aO aL aC k):PuV (zvn aO aL aC k) zis #[.slice aO aL aC,.int .i64 k]:=pV [] false [(2,⟨[(1,.int .i64),(5,.int .i64)],[],[0],[],[]⟩)] Tryz.func58 (by kernel_rfl) (by kernel_rfl)
end Go.Proofs.YthhmnlcimojhlaaGreatDoor
namespace Go.Proofs.YthhmnlcimojhlaaGreatDoor
open Go.RowKit
set_option linter.unusedVariables false
set_option maxRecDepth 100000
set_option maxHeartbeats 1600000
def ztv (aO:Option Addr) (aL aC:Nat) (k:Int) (w:World) (R:Value→World→Prop):Prop :=
 (∃(aa:List Value→Prop) (mu:List Value→Nat),aa [.int .i64 k,.int .i64 0] ∧
 ∀(k1 i:Int),aa [.int .i64 k1,.int .i64 i] →
 ((decide (i<(aL:Int)))=true →
 Ix aO aL i ∧
 (∃ba,
 zaa [] w aO (Int.toNat i*9+0) [.int .i64 ba] ∧
 ((ba != k1)=true →
 R (.int .i64 (-1)) w) ∧
 ((ba != k1)=false →
 InR .i64 (k1+1) ∧
 Ix aO aL i ∧
 (∃ca,
 zaa [] w aO (Int.toNat i*9+1) [.int .i64 ca] ∧
 ((ca != (k1+1))=true →
 R (.int .i64 (-1)) w) ∧
 ((ca != (k1+1))=false →
 InR .i64 ((k1+1)+1) ∧
 Ix aO aL i ∧
 (∃da,
 zaa [] w aO (Int.toNat i*9+2) [.int .i64 da] ∧
 ((da != ((k1+1)+1))=true →
 R (.int .i64 (-1)) w) ∧
 ((da != ((k1+1)+1))=false →
 InR .i64 (((k1+1)+1)+1) ∧
 Ix aO aL i ∧
 (∃ea,
 zaa [] w aO (Int.toNat i*9+3) [.int .i64 ea] ∧
 ((ea != (((k1+1)+1)+1))=true →
 R (.int .i64 (-1)) w) ∧
 ((ea != (((k1+1)+1)+1))=false →
 InR .i64 ((((k1+1)+1)+1)+1) ∧
 Ix aO aL i ∧
 (∃fa,
 zaa [] w aO (Int.toNat i*9+4) [.int .i64 fa] ∧
 ((fa != ((((k1+1)+1)+1)+1))=true →
 R (.int .i64 (-1)) w) ∧
 ((fa != ((((k1+1)+1)+1)+1))=false →
 InR .i64 (((((k1+1)+1)+1)+1)+1) ∧
 Ix aO aL i ∧
 (∃v,
 zaa [] w aO (Int.toNat i*9+5) [.int .i64 v] ∧
 ((v != (((((k1+1)+1)+1)+1)+1))=true →
 R (.int .i64 (-1)) w) ∧
 ((v != (((((k1+1)+1)+1)+1)+1))=false →
 InR .i64 ((((((k1+1)+1)+1)+1)+1)+1) ∧
 Ix aO aL i ∧
 (∃ga,
 zaa [] w aO (Int.toNat i*9+6) [.int .i64 ga] ∧
 ((ga != ((((((k1+1)+1)+1)+1)+1)+1))=true →
 R (.int .i64 (-1)) w) ∧
 ((ga != ((((((k1+1)+1)+1)+1)+1)+1))=false →
 InR .i64 (((((((k1+1)+1)+1)+1)+1)+1)+1) ∧
 Ix aO aL i ∧
 (∃ha,
 zaa [] w aO (Int.toNat i*9+7) [.int .i64 ha] ∧
 ((ha != (((((((k1+1)+1)+1)+1)+1)+1)+1))=true →
 R (.int .i64 (-1)) w) ∧
 ((ha != (((((((k1+1)+1)+1)+1)+1)+1)+1))=false →
 InR .i64 ((((((((k1+1)+1)+1)+1)+1)+1)+1)+1) ∧
 Ix aO aL i ∧
 (∃ia,
 zaa [] w aO (Int.toNat i*9+8) [.int .i64 ia] ∧
 ((ia != ((((((((k1+1)+1)+1)+1)+1)+1)+1)+1))=true →
 R (.int .i64 (-1)) w) ∧
 ((ia != ((((((((k1+1)+1)+1)+1)+1)+1)+1)+1))=false →
 InR .i64 (((((((((k1+1)+1)+1)+1)+1)+1)+1)+1)+1) ∧
 InR .i64 (i+1) ∧
 aa [.int .i64 (((((((((k1+1)+1)+1)+1)+1)+1)+1)+1)+1),.int .i64 (i+1)]∧mu [.int .i64 (((((((((k1+1)+1)+1)+1)+1)+1)+1)+1)+1),.int .i64 (i+1)]<mu [.int .i64 k1,.int .i64 i]))))))))))))))))))) ∧
 ((decide (i<(aL:Int)))=false →
 R (.int .i64 k1) w))
theorem zuk (aO aL aC k):PuV (ztv aO aL aC k) zhq #[.slice aO aL aC,.int .i64 k]:=pV [] false [(2,⟨[(1,.int .i64),(5,.int .i64)],[],[0],[],[]⟩)] Tryz.func59 (by kernel_rfl) (by kernel_rfl)
def zvo (aO:Option Addr) (aL aC:Nat) (k:Int) (w:World) (R:Value→World→Prop):Prop :=
 (∃(aa:List Value→Prop) (mu:List Value→Nat),aa [.int .i64 k,.int .i64 0] ∧
 ∀(k1 i:Int),aa [.int .i64 k1,.int .i64 i] →
 ((decide (i<(aL:Int)))=true →
 Ix aO aL i ∧
 (∃x,
 zaa [] w aO (Int.toNat i*1) [.int .i64 x] ∧
 ((x != k1)=true →
 R (.int .i64 (-1)) w) ∧
 ((x != k1)=false →
 InR .i64 (k1+1) ∧
 InR .i64 (i+1) ∧
 aa [.int .i64 (k1+1),.int .i64 (i+1)]∧mu [.int .i64 (k1+1),.int .i64 (i+1)]<mu [.int .i64 k1,.int .i64 i]))) ∧
 ((decide (i<(aL:Int)))=false →
 R (.int .i64 k1) w))
theorem zyb (aO aL aC k):PuV (zvo aO aL aC k) zit #[.slice aO aL aC,.int .i64 k]:=pV [] false [(2,⟨[(1,.int .i64),(5,.int .i64)],[],[0],[],[]⟩)] Tryz.func144 (by kernel_rfl) (by kernel_rfl)
def ztu (aO:Option Addr) (aL aC:Nat) (k:Int) (w:World) (R:Value→World→Prop):Prop :=
 (∃(aa:List Value→Prop) (mu:List Value→Nat),aa [.int .i64 k,.int .i64 0] ∧
 ∀(k1 i:Int),aa [.int .i64 k1,.int .i64 i] →
 ((decide (i<(aL:Int)))=true →
 Ix aO aL i ∧
 (∃x,
 zaa [] w aO (Int.toNat i*1) [.bool x] ∧
 (3:Int)≠0 ∧
 ((!(x==((Int.tmod k1 3)==0)))=true →
 R (.int .i64 (-1)) w) ∧
 ((!(x==((Int.tmod k1 3)==0)))=false →
 InR .i64 (k1+1) ∧
 InR .i64 (i+1) ∧
 aa [.int .i64 (k1+1),.int .i64 (i+1)]∧mu [.int .i64 (k1+1),.int .i64 (i+1)]<mu [.int .i64 k1,.int .i64 i]))) ∧
 ((decide (i<(aL:Int)))=false →
 R (.int .i64 k1) w))
theorem zuj (aO aL aC k):PuV (ztu aO aL aC k) zhp #[.slice aO aL aC,.int .i64 k]:=pV [] false [(2,⟨[(1,.int .i64),(5,.int .i64)],[],[0],[],[]⟩)] Tryz.func145 (by kernel_rfl) (by kernel_rfl)
def zr7 (aO:Option Addr) (aL aC:Nat) (k:Int) (w:World) (R:Value→World→Prop):Prop :=
 (∃(aa:List Value→Prop) (mu:List Value→Nat),aa [.int .i64 k,.int .i64 0] ∧
 ∀(k1 i:Int),aa [.int .i64 k1,.int .i64 i] →
 ((decide (i<(aL:Int)))=true →
 Ix aO aL i ∧
 (∃ba,
 zaa [] w aO (Int.toNat i*5+0) [.int .i64 ba] ∧
 ((ba != k1)=true →
 R (.int .i64 (-1)) w) ∧
 ((ba != k1)=false →
 InR .i64 (k1+1) ∧
 Ix aO aL i ∧
 (∃ca,
 zaa [] w aO (Int.toNat i*5+1) [.bool ca] ∧
 (3:Int)≠0 ∧
 ((!(ca==((Int.tmod (k1+1) 3)==0)))=true →
 R (.int .i64 (-1)) w) ∧
 ((!(ca==((Int.tmod (k1+1) 3)==0)))=false →
 InR .i64 ((k1+1)+1) ∧
 Ix aO aL i ∧
 (∃v,
 zaa [] w aO (Int.toNat i*5+2) [.int .i64 v] ∧
 ((v != ((k1+1)+1))=true →
 R (.int .i64 (-1)) w) ∧
 ((v != ((k1+1)+1))=false →
 InR .i64 (((k1+1)+1)+1) ∧
 Ix aO aL i ∧
 (∃wv,
 zaa [] w aO (Int.toNat i*5+3) [.int .i64 wv] ∧
 ((wv != (((k1+1)+1)+1))=true →
 R (.int .i64 (-1)) w) ∧
 ((wv != (((k1+1)+1)+1))=false →
 InR .i64 ((((k1+1)+1)+1)+1) ∧
 Ix aO aL i ∧
 (∃da,
 zaa [] w aO (Int.toNat i*5+4) [.int .i64 da] ∧
 ((da != ((((k1+1)+1)+1)+1))=true →
 R (.int .i64 (-1)) w) ∧
 ((da != ((((k1+1)+1)+1)+1))=false →
 InR .i64 (((((k1+1)+1)+1)+1)+1) ∧
 InR .i64 (i+1) ∧
 aa [.int .i64 (((((k1+1)+1)+1)+1)+1),.int .i64 (i+1)]∧mu [.int .i64 (((((k1+1)+1)+1)+1)+1),.int .i64 (i+1)]<mu [.int .i64 k1,.int .i64 i]))))))))))) ∧
 ((decide (i<(aL:Int)))=false →
 R (.int .i64 k1) w))
theorem zsu (aO aL aC k):PuV (zr7 aO aL aC k) zgw #[.slice aO aL aC,.int .i64 k]:=pV [] false [(2,⟨[(1,.int .i64),(5,.int .i64)],[],[0],[],[]⟩)] Tryz.func146 (by kernel_rfl) (by kernel_rfl)
def zr6 (aO:Option Addr) (aL aC:Nat) (k:Int) (w:World) (R:Value→World→Prop):Prop :=
 (∃(aa:List Value→Prop) (mu:List Value→Nat),aa [.int .i64 k,.int .i64 0] ∧
 ∀(k1 i:Int),aa [.int .i64 k1,.int .i64 i] →
 ((decide (i<(aL:Int)))=true →
 Ix aO aL i ∧
 (∃ba,
 zaa [] w aO (Int.toNat i*14+0) [.bool ba] ∧
 (3:Int)≠0 ∧
 ((!(ba==((Int.tmod k1 3)==0)))=true →
 R (.int .i64 (-1)) w) ∧
 ((!(ba==((Int.tmod k1 3)==0)))=false →
 InR .i64 (k1+1) ∧
 Ix aO aL i ∧
 (∃ca,
 zaa [] w aO (Int.toNat i*14+1) [.int .i64 ca] ∧
 ((ca != (k1+1))=true →
 R (.int .i64 (-1)) w) ∧
 ((ca != (k1+1))=false →
 InR .i64 ((k1+1)+1) ∧
 Ix aO aL i ∧
 (∃(da:ByteArray),
 zaa [] w aO (Int.toNat i*14+2) [.string da] ∧
 (∃(ea:ByteArray),
 zab [] Tryz.prog zf5 #[.int .i64 ((k1+1)+1)] w (.string ea) ∧
 ((!zck da ea)=true →
 R (.int .i64 (-1)) w) ∧
 ((!zck da ea)=false →
 InR .i64 (((k1+1)+1)+1) ∧
 Ix aO aL i ∧
 (∃fa,
 zaa [] w aO (Int.toNat i*14+3) [.int .i64 fa] ∧
 ((fa != (((k1+1)+1)+1))=true →
 R (.int .i64 (-1)) w) ∧
 ((fa != (((k1+1)+1)+1))=false →
 InR .i64 ((((k1+1)+1)+1)+1) ∧
 Ix aO aL i ∧
 (∃ga,
 zaa [] w aO (Int.toNat i*14+4) [.int .i64 ga] ∧
 ((ga != ((((k1+1)+1)+1)+1))=true →
 R (.int .i64 (-1)) w) ∧
 ((ga != ((((k1+1)+1)+1)+1))=false →
 InR .i64 (((((k1+1)+1)+1)+1)+1) ∧
 Ix aO aL i ∧
 (∃ha,
 zaa [] w aO (Int.toNat i*14+5) [.int .i64 ha] ∧
 ((ha != (((((k1+1)+1)+1)+1)+1))=true →
 R (.int .i64 (-1)) w) ∧
 ((ha != (((((k1+1)+1)+1)+1)+1))=false →
 InR .i64 ((((((k1+1)+1)+1)+1)+1)+1) ∧
 Ix aO aL i ∧
 (∃ia,
 zaa [] w aO (Int.toNat i*14+6) [.int .i64 ia] ∧
 ((ia != ((((((k1+1)+1)+1)+1)+1)+1))=true →
 R (.int .i64 (-1)) w) ∧
 ((ia != ((((((k1+1)+1)+1)+1)+1)+1))=false →
 InR .i64 (((((((k1+1)+1)+1)+1)+1)+1)+1) ∧
 Ix aO aL i ∧
 (∃ja,
 zaa [] w aO (Int.toNat i*14+7) [.int .i64 ja] ∧
 ((ja != (((((((k1+1)+1)+1)+1)+1)+1)+1))=true →
 R (.int .i64 (-1)) w) ∧
 ((ja != (((((((k1+1)+1)+1)+1)+1)+1)+1))=false →
 InR .i64 ((((((((k1+1)+1)+1)+1)+1)+1)+1)+1) ∧
 Ix aO aL i ∧
 (∃ka,
 zaa [] w aO (Int.toNat i*14+8+0) [.int .i64 ka] ∧
 ((ka != ((((((((k1+1)+1)+1)+1)+1)+1)+1)+1))=true →
 R (.int .i64 (-1)) w) ∧
 ((ka != ((((((((k1+1)+1)+1)+1)+1)+1)+1)+1))=false →
 InR .i64 (((((((((k1+1)+1)+1)+1)+1)+1)+1)+1)+1) ∧
 Ix aO aL i ∧
 (∃la,
 zaa [] w aO (Int.toNat i*14+8+1) [.int .i64 la] ∧
 ((la != (((((((((k1+1)+1)+1)+1)+1)+1)+1)+1)+1))=true →
 R (.int .i64 (-1)) w) ∧
 ((la != (((((((((k1+1)+1)+1)+1)+1)+1)+1)+1)+1))=false →
 InR .i64 ((((((((((k1+1)+1)+1)+1)+1)+1)+1)+1)+1)+1) ∧
 Ix aO aL i ∧
 (∃ma,
 zaa [] w aO (Int.toNat i*14+8+2) [.int .i64 ma] ∧
 ((ma != ((((((((((k1+1)+1)+1)+1)+1)+1)+1)+1)+1)+1))=true →
 R (.int .i64 (-1)) w) ∧
 ((ma != ((((((((((k1+1)+1)+1)+1)+1)+1)+1)+1)+1)+1))=false →
 InR .i64 (((((((((((k1+1)+1)+1)+1)+1)+1)+1)+1)+1)+1)+1) ∧
 Ix aO aL i ∧
 (∃na oa pa,
 zaa [] w aO (Int.toNat i*14+8+3) [.slice na oa pa] ∧
 (∃qa,
 zab [] Tryz.prog zit #[.slice na oa pa,.int .i64 (((((((((((k1+1)+1)+1)+1)+1)+1)+1)+1)+1)+1)+1)] w (.int .i64 qa) ∧
 ((decide (qa<0))=true →
 R (.int .i64 (-1)) w) ∧
 ((decide (qa<0))=false →
 Ix aO aL i ∧
 (∃ra sa ta,
 zaa [] w aO (Int.toNat i*14+8+4) [.slice ra sa ta] ∧
 (∃ua,
 zab [] Tryz.prog zhp #[.slice ra sa ta,.int .i64 qa] w (.int .i64 ua) ∧
 ((decide (ua<0))=true →
 R (.int .i64 (-1)) w) ∧
 ((decide (ua<0))=false →
 Ix aO aL i ∧
 (∃va wa xa,
 zaa [] w aO (Int.toNat i*14+13) [.slice va wa xa] ∧
 (∃ya,
 zab [] Tryz.prog zgw #[.slice va wa xa,.int .i64 ua] w (.int .i64 ya) ∧
 ((decide (ya<0))=true →
 R (.int .i64 (-1)) w) ∧
 ((decide (ya<0))=false →
 InR .i64 (i+1) ∧
 aa [.int .i64 ya,.int .i64 (i+1)]∧mu [.int .i64 ya,.int .i64 (i+1)]<mu [.int .i64 k1,.int .i64 i]))))))))))))))))))))))))))))))))) ∧
 ((decide (i<(aL:Int)))=false →
 R (.int .i64 k1) w))
theorem zst (aO aL aC k):PuV (zr6 aO aL aC k) zgv #[.slice aO aL aC,.int .i64 k]:=pV [] false [(2,⟨[(1,.int .i64),(5,.int .i64)],[],[0],[],[]⟩)] Tryz.func60 (by kernel_rfl) (by kernel_rfl)
def ztw (a0:Int) (da:Option Addr) (ea fa:Nat) (ga:Option Addr) (ha ia:Nat) (ja:Option Addr) (ka la:Nat) (k:Int) (w:World) (R:Value→World→Prop):Prop :=
 (∀b,w.heap.size≤b →
 (∃aa,
 zab [] Tryz.prog zis #[.slice da ea fa,.int .i64 k] w (.int .i64 aa) ∧
 ((decide (aa<0))=true →
 R (.int .i64 (-1)) w) ∧
 ((decide (aa<0))=false →
 (∃ba,
 zab [] Tryz.prog zhq #[.slice ga ha ia,.int .i64 aa] w (.int .i64 ba) ∧
 ((decide (ba<0))=true →
 R (.int .i64 (-1)) w) ∧
 ((decide (ba<0))=false →
 (∃ca,
 zab [] Tryz.prog zgv #[.slice ja ka la,.int .i64 ba] w (.int .i64 ca) ∧
 ((decide (ca<0))=true →
 R (.int .i64 (-1)) w) ∧
 ((decide (ca<0))=false →
 R (.int .i64 ca) w)))))))
theorem zul (a0 a1O a1L a1C a2O a2L a2C a3O a3L a3C k):PuV (ztw a0 a1O a1L a1C a2O a2L a2C a3O a3L a3C k) zfg #[.agg #[.int .i64 a0,.slice a1O a1L a1C,.slice a2O a2L a2C,.slice a3O a3L a3C],.int .i64 k]:=pV [] false [] Tryz.func18 (by kernel_rfl) (by kernel_rfl)
def zvf (p0:Option Addr) (p1:Int) (w:World) (R:Value→World→Prop):Prop :=
 (∀b,w.heap.size≤b →
 p0.isSome=true ∧
 (∃aa ba ca,
 zaa [] w p0 (0+1) [.slice aa ba ca] ∧
 Ix aa ba p1 ∧
 R (.pointer (aa.map (·.add (Int.toNat p1*5)))) w))
theorem zx4 (p0 p1):PuV (zvf p0 p1) zbi #[.agg #[.pointer p0,.int .i64 p1]]:=pV [] false [] Tryz.func75 (by kernel_rfl) (by kernel_rfl)
def zo1 (p0:Option Addr) (p1:Int) (w:World) (R:Value→World→Prop):Prop :=
 (∀b,w.heap.size≤b →
 (∃aa,
 zab [] Tryz.prog zbi #[.agg #[.pointer p0,.int .i64 p1]] w (.pointer aa) ∧
 (∃ba,
 zab [] Tryz.prog zbi #[.agg #[.pointer p0,.int .i64 p1]] w (.pointer ba) ∧
 aa.isSome=true ∧
 WrX [] w aa (0+1) 1 ∧
 ba.isSome=true ∧
 WrX [] (sto w aa (0+1) [.int .i64 (-1)]) ba (0+2) 1 ∧
 (∀wr,ExtX [] (sto (sto w aa (0+1) [.int .i64 (-1)]) ba (0+2) [.int .i64 0]) wr→R (.tuple #[]) wr))))
theorem zo3 (p0 p1):EfV (zo1 p0 p1) zbx #[.agg #[.pointer p0,.int .i64 p1]]:=eV [] false [] Tryz.func89 (by kernel_rfl) (by kernel_rfl)
def z2e (ba ca:Int) (w:World) (R:Value→World→Prop):Prop :=
 (∃aa,
 zab [] Tryz.prog zgn #[.int .i64 ca] w (.int .i64 aa) ∧
 R (.int .i64 (if (if aa<ba then aa else ba)>0 then (if aa<ba then aa else ba) else 0)) w)
theorem z4o (lag weight):PuV (z2e lag weight) zkz #[.int .i64 lag,.int .i64 weight]:=pV [] false [] Tryz.func130 (by kernel_rfl) (by kernel_rfl)
def zqh (wv:Option Addr) (g:Int) (w:World) (R:Value→World→Prop):Prop :=
 (∃(aa:List Value→Prop) (mu:List Value→Nat),aa [.int .i64 g,.int .i64 0] ∧
 ∀(g1 ba:Int),aa [.int .i64 g1,.int .i64 ba] →
 ((g1 != 0)=true →
 InR .i64 (ba+1) ∧
 wv.isSome=true ∧
 (∃ca da ea,
 zaa [] w wv (0+3) [.slice ca da ea] ∧
 Ix ca da g1 ∧
 (∃fa,
 zaa [] w ca (Int.toNat g1*14+1) [.int .i64 fa] ∧
 aa [.int .i64 fa,.int .i64 (ba+1)]∧mu [.int .i64 fa,.int .i64 (ba+1)]<mu [.int .i64 g1,.int .i64 ba]))) ∧
 ((g1 != 0)=false →
 R (.int .i64 ba) w))
theorem zrf (wv g):PuV (zqh wv g) zga #[.pointer wv,.int .i64 g]:=pV [] false [(2,⟨[(1,.int .i64),(5,.int .i64)],[],[0],[],[]⟩)] Tryz.func205 (by kernel_rfl) (by kernel_rfl)
def zlv (p0:Option Addr) (p1:Int) (w:World) (R:Value→World→Prop):Prop :=
 (∀b,w.heap.size≤b →
 (∃(aa:List Value→World→Prop) (mu:List Value→World→Nat),(∀wr,ExtX [] w wr→(∀bq∈([b]:List Nat),bq<wr.heap.size)→aa [.int .i64 3] wr) ∧
 ∀(ba:Int) wv,(∀bq∈([b]:List Nat),bq<wv.heap.size)→aa [.int .i64 ba] wv →
 ((decide (ba≥1))=true →
 p0.isSome=true ∧
 (∃ca da ea,
 zaa [b] wv p0 (0+3) [.slice ca da ea] ∧
 (∃(fa:List Value→World→Prop) (ga:List Value→World→Nat),(∀ha,ExtX [b] wv ha→(∀bq∈([b]:List Nat),bq<ha.heap.size)→fa [.int .i64 0] ha) ∧
 ∀(x:Int) ia,(∀bq∈([b]:List Nat),bq<ia.heap.size)→fa [.int .i64 x] ia →
 ((decide (x<(da:Int)))=true →
 p0.isSome=true ∧
 (∃ja ka la,
 zaa [b] ia p0 (0+3) [.slice ja ka la] ∧
 Ix ja ka x ∧
 (∃ma,
 zaa [b] ia ja (Int.toNat x*14+0) [.bool ma] ∧
 (∃na,
 ((!ma)=false→zab [b] Tryz.prog zga #[.pointer p0,.int .i64 x] ia (.int .i64 na)) ∧
 (((!ma)||(na != ba))=true →
 InR .i64 (x+1) ∧
 (∀oa,ExtX [b] ia oa→(∀bq∈([b]:List Nat),bq<oa.heap.size)→fa [.int .i64 (x+1)] oa∧ga [.int .i64 (x+1)] oa<ga [.int .i64 x] ia)) ∧
 (((!ma)||(na != ba))=false →
 (∃pa,
 zab [b] Tryz.prog zah #[.agg #[.pointer p0,.int .i64 p1],.int .i64 x] ia (.pointer pa) ∧
 (∃qa,
 zab [b] Tryz.prog zcx #[.agg #[.pointer p0,.int .i64 p1],.int .i64 x] ia (.bool qa) ∧
 (∃ra,
 (qa=true→zab [b] Tryz.prog zf3 #[.agg #[.pointer p0,.int .i64 p1],.int .i64 x] ia (.bool ra)) ∧
 ((qa&&(!ra))=true→pa.isSome=true) ∧
 (∃sa,
 ((qa&&(!ra))=true→zaa [b] ia pa (0+1) [.bool sa]) ∧
 (((qa&&(!ra))&&(!sa))=true →
 p0.isSome=true ∧
 (∃ta ua va,
 zaa [b] ia p0 (0+3) [.slice ta ua va] ∧
 Ix ta ua x ∧
 (∃wa,
 zaa [b] ia ta (Int.toNat x*14+1) [.int .i64 wa] ∧
 (∃xa,
 zab [b] Tryz.prog zah #[.agg #[.pointer p0,.int .i64 p1],.int .i64 wa] ia (.pointer xa) ∧
 xa.isSome=true ∧
 (∃ya,
 zaa [b] ia xa (0+0) [.int .i64 ya] ∧
 pa.isSome=true ∧
 (∃v,
 zaa [b] ia pa (0+2) [.int .i64 v] ∧
 InR .i64 (v - ya) ∧
 pa.isSome=true ∧
 (∃za,
 zaa [b] ia pa (0+3) [.int .i64 za] ∧
 (∃ab,
 zab [b] Tryz.prog zkz #[.int .i64 (v - ya),.int .i64 za] ia (.int .i64 ab) ∧
 InR .i64 (ya+ab) ∧
 pa.isSome=true ∧
 WrX [b] ia pa (0+2) 1 ∧
 pa.isSome=true ∧
 WrX [b] (sto ia pa (0+2) [.int .i64 (ya+ab)]) pa (0+1) 1 ∧
 InR .i64 (x+1) ∧
 (∀bb,ExtX [b] (sto (sto ia pa (0+2) [.int .i64 (ya+ab)]) pa (0+1) [.bool (qa&&(!ra))]) bb→(∀bq∈([b]:List Nat),bq<bb.heap.size)→fa [.int .i64 (x+1)] bb∧ga [.int .i64 (x+1)] bb<ga [.int .i64 x] ia))))))))) ∧
 (((qa&&(!ra))&&(!sa))=false →
 pa.isSome=true ∧
 WrX [b] ia pa (0+1) 1 ∧
 InR .i64 (x+1) ∧
 (∀cb,ExtX [b] (sto ia pa (0+1) [.bool (qa&&(!ra))]) cb→(∀bq∈([b]:List Nat),bq<cb.heap.size)→fa [.int .i64 (x+1)] cb∧ga [.int .i64 (x+1)] cb<ga [.int .i64 x] ia))))))))))) ∧
 ((decide (x<(da:Int)))=false →
 InR .i64 (ba - 1) ∧
 (∀db,ExtX [b] ia db→(∀bq∈([b]:List Nat),bq<db.heap.size)→aa [.int .i64 (ba - 1)] db∧mu [.int .i64 (ba - 1)] db<mu [.int .i64 ba] wv))))) ∧
 ((decide (ba≥1))=false →
 (∀eb,ExtX [b] wv eb→R (.tuple #[]) eb))))
theorem zlw (p0 p1):EfV (zlv p0 p1) zb9 #[.agg #[.pointer p0,.int .i64 p1]]:=eV [] false [(2,⟨[(2,.int .i64)],[],[1],[],[]⟩),(5,⟨[(17,.int .i64)],[],[1,2,16],[],[]⟩)] Tryz.func132 (by kernel_rfl) (by kernel_rfl)
def zva (b:Option Addr) (w:World) (R:Value→World→Prop):Prop :=
 b.isSome=true ∧
 (∃aa ba ca,
 zaa [] w b (0+4) [.slice aa ba ca] ∧
 (∃(da:List Value→World→Prop) (mu:List Value→World→Nat),(∀wr,ExtX [] w wr→(∀bq∈([]:List Nat),bq<wr.heap.size)→da [.int .i64 0] wr) ∧
 ∀(x:Int) wv,(∀bq∈([]:List Nat),bq<wv.heap.size)→da [.int .i64 x] wv →
 ((decide (x<(ba:Int)))=true →
 b.isSome=true ∧
 (∃ea fa ga,
 zaa [] wv b (0+4) [.slice ea fa ga] ∧
 Ix ea fa x ∧
 WrX [] wv ea (Int.toNat x*1) 1 ∧
 InR .i64 (x+1) ∧
 (∀ha,ExtX [] (sto wv ea (Int.toNat x*1) [.bool false]) ha→(∀bq∈([]:List Nat),bq<ha.heap.size)→da [.int .i64 (x+1)] ha∧mu [.int .i64 (x+1)] ha<mu [.int .i64 x] wv))) ∧
 ((decide (x<(ba:Int)))=false →
 (∀ia,ExtX [] wv ia→R (.tuple #[]) ia))))
theorem zwk (b):EfV (zva b) zf0 #[.pointer b]:=eV [] false [(1,⟨[(8,.int .i64)],[],[0,7],[],[]⟩)] Tryz.func249 (by kernel_rfl) (by kernel_rfl)
def zpr (b:Option Addr) (w:World) (R:Value→World→Prop):Prop :=
 b.isSome=true ∧
 (∃aa,
 zaa [] w b (0+0) [.int .i64 aa] ∧
 b.isSome=true ∧
 WrX [] w b (0+1) 1 ∧
 b.isSome=true ∧
 WrX [] (sto w b (0+1) [.int .i64 aa]) b (0+2) 1 ∧
 b.isSome=true ∧
 (∃ba ca da,
 zaa [] (sto (sto w b (0+1) [.int .i64 aa]) b (0+2) [.int .i64 0]) b (0+3) [.slice ba ca da] ∧
 (∃(ea:List Value→World→Prop) (mu:List Value→World→Nat),(∀wr,ExtX [] (sto (sto w b (0+1) [.int .i64 aa]) b (0+2) [.int .i64 0]) wr→(∀bq∈([]:List Nat),bq<wr.heap.size)→ea [.int .i64 0] wr) ∧
 ∀(x:Int) wv,(∀bq∈([]:List Nat),bq<wv.heap.size)→ea [.int .i64 x] wv →
 ((decide (x<(ca:Int)))=true →
 b.isSome=true ∧
 (∃fa ga ha,
 zaa [] wv b (0+3) [.slice fa ga ha] ∧
 Ix fa ga x ∧
 WrX [] wv fa (Int.toNat x*1) 1 ∧
 InR .i64 (x+1) ∧
 (∀ia,ExtX [] (sto wv fa (Int.toNat x*1) [.int .i64 0]) ia→(∀bq∈([]:List Nat),bq<ia.heap.size)→ea [.int .i64 (x+1)] ia∧mu [.int .i64 (x+1)] ia<mu [.int .i64 x] wv))) ∧
 ((decide (x<(ca:Int)))=false →
 (∀ja,ExtX [] wv ja→(∀bq∈([]:List Nat),bq<ja.heap.size) →
 Calls Tryz.prog zf0 #[.pointer b] ja fun e ka =>
 e = .returned (.tuple #[])∧Kept [] ja ka ∧
 (∀la,ExtX [] ka la→R (.int .i64 0) la))))))
theorem zpy (b):EfV (zpr b) zfp #[.pointer b]:=eV [] false [(3,⟨[(19,.int .i64)],[],[0,18],[],[]⟩)] Tryz.func209 (by kernel_rfl) (by kernel_rfl)
def zrv (b:Option Addr) (na:Int) (w:World) (R:Value→World→Prop):Prop :=
 b.isSome=true ∧
 (∃aa ba ca,
 zaa [] w b (0+3) [.slice aa ba ca] ∧
 Ix aa ba na ∧
 (∃x,
 zaa [] w aa (Int.toNat na*1) [.int .i64 x] ∧
 ((decide (x>0))=true →
 (∀wr,ExtX [] w wr→R (.int .i64 0) wr)) ∧
 ((decide (x>0))=false →
 b.isSome=true ∧
 (∃da,
 zaa [] w b (0+1) [.int .i64 da] ∧
 (((if da<20 then da else 20)==0)=true →
 b.isSome=true ∧
 (∃ea fa ga,
 zaa [] w b (0+4) [.slice ea fa ga] ∧
 Ix ea fa na ∧
 WrX [] w ea (Int.toNat na*1) 1 ∧
 (∀ha,ExtX [] (sto w ea (Int.toNat na*1) [.bool true]) ha→R (.int .i64 2) ha))) ∧
 (((if da<20 then da else 20)==0)=false →
 b.isSome=true ∧
 (∃ia,
 zaa [] w b (0+1) [.int .i64 ia] ∧
 InR .i64 (ia - (if da<20 then da else 20)) ∧
 b.isSome=true ∧
 WrX [] w b (0+1) 1 ∧
 b.isSome=true ∧
 (∃ja ka la,
 zaa [] (sto w b (0+1) [.int .i64 (ia - (if da<20 then da else 20))]) b (0+3) [.slice ja ka la] ∧
 Ix ja ka na ∧
 WrX [] (sto w b (0+1) [.int .i64 (ia - (if da<20 then da else 20))]) ja (Int.toNat na*1) 1 ∧
 (∀ma,ExtX [] (sto (sto w b (0+1) [.int .i64 (ia - (if da<20 then da else 20))]) ja (Int.toNat na*1) [.int .i64 (if da<20 then da else 20)]) ma→R (.int .i64 0) ma))))))))
theorem zsb (b cpu):EfV (zrv b cpu) zgm #[.pointer b,.int .i64 cpu]:=eV [] false [] Tryz.func210 (by kernel_rfl) (by kernel_rfl)
def zqf (b:Option Addr) (ia n:Int) (w:World) (R:Value→World→Prop):Prop :=
 ((decide (n<1))=false→b.isSome=true) ∧
 (∃aa ba ca,
 ((decide (n<1))=false→zaa [] w b (0+3) [.slice aa ba ca]) ∧
 ((decide (n<1))=false→Ix aa ba ia) ∧
 (∃x,
 ((decide (n<1))=false→zaa [] w aa (Int.toNat ia*1) [.int .i64 x]) ∧
 (((decide (n<1))||(decide (n>x)))=true →
 (∀wr,ExtX [] w wr→R (.int .i64 3) wr)) ∧
 (((decide (n<1))||(decide (n>x)))=false →
 b.isSome=true ∧
 (∃da ea fa,
 zaa [] w b (0+3) [.slice da ea fa] ∧
 Ix da ea ia ∧
 (∃x1,
 zaa [] w da (Int.toNat ia*1) [.int .i64 x1] ∧
 InR .i64 (x1 - n) ∧
 Ix da ea ia ∧
 WrX [] w da (Int.toNat ia*1) 1 ∧
 b.isSome=true ∧
 (∃ga,
 zaa [] (sto w da (Int.toNat ia*1) [.int .i64 (x1 - n)]) b (0+2) [.int .i64 ga] ∧
 InR .i64 (ga+n) ∧
 b.isSome=true ∧
 WrX [] (sto w da (Int.toNat ia*1) [.int .i64 (x1 - n)]) b (0+2) 1 ∧
 (∀ha,ExtX [] (sto (sto w da (Int.toNat ia*1) [.int .i64 (x1 - n)]) b (0+2) [.int .i64 (ga+n)]) ha→R (.int .i64 0) ha)))))))
theorem zqs (b cpu n):EfV (zqf b cpu n) zf9 #[.pointer b,.int .i64 cpu,.int .i64 n]:=eV [] false [] Tryz.func211 (by kernel_rfl) (by kernel_rfl)
end Go.Proofs.YthhmnlcimojhlaaGreatDoor
