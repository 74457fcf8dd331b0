/- Part 8 of what the law FnStay needs: the engine, the functions' propositions, the contracts. -/
import Derived.Test.YtclpmgfpjeaibaaGreatDoorFnStayPg
namespace Go.Proofs.YtclpmgfpjeaibaaGreatDoor
open Go.RowKit
set_option linter.unusedVariables false
set_option maxRecDepth 100000
set_option maxHeartbeats 1600000
def zmj (wv:Option Addr) (w:World) (R:Value->World->Prop):Prop:=
 wv.isSome=true/\
 (∃aa ba ca,
 zaa [] w wv (0+3) [S aa ba ca]/\
 (∃(da:List Value->Prop) (mu:List Value->Nat),da [I 0]/\
 ∀(x:Int),da [I x]->
 ((decide (x<(ba:Int)))=true->
 Ix aa ba x/\
 (∃(x0:Bool) (x1:Int) (x2:ByteArray) (x3 x4 x5 x6 x7 x8 x9 ea:Int) (fa:Option Addr) (ga ha:Nat) (ia:Option Addr) (ja ka:Nat) (la:Option Addr) (ma na:Nat),
 zaa [] w aa (Int.toNat x*14) [.bool x0,I x1,.string x2,I x3,I x4,I x5,I x6,I x7,I x8,I x9,I ea,S fa ga ha,S ia ja ka,S la ma na]/\
 (∀b,w.heap.size<=b->
 (∃(oa:List Value->Prop) (pa:List Value->Nat),oa [I 0]/\
 ∀(qa:Int),oa [I qa]->
 ((decide (qa<(ma:Int)))=true->
 Ix la ma qa/\
 (∃ra sa ta ua va,
 zaa [] w la (Int.toNat qa*5) [I ra,.bool sa,I ta,I ua,I va]/\
 (∀b1,w.heap.size<=b1->
 (∀b2,w.heap.size<=b2->
 (∃wa,
 (∀wx,ExtX [] w wx->wx.heap[b2]? = some (Obj.cells ([I ra,I ta,I va]:List Value).toArray zao (0,0))->zad [] Tryz.prog zb3 #[S (some (Addr.mk b2 0 none)) 3 3] wx (.bool wa))/\
 (∃xa,
 ((!wa)=false->zad [] Tryz.prog zes #[I ua] w (.bool xa))/\
 (((!wa)||(!xa))=true->
 R (.bool false) w)/\
 (((!wa)||(!xa))=false->
 InR .i64 (qa+1)/\
 oa [I (qa+1)]/\pa [I (qa+1)]<pa [I qa])))))))/\
 ((decide (qa<(ma:Int)))=false->
 InR .i64 (x+1)/\
 da [I (x+1)]/\mu [I (x+1)]<mu [I x])))))/\
 ((decide (x<(ba:Int)))=false->
 wv.isSome=true/\
 (∃ya za ab,
 zaa [] w wv (0+1) [S ya za ab]/\
 (∃(bb:List Value->Prop) (cb:List Value->Nat),bb [I 0]/\
 ∀(db:Int),bb [I db]->
 ((decide (db<(za:Int)))=true->
 (∃eb fb,
 zad [] Tryz.prog zbl #[.pointer wv,I db] w (.agg #[.pointer eb,I fb])/\
 (∀b3,w.heap.size<=b3->
 (∃gb,
 zad [] Tryz.prog zak #[.agg #[.pointer eb,I fb],I 0] w (.pointer gb)/\
 gb.isSome=true/\
 (∃hb,
 zaa [] w gb (0+1) [.bool hb]/\
 (hb=false->gb.isSome=true)/\
 (∃v,
 (hb=false->zaa [] w gb (0+2) [I v])/\
 ((hb||(v != 0))=false->gb.isSome=true)/\
 (∃ib,
 ((hb||(v != 0))=false->zaa [] w gb (0+3) [I ib])/\
 (((hb||(v != 0))||(ib != 10))=true->
 R (.bool false) w)/\
 (((hb||(v != 0))||(ib != 10))=false->
 (∃(jb:List Value->Prop) (kb:List Value->Nat),jb [I 1]/\
 ∀(g:Int),jb [I g]->
 ((decide (g<8))=true->
 eb.isSome=true/\
 (∃lb mb nb,
 zaa [] w eb (0+3) [S lb mb nb]/\
 Ix lb mb g/\
 (∃ob,
 zaa [] w lb (Int.toNat g*14+0) [.bool ob]/\
 ((!ob)=true->
 InR .i64 (g+1)/\
 jb [I (g+1)]/\kb [I (g+1)]<kb [I g])/\
 ((!ob)=false->
 (∃pb,
 zad [] Tryz.prog zak #[.agg #[.pointer eb,I fb],I g] w (.pointer pb)/\
 pb.isSome=true/\
 (∃qb,
 zaa [] w pb (0+1) [.bool qb]/\
 (∃rb,
 zad [] Tryz.prog zde #[.agg #[.pointer eb,I fb],I g] w (.bool rb)/\
 (∃sb,
 (rb=true->zad [] Tryz.prog zgc #[.agg #[.pointer eb,I fb],I g] w (.bool sb))/\
 ((!(qb==(rb&&(!sb))))=false->pb.isSome=true)/\
 (∃tb,
 ((!(qb==(rb&&(!sb))))=false->zaa [] w pb (0+1) [.bool tb])/\
 (tb=true->((!(qb==(rb&&(!sb))))=false->pb.isSome=true))/\
 (∃v1,
 (tb=true->((!(qb==(rb&&(!sb))))=false->zaa [] w pb (0+2) [I v1]))/\
 (tb=true->((!(qb==(rb&&(!sb))))=false->eb.isSome=true))/\
 (∃ub vb wb,
 (tb=true->((!(qb==(rb&&(!sb))))=false->zaa [] w eb (0+3) [S ub vb wb]))/\
 (tb=true->((!(qb==(rb&&(!sb))))=false->Ix ub vb g))/\
 (∃xb,
 (tb=true->((!(qb==(rb&&(!sb))))=false->zaa [] w ub (Int.toNat g*14+1) [I xb]))/\
 (∃yb,
 (tb=true->((!(qb==(rb&&(!sb))))=false->zad [] Tryz.prog zak #[.agg #[.pointer eb,I fb],I xb] w (.pointer yb)))/\
 (tb=true->((!(qb==(rb&&(!sb))))=false->yb.isSome=true))/\
 (∃zb,
 (tb=true->((!(qb==(rb&&(!sb))))=false->zaa [] w yb (0+0) [I zb]))/\
 (tb=true->((!(qb==(rb&&(!sb))))=false->pb.isSome=true))/\
 (∃ac,
 (tb=true->((!(qb==(rb&&(!sb))))=false->zaa [] w pb (0+3) [I ac]))/\
 (∃bc,
 (tb=true->((!(qb==(rb&&(!sb))))=false->zad [] Tryz.prog zh3 #[I v1,I zb,I ac] w (.bool bc)))/\
 (((!(qb==(rb&&(!sb))))||(tb&&(!bc)))=true->
 R (.bool false) w)/\
 (((!(qb==(rb&&(!sb))))||(tb&&(!bc)))=false->
 InR .i64 (g+1)/\
 jb [I (g+1)]/\kb [I (g+1)]<kb [I g])))))))))))))))))/\
 ((decide (g<8))=false->
 InR .i64 (db+1)/\
 bb [I (db+1)]/\cb [I (db+1)]<cb [I db]))))))))))/\
 ((decide (db<(za:Int)))=false->
 R (.bool true) w))))))
theorem zmp (wv):PuV (zmj wv) zc5 #[.pointer wv]:=pV [] false [(2,⟨[(17,.int .i64)],[],[0,15,16],[],[]⟩),(5,⟨[(24,.int .i64)],[],[0,15,16,17,22,23],[],[]⟩),(12,⟨[(50,.int .i64)],[],[0,49],[],[]⟩),(19,⟨[(10,.int .i64)],[],[0,8,49,50],[],[]⟩)] Tryz.func52 (by kernel_rfl) (by kernel_rfl)
def zmk (wv:Option Addr) (ia:Int) (w:World) (R:Value->World->Prop):Prop:=
 wv.isSome=true/\
 (∃aa ba ca,
 zaa [] w wv (0+2) [S aa ba ca]/\
 InR .i64 ((ba:Int) - 1)/\
 (∃da,
 zad [] Tryz.prog zaj #[I ia,I 0,I ((ba:Int) - 1)] w (.bool da)/\
 (da=true->wv.isSome=true)/\
 (∃ea fa ga,
 (da=true->zaa [] w wv (0+2) [S ea fa ga])/\
 (da=true->Ix ea fa ia)/\
 (∃ha,
 (da=true->zaa [] w ea (Int.toNat ia*9+0) [I ha])/\
 R (.bool (da&&(ha != 0))) w))))
theorem zmq (wv task):PuV (zmk wv task) zej #[.pointer wv,.int .i64 task]:=pV [] false [] Tryz.func106 (by kernel_rfl) (by kernel_rfl)
def zp8 (p0:Option Addr) (p1 ka:Int) (w:World) (R:Value->World->Prop):Prop:=
 (∀b,w.heap.size<=b->
 p0.isSome=true/\
 (∃aa ba ca,
 zaa [] w p0 (0+2) [S aa ba ca]/\
 Ix aa ba ka/\
 (∃x0 x1 x2 x3 x4 x5 x6 x7 x8,
 zaa [] w aa (Int.toNat ka*9) [I x0,I x1,I x2,I x3,I x4,I x5,I x6,I x7,I x8]/\
 (∀b1,w.heap.size<=b1->
 (((x0 != 1)||(x2 != p1))=true->
 R (.bool false) w)/\
 (((x0 != 1)||(x2 != p1))=false->
 (∃(da:List Value->Prop) (mu:List Value->Nat),da [I x1]/\
 ∀(g:Int),da [I g]->
 ((g != 0)=true->
 (∃ea,
 zad [] Tryz.prog zak #[.agg #[.pointer p0,I p1],I g] w (.pointer ea)/\
 ea.isSome=true/\
 (∃fa,
 zaa [] w ea (0+1) [.bool fa]/\
 ((!fa)=true->
 R (.bool false) w)/\
 ((!fa)=false->
 p0.isSome=true/\
 (∃ga ha ia,
 zaa [] w p0 (0+3) [S ga ha ia]/\
 Ix ga ha g/\
 (∃ja,
 zaa [] w ga (Int.toNat g*14+1) [I ja]/\
 da [I ja]/\mu [I ja]<mu [I g]))))))/\
 ((g != 0)=false->
 R (.bool true) w)))))))
theorem zre (p0 p1 task):PuV (zp8 p0 p1 task) zek #[.agg #[.pointer p0,.int .i64 p1],.int .i64 task]:=pV [] false [(5,⟨[(6,.int .i64)],[],[2],[],[]⟩)] Tryz.func107 (by kernel_rfl) (by kernel_rfl)
def zpf (wv:Option Addr) (w:World) (R:Value->World->Prop):Prop:=
 wv.isSome=true/\
 (∃aa ba ca,
 zaa [] w wv (0+1) [S aa ba ca]/\
 (∃(da:List Value->Prop) (mu:List Value->Nat),da [I 0]/\
 ∀(x:Int),da [I x]->
 ((decide (x<(ba:Int)))=true->
 Ix aa ba x/\
 (∃x0 x1 x2 x3 x4,
 zaa [] w aa (Int.toNat x*5) [.bool x0,I x1,I x2,I x3,I x4]/\
 (∀b,w.heap.size<=b->
 (∀b1,w.heap.size<=b1->
 (∃ea,
 (∀wx,ExtX [] w wx->wx.heap[b1]? = some (Obj.cells ([I x3,I x4]:List Value).toArray zao (0,0))->zad [] Tryz.prog zb3 #[S (some (Addr.mk b1 0 none)) 2 2] wx (.bool ea))/\
 ((!ea)=true->
 R (.bool false) w)/\
 ((!ea)=false->
 (((x1==(-1))&&(x2==0))=true->
 InR .i64 (x+1)/\
 da [I (x+1)]/\mu [I (x+1)]<mu [I x])/\
 (((x1==(-1))&&(x2==0))=false->
 (∃fa ga,
 zad [] Tryz.prog zbl #[.pointer wv,I x] w (.agg #[.pointer fa,I ga])/\
 (∀b2,w.heap.size<=b2->
 (∃ha,
 ((!x0)=false->zad [] Tryz.prog zej #[.pointer wv,I x1] w (.bool ha))/\
 (∃ia,
 (((!x0)||(!ha))=false->zad [] Tryz.prog zek #[.agg #[.pointer fa,I ga],I x1] w (.bool ia))/\
 (∃ja,
 ((((!x0)||(!ha))||(!ia))=false->zad [] Tryz.prog zaj #[I x2,I 1,I 149] w (.bool ja))/\
 (((((!x0)||(!ha))||(!ia))||(!ja))=true->
 R (.bool false) w)/\
 (((((!x0)||(!ha))||(!ia))||(!ja))=false->
 wv.isSome=true/\
 (∃ka la ma,
 zaa [] w wv (0+2) [S ka la ma]/\
 Ix ka la x1/\
 (∃na oa pa qa ra x5 x6 x7 x8,
 zaa [] w ka (Int.toNat x1*9) [I na,I oa,I pa,I qa,I ra,I x5,I x6,I x7,I x8]/\
 (∀b3,w.heap.size<=b3->
 zaa [] w ka (Int.toNat x1*9) [I na,I oa,I pa,I qa,I ra,I x5,I x6,I x7,I x8]/\
 (some (zba,([.bool x0,I x1,I x2,I x3,I x4]:List Value))=some (zba,([.bool x0,I x1,I x2,I x3,I x4]:List Value)))/\
 zaa [] w wv (0+2) [S ka la ma]/\
 (∃sa,
 zad [] Tryz.prog zak #[.agg #[.pointer fa,I ga],I oa] w (.pointer sa)/\
 sa.isSome=true/\
 (∃ta,
 zaa [] w sa (0+0) [I ta]/\
 InR .i64 (x5 - ta)/\
 (∃ua,
 zad [] Tryz.prog zer #[I qa] w (I ua)/\
 (∃va,
 zad [] Tryz.prog zb9 #[I x2,I ua] w (I va)/\
 ((decide (x5 - ta>va))=true->
 R (.bool false) w)/\
 ((decide (x5 - ta>va))=false->
 (∃(wa:List Value->Prop) (xa:List Value->Nat),wa [I oa]/\
 ∀(g:Int),wa [I g]->
 ((g != 0)=true->
 (∃ya,
 zad [] Tryz.prog zak #[.agg #[.pointer fa,I ga],I g] w (.pointer ya)/\
 ya.isSome=true/\
 (∃v,
 zaa [] w ya (0+2) [I v]/\
 wv.isSome=true/\
 (∃za ab bb,
 zaa [] w wv (0+3) [S za ab bb]/\
 Ix za ab g/\
 (∃cb,
 zaa [] w za (Int.toNat g*14+1) [I cb]/\
 (∃db,
 zad [] Tryz.prog zak #[.agg #[.pointer fa,I ga],I cb] w (.pointer db)/\
 db.isSome=true/\
 (∃eb,
 zaa [] w db (0+0) [I eb]/\
 InR .i64 (v - eb)/\
 ya.isSome=true/\
 (∃fb,
 zaa [] w ya (0+3) [I fb]/\
 (∃gb,
 zad [] Tryz.prog zb9 #[I x2,I fb] w (I gb)/\
 ((decide (v - eb>gb))=true->
 R (.bool false) w)/\
 ((decide (v - eb>gb))=false->
 wv.isSome=true/\
 (∃hb ib jb,
 zaa [] w wv (0+3) [S hb ib jb]/\
 Ix hb ib g/\
 (∃kb,
 zaa [] w hb (Int.toNat g*14+1) [I kb]/\
 wa [I kb]/\xa [I kb]<xa [I g]))))))))))))/\
 ((g != 0)=false->
 InR .i64 (x+1)/\
 da [I (x+1)]/\mu [I (x+1)]<mu [I x])))))))))))))))))))))))/\
 ((decide (x<(ba:Int)))=false->
 R (.bool true) w)))
theorem zpw (wv):PuV (zpf wv) zd8 #[.pointer wv]:=pV [] false [(2,⟨[(14,.int .i64)],[],[0,12,13],[],[]⟩),(14,⟨[(7,.int .i64)],[],[0,4,5,12,13,14],[],[]⟩)] Tryz.func53 (by kernel_rfl) (by kernel_rfl)
def zy3 (w0:Int) (ja:Option Addr) (ka la:Nat) (ma:Option Addr) (na oa:Nat) (pa:Option Addr) (qa ra:Nat) (w:World) (R:Value->World->Prop):Prop:=
 (∀b wb,ExtX [] w wb->w.heap.size<=b->wb.heap[b]? = some (Obj.cells ([I w0,S ja ka la,S ma na oa,S pa qa ra]:List Value).toArray zab (0,0))->b∉([]:List Nat)->
 (∀b1,wb.heap.size<=b1->
 (∃(aa:List Value->World->Prop) (mu:List Value->World->Nat),(∀wr,ExtX [] wb wr->(∀bq∈[b1],bq<wr.heap.size)->aa [.bool true,I 0] wr)/\
 ∀(ok:Bool) (x:Int) wv,(∀bq∈[b1],bq<wv.heap.size)->aa [.bool ok,I x] wv->
 ((decide (x<5))=true->
 (∃(ba:Fn) (ca:Array Value) (da:Array Value),
 (0<=x/\x<(5:Int)/\(#[.func (.func zdt) #[] #[],.func (.func zdh) #[] #[],.func (.func zdu) #[] #[],.func (.func zc5) #[] #[],.func (.func zd8) #[] #[]]:Array Value)[Int.toNat x]? = some (.func ba ca da))/\
 (∀ea,ExtX [b1] wv ea->(∀bq∈[b1],bq<ea.heap.size)->
 zmh Tryz.prog (.func ba ca da) [.pointer ((some (Addr.mk b 0 none)).map (·.add 0))] ea fun e fa=>
 (∃rv,
 e = .returned (.bool rv)/\Kept [b1] ea fa/\
 ((!rv)=true->
 (∀ga,ExtX [b1] fa ga->R (.bool false) ga))/\
 ((!rv)=false->
 InR .i64 (x+1)/\
 (∀ha,ExtX [b1] fa ha->(∀bq∈[b1],bq<ha.heap.size)->aa [.bool ok,I (x+1)] ha/\mu [.bool ok,I (x+1)] ha<mu [.bool ok,I x] wv))))))/\
 ((decide (x<5))=false->
 (∀ia,ExtX [b1] wv ia->R (.bool ok) ia)))))
theorem zzk (w0 w1O w1L w1C w2O w2L w2C w3O w3L w3C):EfV (zy3 w0 w1O w1L w1C w2O w2L w2C w3O w3L w3C) zjr #[.agg #[.int .i64 w0,.slice w1O w1L w1C,.slice w2O w2L w2C,.slice w3O w3L w3C]]:=eV [1] false [(4,⟨[(4,.bool),(9,.int .i64)],[],[1,8],[],[]⟩)] Tryz.func18 (by kernel_rfl) (by kernel_rfl)
def zmu (wv:Option Addr) (ea:Int) (w:World) (R:Value->World->Prop):Prop:=
 wv.isSome=true/\
 (∃aa ba ca,
 zaa [] w wv (0+1) [S aa ba ca]/\
 InR .i64 ((ba:Int) - 1)/\
 (∃da,
 zad [] Tryz.prog zaj #[I ea,I 0,I ((ba:Int) - 1)] w (.bool da)/\
 R (.bool da) w))
theorem znm (wv cpu):PuV (zmu wv cpu) ze0 #[.pointer wv,.int .i64 cpu]:=pV [] false [] Tryz.func19 (by kernel_rfl) (by kernel_rfl)
def zvb (p0:Option Addr) (p1:Int) (w:World) (R:Value->World->Prop):Prop:=
 (∀b,w.heap.size<=b->
 p0.isSome=true/\
 (∃aa ba ca,
 zaa [] w p0 (0+1) [S aa ba ca]/\
 Ix aa ba p1/\
 R (.pointer (aa.map (·.add (Int.toNat p1*5)))) w))
theorem zxx (p0 p1):PuV (zvb p0 p1) zbs #[.agg #[.pointer p0,.int .i64 p1]]:=pV [] false [] Tryz.func55 (by kernel_rfl) (by kernel_rfl)
def zpi (p0:Option Addr) (p1 g:Int) (w:World) (R:Value->World->Prop):Prop:=
 (∀b,w.heap.size<=b->
 p0.isSome=true/\
 (∃aa ba ca,
 zaa [] w p0 (0+2) [S aa ba ca]/\
 (∃(da:List Value->World->Prop) (mu:List Value->World->Nat),(∀wr,ExtX [] w wr->(∀bq∈[b],bq<wr.heap.size)->da [S none 0 0,I 0] wr)/\
 ∀(ea:Option Addr) (fa ga:Nat) (x:Int) wv,(∀bq∈[b],bq<wv.heap.size)->da [S ea fa ga,I x] wv->
 ((decide (x<(ba:Int)))=true->
 Ix aa ba x/\
 (∃x0 x1 x2 x3 x4 x5 x6 x7 x8,
 zaa [b] wv aa (Int.toNat x*9) [I x0,I x1,I x2,I x3,I x4,I x5,I x6,I x7,I x8]/\
 (∀b1,wv.heap.size<=b1->
 (∃ha,
 zad [b] Tryz.prog zdf #[.agg #[.pointer p0,I p1],I x,I g] wv (.bool ha)/\
 (ha=true->
 (∀b2,wv.heap.size<=b2->
 (∀ia,ExtX [b] wv ia->(∀bq∈[b,b1,b2],bq<ia.heap.size)->ia.heap[b2]? = some (Obj.cells ([.iface zd3 (.agg #[I x,I x0,I x1,I x2,I x3,I x4,I x5,I x6,I x7,I x8])]:List Value).toArray zbe (0,0))->
 (∃ja ka la,
 ∃ma,(builtin .append #[zbx,zbx] zbx #[false,false] #[S ea fa ga,S (some (Addr.mk b2 0 none)) 1 1]).run Tryz.prog ia = .ok (.value (S ja ka la)) ma/\Kept [b,b1,b2] ia ma/\
 InR .i64 (x+1)/\
 (∀na,ExtX [b,b1,b2] ma na->(∀bq∈[b,b1,b2],bq<na.heap.size)->da [S ja ka la,I (x+1)] na/\mu [S ja ka la,I (x+1)] na<mu [S ea fa ga,I x] wv)))))/\
 (ha=false->
 InR .i64 (x+1)/\
 (∀oa,ExtX [b] wv oa->(∀bq∈[b,b1],bq<oa.heap.size)->da [S ea fa ga,I (x+1)] oa/\mu [S ea fa ga,I (x+1)] oa<mu [S ea fa ga,I x] wv))))))/\
 ((decide (x<(ba:Int)))=false->
 p0.isSome=true/\
 (∃pa qa ra,
 zaa [b] wv p0 (0+3) [S pa qa ra]/\
 (∃(sa:List Value->World->Prop) (ta:List Value->World->Nat),(∀ua,ExtX [b] wv ua->(∀bq∈[b],bq<ua.heap.size)->sa [S ea fa ga,I 0] ua)/\
 ∀(va:Option Addr) (wa xa:Nat) (x9:Int) ya,(∀bq∈[b],bq<ya.heap.size)->sa [S va wa xa,I x9] ya->
 ((decide (x9<(qa:Int)))=true->
 (∃za,
 zad [b] Tryz.prog zdv #[.agg #[.pointer p0,I p1],I x9,I g] ya (.bool za)/\
 (za=true->
 (∃ab,
 zad [b] Tryz.prog zak #[.agg #[.pointer p0,I p1],I x9] ya (.pointer ab)/\
 ab.isSome=true/\
 (∃bb cb db eb fb,
 zaa [b] ya ab 0 [I bb,.bool cb,I db,I eb,I fb]/\
 (∀b3,ya.heap.size<=b3->
 (∀gb,ExtX [b] ya gb->(∀bq∈[b,b3],bq<gb.heap.size)->gb.heap[b3]? = some (Obj.cells ([.iface zeq (.agg #[I x9,I bb,.bool cb,I db,I eb,I fb])]:List Value).toArray zbe (0,0))->
 (∃hb ib jb,
 ∃kb,(builtin .append #[zbx,zbx] zbx #[false,false] #[S va wa xa,S (some (Addr.mk b3 0 none)) 1 1]).run Tryz.prog gb = .ok (.value (S hb ib jb)) kb/\Kept [b,b3] gb kb/\
 InR .i64 (x9+1)/\
 (∀lb,ExtX [b,b3] kb lb->(∀bq∈[b,b3],bq<lb.heap.size)->sa [S hb ib jb,I (x9+1)] lb/\ta [S hb ib jb,I (x9+1)] lb<ta [S va wa xa,I x9] ya)))))))/\
 (za=false->
 InR .i64 (x9+1)/\
 (∀mb,ExtX [b] ya mb->(∀bq∈[b],bq<mb.heap.size)->sa [S va wa xa,I (x9+1)] mb/\ta [S va wa xa,I (x9+1)] mb<ta [S va wa xa,I x9] ya))))/\
 ((decide (x9<(qa:Int)))=false->
 (∀nb,ExtX [b] ya nb->R (S va wa xa) nb))))))))
theorem zpo (p0 p1 g):EfV (zpi p0 p1 g) zf0 #[.agg #[.pointer p0,.int .i64 p1],.int .i64 g]:=eV [] false [(3,⟨[(5,.slice),(15,.int .i64)],[],[1,2,13,14],[],[]⟩),(9,⟨[(5,.slice),(38,.int .i64)],[],[1,2,37],[],[]⟩)] Tryz.func56 (by kernel_rfl) (by kernel_rfl)
def zfa (xO:Option Addr) (xL xC:Nat) (ga:Fn) (ha:Array Value) (ia:Array Value) (w:World) (R:Value->World->Prop):Prop:=
 ((decide ((xL:Int)<1))=true->
 False)/\
 ((decide ((xL:Int)<1))=false->
 Ix xO xL 0/\
 (∃(x1:Value),
 zaa [] w xO (Int.toNat 0*1) [x1]/\
 (∃(aa:List Value->World->Prop) (mu:List Value->World->Nat),(∀wr,ExtX [] w wr->(∀bq∈([]:List Nat),bq<wr.heap.size)->aa [x1,I 1] wr)/\
 ∀(m:Value) (i:Int) wv,(∀bq∈([]:List Nat),bq<wv.heap.size)->aa [m,I i] wv->
 ((decide (i<(xL:Int)))=true->
 Ix xO xL i/\
 (∃(x2:Value),
 zaa [] wv xO (Int.toNat i*1) [x2]/\
 (∀ba,ExtX [] wv ba->(∀bq∈([]:List Nat),bq<ba.heap.size)->
 zmh Tryz.prog (.func ga ha ia) [x2,m] ba fun e ca=>
 (∃rv,
 e = .returned (I rv)/\Kept [] ba ca/\
 ((decide (rv<0))=true->
 Ix xO xL i/\
 (∃(x3:Value),
 zaa [] ca xO (Int.toNat i*1) [x3]/\
 InR .i64 (i+1)/\
 (∀da,ExtX [] ca da->(∀bq∈([]:List Nat),bq<da.heap.size)->aa [x3,I (i+1)] da/\mu [x3,I (i+1)] da<mu [m,I i] wv)))/\
 ((decide (rv<0))=false->
 InR .i64 (i+1)/\
 (∀ea,ExtX [] ca ea->(∀bq∈([]:List Nat),bq<ea.heap.size)->aa [m,I (i+1)] ea/\mu [m,I (i+1)] ea<mu [m,I i] wv))))))/\
 ((decide (i<(xL:Int)))=false->
 (∀fa,ExtX [] wv fa->R m fa)))))
theorem zfb (xO xL xC cmpF cmpA cmpK):EfV (zfa xO xL xC cmpF cmpA cmpK) zbj #[.slice xO xL xC,.func cmpF cmpA cmpK]:=eV [] false [(5,⟨[(5,.other),(6,.int .i64)],[],[0,1],[],[]⟩)] Tryz.func57 (by kernel_rfl) (by kernel_rfl)
def zu5 (x:Int) (w:World) (R:Value->World->Prop):Prop:=
 R (.bool (x != x)) w
theorem zxu (x):PuV (zu5 x) zf8 #[.int .i64 x]:=pV [] false [] Tryz.func111 (by kernel_rfl) (by kernel_rfl)
def zrt (x y:Int) (w:World) (R:Value->World->Prop):Prop:=
 (∃(aa:Bool),
 zad [] Tryz.prog zf8 #[I x] w (.bool aa)/\
 (∃ba,
 zad [] Tryz.prog zf8 #[I y] w (.bool ba)/\
 (aa=true->
 (ba=true->
 R (I 0) w)/\
 (ba=false->
 R (I (-1)) w))/\
 (aa=false->
 (ba=true->
 R (I 1) w)/\
 (ba=false->
 ((decide (x<y))=true->
 R (I (-1)) w)/\
 ((decide (x<y))=false->
 ((decide (x>y))=true->
 R (I 1) w)/\
 ((decide (x>y))=false->
 R (I 0) w))))))
theorem zsi (x y):PuV (zrt x y) zgv #[.int .i64 x,.int .i64 y]:=pV [] false [] Tryz.func59 (by kernel_rfl) (by kernel_rfl)
def zp9 (a:Value) (b:Value) (w:World) (R:Value->World->Prop):Prop:=
 (∀wr,ExtX [] w wr->(∀bq∈([]:List Nat),bq<wr.heap.size)->
 (∃ (ff : FuncId) (aa : Array Value), (z7i "loop.example/stint/impl.time" a []).run Tryz.prog wr = .ok (.enter ff aa) wr ∧
 Calls Tryz.prog ff aa wr fun e wv=>
 (∃rv,
 e = .returned (I rv)/\Kept [] wr wv/\
 (∀ba,ExtX [] wv ba->(∀bq∈([]:List Nat),bq<ba.heap.size)->
 (∃ (ca : FuncId) (da : Array Value), (z7i "loop.example/stint/impl.time" b []).run Tryz.prog ba = .ok (.enter ca da) ba ∧
 Calls Tryz.prog ca da ba fun e1 ea=>
 (∃fa,
 e1 = .returned (I fa)/\Kept [] ba ea/\
 (∃(ga:Int),
 zad [] Tryz.prog zgv #[I rv,I fa] ea (I ga)/\
 (∀ha,ExtX [] ea ha->R (I ga) ha))))))))
theorem zql (a b):EfV (zp9 a b) zci #[a,b]:=eV [] false [] Tryz.func58 (by kernel_rfl) (by kernel_rfl)
def ztu (p0:Option Addr) (p1:Int) (w:World) (R:Value->World->Prop):Prop:=
 (∀b,w.heap.size<=b->
 (∃aa,
 zad [] Tryz.prog zbs #[.agg #[.pointer p0,I p1]] w (.pointer aa)/\
 aa.isSome=true/\
 (∃up,
 zaa [] w aa (0+0) [.bool up]/\
 ((!up)=true->
 (∀wr,ExtX [] w wr->R (I (-1)) wr))/\
 ((!up)=false->
 aa.isSome=true/\
 (∃ba,
 zaa [] w aa (0+1) [I ba]/\
 ((ba != (-1))=true->aa.isSome=true)/\
 (∃ca,
 ((ba != (-1))=true->zaa [] w aa (0+2) [I ca])/\
 (((ba != (-1))&&(decide (ca<50)))=true->
 aa.isSome=true/\
 (∃da,
 zaa [] w aa (0+1) [I da]/\
 (∀ea,ExtX [] w ea->R (I da) ea)))/\
 (((ba != (-1))&&(decide (ca<50)))=false->
 (∃(fa:List Value->World->Prop) (mu:List Value->World->Nat),(∀ga,ExtX [] w ga->(∀bq∈[b],bq<ga.heap.size)->fa [I 0] ga)/\
 ∀(g:Int) wv,(∀bq∈[b],bq<wv.heap.size)->fa [I g] wv->
 (∀ha,ExtX [b] wv ha->(∀bq∈[b],bq<ha.heap.size)->
 Calls Tryz.prog zf0 #[.agg #[.pointer p0,I p1],I g] ha fun e ia=>
 (∃ja ka la,
 e = .returned (S ja ka la)/\Kept [b] ha ia/\
 (((ka:Int)==0)=true->
 (∀ma,ExtX [b] ia ma->R (I (-1)) ma))/\
 (((ka:Int)==0)=false->
 (∀na,ExtX [b] ia na->(∀bq∈[b],bq<na.heap.size)->
 Calls Tryz.prog zbj #[S ja ka la,.func (.func zci) #[] #[]] na fun e1 oa=>
 (∃(pa:Value),
 e1 = .returned pa/\Kept [b] na oa/\
 (∃ta qa ra sa ua va wa xa ya za ab,
 (∀wq,(Instr.typeAssert pa zbe zd3 true).run Tryz.prog wq = .ok (.tuple #[.agg #[I ta,I qa,I ra,I sa,I ua,I va,I wa,I xa,I ya,I za],.bool ab]) wq)/\
 (ab=true->
 (∀b1,oa.heap.size<=b1->
 (∀bb,ExtX [b] oa bb->R (I ta) bb)))/\
 (ab=false->
 (∃cb db eb fb gb hb ib,
 (∀jb,(Instr.typeAssert pa zbe zeq true).run Tryz.prog jb = .ok (.tuple #[.agg #[I cb,I db,.bool eb,I fb,I gb,I hb],.bool ib]) jb)/\
 (ib=true->
 (∀b2,oa.heap.size<=b2->
 (∀kb,ExtX [b] oa kb->(∀bq∈[b,b2],bq<kb.heap.size)->fa [I cb] kb/\mu [I cb] kb<mu [I g] wv)))/\
 (ib=false->
 (∀lb,ExtX [b] oa lb->(∀bq∈[b],bq<lb.heap.size)->fa [I g] lb/\mu [I g] lb<mu [I g] wv))))))))))))))))))
theorem zt3 (p0 p1):EfV (ztu p0 p1) zhs #[.agg #[.pointer p0,.int .i64 p1]]:=eV [] false [(7,⟨[(4,.int .i64)],[],[1],[],[]⟩)] Tryz.func21 (by kernel_rfl) (by kernel_rfl)
def zu9 (b0 b1 b2:Int) (oa:Option Addr) (pa qa:Nat) (ra:Option Addr) (sa ta:Nat) (w:World) (R:Value->World->Prop):Prop:=
 (∀b,w.heap.size<=b->
 (∀b5,w.heap.size<=b5->
 (∀wr,ExtX [] w wr->(∀bq∈[b,b5],bq<wr.heap.size)->
 (∃aa ba ca,
 ∃wv,((Instr.makeSlice zee (I (pa:Int)) (I (pa:Int))):Sem Value).run Tryz.prog wr = .ok (S aa ba ca) wv/\Kept [b,b5] wr wv/\
 (∀da,ExtX [b,b5] wv da->(∀bq∈[b,b5],bq<da.heap.size)->
 (∃ap,
 ∃ea,(builtin .copy #[zee,zee] zao #[false,false] #[S aa ba ca,S oa pa qa]).run Tryz.prog da = .ok (.value (I ap)) ea/\Kept [b,b5] da ea/\
 (∀fa,ExtX [b,b5] ea fa->(∀bq∈[b,b5],bq<fa.heap.size)->
 (∃ga ha ia,
 ∃ja,((Instr.makeSlice zgr (I (sa:Int)) (I (sa:Int))):Sem Value).run Tryz.prog fa = .ok (S ga ha ia) ja/\Kept [b,b5] fa ja/\
 (∀ka,ExtX [b,b5] ja ka->(∀bq∈[b,b5],bq<ka.heap.size)->
 (∃la,
 ∃ma,(builtin .copy #[zgr,zgr] zao #[false,false] #[S ga ha ia,S ra sa ta]).run Tryz.prog ka = .ok (.value (I la)) ma/\Kept [b,b5] ka ma/\
 (∀na,ExtX [b,b5] ma na->R (.agg #[I b0,I b1,I b2,S aa ba ca,S ga ha ia]) na)))))))))))
theorem zwi (b0 b1 b2 b3O b3L b3C b4O b4L b4C):EfV (zu9 b0 b1 b2 b3O b3L b3C b4O b4L b4C) zis #[.agg #[.int .i64 b0,.int .i64 b1,.int .i64 b2,.slice b3O b3L b3C,.slice b4O b4L b4C]]:=eV [] false [] Tryz.func139 (by kernel_rfl) (by kernel_rfl)
def ztw (w0:Int) (sb:Option Addr) (tb ub:Nat) (vb:Option Addr) (wb xb:Nat) (yb:Option Addr) (zb ac:Nat) (w:World) (R:Value->World->Prop):Prop:=
 (∀b,w.heap.size<=b->
 (∀b1,w.heap.size<=b1->
 (∀b2,w.heap.size<=b2->
 (∀wr,ExtX [] w wr->(∀bq∈[b,b1,b2],bq<wr.heap.size)->
 (∃aa ba ca,
 ∃wv,(builtin .append #[zbf,zbf] zbf #[false,false] #[S none 0 0,S sb tb ub]).run Tryz.prog wr = .ok (.value (S aa ba ca)) wv/\Kept [b,b1,b2] wr wv/\
 (∀da,ExtX [b,b1,b2] wv da->(∀bq∈[b,b1,b2],bq<da.heap.size)->
 (∃ea fa ga,
 ∃ha,(builtin .append #[za2,za2] za2 #[false,false] #[S none 0 0,S vb wb xb]).run Tryz.prog da = .ok (.value (S ea fa ga)) ha/\Kept [b,b1,b2] da ha/\
 (∀ia,ExtX [b,b1,b2] ha ia->(∀bq∈[b,b1,b2],bq<ia.heap.size)->
 (∃ja ka la,
 ∃ma,(builtin .append #[zal,zal] zal #[false,false] #[S none 0 0,S yb zb ac]).run Tryz.prog ia = .ok (.value (S ja ka la)) ma/\Kept [b,b1,b2] ia ma/\
 (∃(na:List Value->World->Prop) (mu:List Value->World->Nat),(∀oa,ExtX [b,b1,b2] ma oa->(∀bq∈[b,b1,b2],bq<oa.heap.size)->na [I 0] oa)/\
 ∀(x:Int) pa,(∀bq∈[b,b1,b2],bq<pa.heap.size)->na [I x] pa->
 ((decide (x<(ka:Int)))=true->
 Ix yb zb x/\
 (∃(x0:Bool) (x1:Int) (x2:ByteArray) (x3 x4 x5 x6 x7 x8 x9 qa:Int) (ra:Option Addr) (sa ta:Nat) (ua:Option Addr) (va wa:Nat) (xa:Option Addr) (ya za:Nat),
 zaa [b,b1,b2] pa yb (Int.toNat x*14) [.bool x0,I x1,.string x2,I x3,I x4,I x5,I x6,I x7,I x8,I x9,I qa,S ra sa ta,S ua va wa,S xa ya za]/\
 (∀b3,pa.heap.size<=b3->
 (∀ab,ExtX [b,b1,b2] pa ab->(∀bq∈[b,b1,b2,b3],bq<ab.heap.size)->
 Calls Tryz.prog zis #[.agg #[I x8,I x9,I qa,S ra sa ta,S ua va wa]] ab fun e bb=>
 (∃cb db eb fb gb hb ib jb kb,
 e = .returned (.agg #[I cb,I db,I eb,S fb gb hb,S ib jb kb])/\Kept [b,b1,b2,b3] ab bb/\
 (some (zab,([I w0,S aa ba ca,S ea fa ga,S ja ka la]:List Value))=some (zab,([I w0,S aa ba ca,S ea fa ga,S ja ka la]:List Value)))/\
 Ix ja ka x/\
 WrX [b,b1,b2,b3] bb ja (Int.toNat x*14+8) 5/\
 (∀lb,ExtX [b,b1,b2,b3] (sto bb ja (Int.toNat x*14+8) [I cb,I db,I eb,S fb gb hb,S ib jb kb]) lb->(∀bq∈[b,b1,b2,b3],bq<lb.heap.size)->
 (∃mb nb ob,
 ∃pb,(builtin .append #[za8,za8] za8 #[true,false] #[S none 0 0,S xa ya za]).run Tryz.prog lb = .ok (.value (S mb nb ob)) pb/\Kept [b,b1,b2,b3] lb pb/\
 (some (zab,([I w0,S aa ba ca,S ea fa ga,S ja ka la]:List Value))=some (zab,([I w0,S aa ba ca,S ea fa ga,S ja ka la]:List Value)))/\
 Ix ja ka x/\
 WrX [b,b1,b2,b3] pb ja (Int.toNat x*14+13) 1/\
 InR .i64 (x+1)/\
 (∀qb,ExtX [b,b1,b2,b3] (sto pb ja (Int.toNat x*14+13) [S mb nb ob]) qb->(∀bq∈[b,b1,b2,b3],bq<qb.heap.size)->na [I (x+1)] qb/\mu [I (x+1)] qb<mu [I x] pa))))))))/\
 ((decide (x<(ka:Int)))=false->
 (∀rb,ExtX [b,b1,b2] pa rb->R (.agg #[I w0,S aa ba ca,S ea fa ga,S ja ka la]) rb))))))))))))
theorem zt5 (w0 w1O w1L w1C w2O w2L w2C w3O w3L w3C):EfV (ztw w0 w1O w1L w1C w2O w2L w2C w3O w3L w3C) zfr #[.agg #[.int .i64 w0,.slice w1O w1L w1C,.slice w2O w2L w2C,.slice w3O w3L w3C]]:=eV [] false [(6,⟨[(30,.int .i64)],[],[1,2,3,29],[],[]⟩)] Tryz.func112 (by kernel_rfl) (by kernel_rfl)
def zy4 (w0:Int) (qb:Option Addr) (rb sb:Nat) (tb:Option Addr) (ub vb:Nat) (xb:Option Addr) (yb zb:Nat) (ac:Fn) (bc:Array Value) (cc:Array Value) (w:World) (R:Value->World->Prop):Prop:=
 (∀b,w.heap.size<=b->
 (∀b1,w.heap.size<=b1->
 (∃aa,
 zad [] Tryz.prog zjr #[.agg #[I w0,S qb rb sb,S tb ub vb,S xb yb zb]] w (.bool aa)/\
 ((!aa)=true->
 (∀wr,ExtX [] w wr->R (.tuple #[.agg #[I 0,S none 0 0,S none 0 0,S none 0 0],I 1]) wr))/\
 ((!aa)=false->
 (∀ba,ExtX [] w ba->(∀bq∈[b,b1],bq<ba.heap.size)->
 Calls Tryz.prog zfr #[.agg #[I w0,S qb rb sb,S tb ub vb,S xb yb zb]] ba fun e wv=>
 (∃ca da ea fa ga ha ia ja ka la,
 e = .returned (.agg #[I ca,S da ea fa,S ga ha ia,S ja ka la])/\Kept [b,b1] ba wv/\
 (∀b2 wb,ExtX [b,b1] wv wb->wv.heap.size<=b2->wb.heap[b2]? = some (Obj.cells ([I 0,S none 0 0,S none 0 0,S none 0 0]:List Value).toArray zab (0,0))->b2∉([b,b1]:List Nat)->
 WrX [b,b1] wb (some (Addr.mk b2 0 none)) 0 4/\
 (∀b3 ma,ExtX [b,b1] (sto wb (some (Addr.mk b2 0 none)) 0 [I ca,S da ea fa,S ga ha ia,S ja ka la]) ma->(sto wb (some (Addr.mk b2 0 none)) 0 [I ca,S da ea fa,S ga ha ia,S ja ka la]).heap.size<=b3->ma.heap[b3]? = some (Obj.cells ([I 0]:List Value).toArray zb5 (0,0))->b3∉([b,b1]:List Nat)->
 (∀na,ExtX [b,b1] ma na->(∀bq∈[b,b1],bq<na.heap.size)->
 zmh Tryz.prog (.func ac bc cc) [.pointer ((some (Addr.mk b2 0 none)).map (·.add 0))] na fun e1 oa=>
 (∃(rv:Value),
 e1 = .returned rv/\Kept [b,b1] na oa/\
 (∀pa,ExtX [b,b1] oa pa->(∀bq∈[b,b1],bq<pa.heap.size)->
 Calls Tryz.prog zm0 #[rv,.iface zed (.pointer ((some (Addr.mk b3 0 none)).map (·.add 0)))] pa fun e2 qa=>
 (∃ra,
 e2 = .returned (.bool ra)/\Kept [b,b1] pa qa/\
 (ra=true->
 (∃sa,
 zaa [b,b1] qa (some (Addr.mk b3 0 none)) (0+0) [I sa]/\
 (∀ta,ExtX [b,b1] qa ta->(∀bq∈[b,b1],bq<ta.heap.size)->
 Calls Tryz.prog zfr #[.agg #[I w0,S qb rb sb,S tb ub vb,S xb yb zb]] ta fun e3 ua=>
 (∃va wa xa ya za ab bb cb db eb,
 e3 = .returned (.agg #[I va,S wa xa ya,S za ab bb,S cb db eb])/\Kept [b,b1] ta ua/\
 zaa [b,b1] ua (some (Addr.mk b3 0 none)) (0+0) [I sa]/\
 zaa [b,b1] ua (some (Addr.mk b3 0 none)) (0+0) [I sa]/\
 (∀fb,ExtX [b,b1] ua fb->R (.tuple #[.agg #[I va,S wa xa ya,S za ab bb,S cb db eb],I sa]) fb)))))/\
 (ra=false->
 (∃x0 gb hb ib jb kb lb mb nb ob,
 zaa [b,b1] qa (some (Addr.mk b2 0 none)) 0 [I x0,S gb hb ib,S jb kb lb,S mb nb ob]/\
 (∀pb,ExtX [b,b1] qa pb->R (.tuple #[.agg #[I x0,S gb hb ib,S jb kb lb,S mb nb ob],I 0]) pb)))))))))))))))
theorem zzl (w0 w1O w1L w1C w2O w2L w2C w3O w3L w3C callF callA callK):EfV (zy4 w0 w1O w1L w1C w2O w2L w2C w3O w3L w3C callF callA callK) zg0 #[.agg #[.int .i64 w0,.slice w1O w1L w1C,.slice w2O w2L w2C,.slice w3O w3L w3C],.func callF callA callK]:=eV [6,7] false [] Tryz.func60 (by kernel_rfl) (by kernel_rfl)
def zvg (w0:Int) (oa:Option Addr) (pa qa:Nat) (ra:Option Addr) (sa ta:Nat) (ua:Option Addr) (va wa:Nat) (xa n:Int) (ya:Fn) (za:Array Value) (ab:Array Value) (w:World) (R:Value->World->Prop):Prop:=
 (∀b,w.heap.size<=b->
 (∀b1 wb,ExtX [] w wb->w.heap.size<=b1->wb.heap[b1]? = some (Obj.cells ([I xa]:List Value).toArray zao (0,0))->b1∉([b]:List Nat)->
 (∀b2 aa,ExtX [b] wb aa->wb.heap.size<=b2->aa.heap[b2]? = some (Obj.cells ([I n]:List Value).toArray zao (0,0))->b2∉([b]:List Nat)->
 (∀b3 ba,ExtX [b] aa ba->aa.heap.size<=b3->ba.heap[b3]? = some (Obj.cells ([.func ya za ab]:List Value).toArray 57 (0,0))->b3∉([b]:List Nat)->
 (∀b4,ba.heap.size<=b4->
 (∀wr,ExtX [b] ba wr->(∀bq∈[b,b4],bq<wr.heap.size)->
 Calls Tryz.prog zg0 #[.agg #[I w0,S oa pa qa,S ra sa ta,S ua va wa],.func (.func ze6) #[] #[.pointer ((some (Addr.mk b2 0 none)).map (·.add 0)),.pointer ((some (Addr.mk b1 0 none)).map (·.add 0)),.pointer ((some (Addr.mk b3 0 none)).map (·.add 0))]] wr fun e wv=>
 (∃ca da ea fa ga ha ia ja ka la ma,
 e = .returned (.tuple #[.agg #[I ca,S da ea fa,S ga ha ia,S ja ka la],I ma])/\Kept [b,b4] wr wv/\
 (∀na,ExtX [b,b4] wv na->R (.tuple #[.agg #[I ca,S da ea fa,S ga ha ia,S ja ka la],I ma]) na))))))))
theorem zwk (w0 w1O w1L w1C w2O w2L w2C w3O w3L w3C cpu n toldF toldA toldK):EfV (zvg w0 w1O w1L w1C w2O w2L w2C w3O w3L w3C cpu n toldF toldA toldK) ziu #[.agg #[.int .i64 w0,.slice w1O w1L w1C,.slice w2O w2L w2C,.slice w3O w3L w3C],.int .i64 cpu,.int .i64 n,.func toldF toldA toldK]:=eV [5,6,7] false [] Tryz.func22 (by kernel_rfl) (by kernel_rfl)
def zrv (x x1:Int) (w:World) (R:Value->World->Prop):Prop:=
 R (.tuple #[]) w
theorem zsj (x x1):PuV (zrv x x1) zdr #[.int .i64 x,.int .i64 x1]:=pV [] false [] Tryz.func23 (by kernel_rfl) (by kernel_rfl)
def zu8 (w0:Int) (ma:Option Addr) (na oa:Nat) (pa:Option Addr) (qa ra:Nat) (sa:Option Addr) (ta ua:Nat) (va n:Int) (w:World) (R:Value->World->Prop):Prop:=
 (∀b,w.heap.size<=b->
 (∀b1,w.heap.size<=b1->
 (∀wr,ExtX [] w wr->(∀bq∈[b,b1],bq<wr.heap.size)->
 Calls Tryz.prog ziu #[.agg #[I w0,S ma na oa,S pa qa ra,S sa ta ua],I va,I n,.func (.func zdr) #[] #[]] wr fun e wv=>
 (∃aa ba ca da ea fa ga ha ia ja ka,
 e = .returned (.tuple #[.agg #[I aa,S ba ca da,S ea fa ga,S ha ia ja],I ka])/\Kept [b,b1] wr wv/\
 (∀la,ExtX [b,b1] wv la->R (.tuple #[.agg #[I aa,S ba ca da,S ea fa ga,S ha ia ja],I ka]) la)))))
theorem zwh (w0 w1O w1L w1C w2O w2L w2C w3O w3L w3C cpu n):EfV (zu8 w0 w1O w1L w1C w2O w2L w2C w3O w3L w3C cpu n) zga #[.agg #[.int .i64 w0,.slice w1O w1L w1C,.slice w2O w2L w2C,.slice w3O w3L w3C],.int .i64 cpu,.int .i64 n]:=eV [] false [] Tryz.func8 (by kernel_rfl) (by kernel_rfl)
def z16 (a0 a1 a2:Int) (ba:Option Addr) (ca da:Nat) (ea:Option Addr) (fa ga:Nat) (b0 b1 b2:Int) (ha:Option Addr) (ia ja:Nat) (ka:Option Addr) (la ma:Nat) (w:World) (R:Value->World->Prop):Prop:=
 (∀b,w.heap.size<=b->
 (∀b5,w.heap.size<=b5->
 ((((((a0 != b0)||(a1 != b1))||(a2 != b2))||((ca:Int) != (ia:Int)))||((fa:Int) != (la:Int)))=true->
 R (.bool false) w)/\
 ((((((a0 != b0)||(a1 != b1))||(a2 != b2))||((ca:Int) != (ia:Int)))||((fa:Int) != (la:Int)))=false->
 (∃(aa:List Value->Prop) (mu:List Value->Nat),aa [I 0]/\
 ∀(i:Int),aa [I i]->
 ((decide (i<(ca:Int)))=true->
 Ix ba ca i/\
 (∃x,
 zaa [] w ba (Int.toNat i*1) [I x]/\
 Ix ha ia i/\
 (∃x1,
 zaa [] w ha (Int.toNat i*1) [I x1]/\
 ((x != x1)=false->Ix ea fa i)/\
 (∃x2,
 ((x != x1)=false->zaa [] w ea (Int.toNat i*1) [.bool x2])/\
 ((x != x1)=false->Ix ka la i)/\
 (∃x3,
 ((x != x1)=false->zaa [] w ka (Int.toNat i*1) [.bool x3])/\
 (((x != x1)||(!(x2==x3)))=true->
 R (.bool false) w)/\
 (((x != x1)||(!(x2==x3)))=false->
 InR .i64 (i+1)/\
 aa [I (i+1)]/\mu [I (i+1)]<mu [I i]))))))/\
 ((decide (i<(ca:Int)))=false->
 R (.bool true) w)))))
theorem z39 (a0 a1 a2 a3O a3L a3C a4O a4L a4C b0 b1 b2 b3O b3L b3C b4O b4L b4C):PuV (z16 a0 a1 a2 a3O a3L a3C a4O a4L a4C b0 b1 b2 b3O b3L b3C b4O b4L b4C) zkv #[.agg #[.int .i64 a0,.int .i64 a1,.int .i64 a2,.slice a3O a3L a3C,.slice a4O a4L a4C],.agg #[.int .i64 b0,.int .i64 b1,.int .i64 b2,.slice b3O b3L b3C,.slice b4O b4L b4C]]:=pV [] false [(4,⟨[(5,.int .i64)],[],[2,3],[],[]⟩)] Tryz.func80 (by kernel_rfl) (by kernel_rfl)
def zy5 (a0:Bool) (a1:Int) (a2:ByteArray) (a3 a4 a5 a6 a7 a8 a9 ia:Int) (ja:Option Addr) (ka la:Nat) (ma:Option Addr) (na oa:Nat) (pa:Option Addr) (qa ra:Nat) (b0:Bool) (b1:Int) (b2:ByteArray) (b3 b4 b5 b6 b7 b8 b9 sa:Int) (ta:Option Addr) (ua va:Nat) (wa:Option Addr) (xa ya:Nat) (za:Option Addr) (ab bb:Nat) (w:World) (R:Value->World->Prop):Prop:=
 (∀b,w.heap.size<=b->
 (∀aa,w.heap.size<=aa->
 (∃ba,
 (((((((((!(a0==b0))||(a1 != b1))||(!zcs a2 b2))||(a3 != b3))||(a4 != b4))||(a5 != b5))||(a6 != b6))||(a7 != b7))=false->zad [] Tryz.prog zkv #[.agg #[I a8,I a9,I ia,S ja ka la,S ma na oa],.agg #[I b8,I b9,I sa,S ta ua va,S wa xa ya]] w (.bool ba))/\
 (((((((((((!(a0==b0))||(a1 != b1))||(!zcs a2 b2))||(a3 != b3))||(a4 != b4))||(a5 != b5))||(a6 != b6))||(a7 != b7))||(!ba))||((qa:Int) != (ab:Int)))=true->
 R (.bool false) w)/\
 (((((((((((!(a0==b0))||(a1 != b1))||(!zcs a2 b2))||(a3 != b3))||(a4 != b4))||(a5 != b5))||(a6 != b6))||(a7 != b7))||(!ba))||((qa:Int) != (ab:Int)))=false->
 (∃(ca:List Value->Prop) (mu:List Value->Nat),ca [I 0]/\
 ∀(i:Int),ca [I i]->
 ((decide (i<(qa:Int)))=true->
 Ix pa qa i/\
 (∃x0 x1 x2 x3 x4,
 zaa [] w pa (Int.toNat i*5) [I x0,.bool x1,I x2,I x3,I x4]/\
 Ix za ab i/\
 (∃da ea fa ga ha,
 zaa [] w za (Int.toNat i*5) [I da,.bool ea,I fa,I ga,I ha]/\
 (∃eq,
 (∀wq,((do eqGuard .neq zbv (.tmp 88) (.tmp 93) (.agg #[I x0,.bool x1,I x2,I x3,I x4]) (.agg #[I da,.bool ea,I fa,I ga,I ha]); binOp .neq zbv (.agg #[I x0,.bool x1,I x2,I x3,I x4]) (.agg #[I da,.bool ea,I fa,I ga,I ha])):Sem Value).run Tryz.prog wq = .ok (.bool eq) wq)/\
 (eq=true->
 R (.bool false) w)/\
 (eq=false->
 InR .i64 (i+1)/\
 ca [I (i+1)]/\mu [I (i+1)]<mu [I i])))))/\
 ((decide (i<(qa:Int)))=false->
 R (.bool true) w))))))
theorem z0d (a0 a1 a2 a3 a4 a5 a6 a7 a8 a9 a10 a11O a11L a11C a12O a12L a12C a13O a13L a13C b0 b1 b2 b3 b4 b5 b6 b7 b8 b9 b10 b11O b11L b11C b12O b12L b12C b13O b13L b13C):PuV (zy5 a0 a1 a2 a3 a4 a5 a6 a7 a8 a9 a10 a11O a11L a11C a12O a12L a12C a13O a13L a13C b0 b1 b2 b3 b4 b5 b6 b7 b8 b9 b10 b11O b11L b11C b12O b12L b12C b13O b13L b13C) zjs #[.agg #[.bool a0,.int .i64 a1,.string a2,.int .i64 a3,.int .i64 a4,.int .i64 a5,.int .i64 a6,.int .i64 a7,.int .i64 a8,.int .i64 a9,.int .i64 a10,.slice a11O a11L a11C,.slice a12O a12L a12C,.slice a13O a13L a13C],.agg #[.bool b0,.int .i64 b1,.string b2,.int .i64 b3,.int .i64 b4,.int .i64 b5,.int .i64 b6,.int .i64 b7,.int .i64 b8,.int .i64 b9,.int .i64 b10,.slice b11O b11L b11C,.slice b12O b12L b12C,.slice b13O b13L b13C]]:=pV [] false [(4,⟨[(5,.int .i64)],[],[2,3],[],[]⟩)] Tryz.func36 (by kernel_rfl) (by kernel_rfl)
def z18 (a0:Int) (oc:Option Addr) (pc qc:Nat) (rc:Option Addr) (sc tc:Nat) (uc:Option Addr) (vc wc:Nat) (b0:Int) (xc:Option Addr) (yc zc:Nat) (ad:Option Addr) (bd cd:Nat) (dd:Option Addr) (ed fd:Nat) (w:World) (R:Value->World->Prop):Prop:=
 (∀b,w.heap.size<=b->
 (∀b4,w.heap.size<=b4->
 (((((a0 != b0)||((pc:Int) != (yc:Int)))||((sc:Int) != (bd:Int)))||((vc:Int) != (ed:Int)))=true->
 R (.bool false) w)/\
 (((((a0 != b0)||((pc:Int) != (yc:Int)))||((sc:Int) != (bd:Int)))||((vc:Int) != (ed:Int)))=false->
 (∃(aa:List Value->Prop) (mu:List Value->Nat),aa [I 0]/\
 ∀(i:Int),aa [I i]->
 ((decide (i<(pc:Int)))=true->
 Ix oc pc i/\
 (∃x0 x1 x2 x3 x4,
 zaa [] w oc (Int.toNat i*5) [.bool x0,I x1,I x2,I x3,I x4]/\
 Ix xc yc i/\
 (∃ba ca da ea fa,
 zaa [] w xc (Int.toNat i*5) [.bool ba,I ca,I da,I ea,I fa]/\
 (∃eq,
 (∀wq,((do eqGuard .neq zba (.tmp 51) (.tmp 56) (.agg #[.bool x0,I x1,I x2,I x3,I x4]) (.agg #[.bool ba,I ca,I da,I ea,I fa]); binOp .neq zba (.agg #[.bool x0,I x1,I x2,I x3,I x4]) (.agg #[.bool ba,I ca,I da,I ea,I fa])):Sem Value).run Tryz.prog wq = .ok (.bool eq) wq)/\
 (eq=true->
 R (.bool false) w)/\
 (eq=false->
 InR .i64 (i+1)/\
 aa [I (i+1)]/\mu [I (i+1)]<mu [I i])))))/\
 ((decide (i<(pc:Int)))=false->
 (∃(ga:List Value->Prop) (ha:List Value->Nat),ga [I 0]/\
 ∀(i1:Int),ga [I i1]->
 ((decide (i1<(sc:Int)))=true->
 Ix rc sc i1/\
 (∃ia ja ka la ma x5 x6 x7 x8,
 zaa [] w rc (Int.toNat i1*9) [I ia,I ja,I ka,I la,I ma,I x5,I x6,I x7,I x8]/\
 Ix ad bd i1/\
 (∃na oa pa qa ra sa ta ua va,
 zaa [] w ad (Int.toNat i1*9) [I na,I oa,I pa,I qa,I ra,I sa,I ta,I ua,I va]/\
 (∃wa,
 (∀xa,((do eqGuard .neq zau (.tmp 69) (.tmp 74) (.agg #[I ia,I ja,I ka,I la,I ma,I x5,I x6,I x7,I x8]) (.agg #[I na,I oa,I pa,I qa,I ra,I sa,I ta,I ua,I va]); binOp .neq zau (.agg #[I ia,I ja,I ka,I la,I ma,I x5,I x6,I x7,I x8]) (.agg #[I na,I oa,I pa,I qa,I ra,I sa,I ta,I ua,I va])):Sem Value).run Tryz.prog xa = .ok (.bool wa) xa)/\
 (wa=true->
 R (.bool false) w)/\
 (wa=false->
 InR .i64 (i1+1)/\
 ga [I (i1+1)]/\ha [I (i1+1)]<ha [I i1])))))/\
 ((decide (i1<(sc:Int)))=false->
 (∃(ya:List Value->Prop) (za:List Value->Nat),ya [I 0]/\
 ∀(i2:Int),ya [I i2]->
 ((decide (i2<(vc:Int)))=true->
 Ix uc vc i2/\
 (∃(ab:Bool) (bb:Int) (cb:ByteArray) (db eb fb gb hb ib x9 jb:Int) (kb:Option Addr) (lb mb:Nat) (nb:Option Addr) (ob pb:Nat) (qb:Option Addr) (rb sb:Nat),
 zaa [] w uc (Int.toNat i2*14) [.bool ab,I bb,.string cb,I db,I eb,I fb,I gb,I hb,I ib,I x9,I jb,S kb lb mb,S nb ob pb,S qb rb sb]/\
 Ix dd ed i2/\
 (∃(tb:Bool) (ub:Int) (vb:ByteArray) (wb xb yb zb ac bc cc dc:Int) (ec:Option Addr) (fc gc:Nat) (hc:Option Addr) (ic jc:Nat) (kc:Option Addr) (lc mc:Nat),
 zaa [] w dd (Int.toNat i2*14) [.bool tb,I ub,.string vb,I wb,I xb,I yb,I zb,I ac,I bc,I cc,I dc,S ec fc gc,S hc ic jc,S kc lc mc]/\
 (∃nc,
 zad [] Tryz.prog zjs #[.agg #[.bool ab,I bb,.string cb,I db,I eb,I fb,I gb,I hb,I ib,I x9,I jb,S kb lb mb,S nb ob pb,S qb rb sb],.agg #[.bool tb,I ub,.string vb,I wb,I xb,I yb,I zb,I ac,I bc,I cc,I dc,S ec fc gc,S hc ic jc,S kc lc mc]] w (.bool nc)/\
 ((!nc)=true->
 R (.bool false) w)/\
 ((!nc)=false->
 InR .i64 (i2+1)/\
 ya [I (i2+1)]/\za [I (i2+1)]<za [I i2])))))/\
 ((decide (i2<(vc:Int)))=false->
 R (.bool true) w)))))))))
theorem z4b (a0 a1O a1L a1C a2O a2L a2C a3O a3L a3C b0 b1O b1L b1C b2O b2L b2C b3O b3L b3C):PuV (z18 a0 a1O a1L a1C a2O a2L a2C a3O a3L a3C b0 b1O b1L b1C b2O b2L b2C b3O b3L b3C) zkw #[.agg #[.int .i64 a0,.slice a1O a1L a1C,.slice a2O a2L a2C,.slice a3O a3L a3C],.agg #[.int .i64 b0,.slice b1O b1L b1C,.slice b2O b2L b2C,.slice b3O b3L b3C]]:=pV [] false [(4,⟨[(5,.int .i64)],[],[2,3],[],[]⟩),(9,⟨[(6,.int .i64)],[],[2,3],[],[]⟩),(14,⟨[(7,.int .i64)],[],[2,3],[],[]⟩)] Tryz.func11 (by kernel_rfl) (by kernel_rfl)
def z15 (se:Option Addr) (te ue:Nat) (ve:Option Addr) (we xe:Nat) (w:World) (R:Value->World->Prop):Prop:=
 (((decide ((te:Int)>1048576))||(decide ((we:Int)>1048576)))=true->
 (∀wr,ExtX [] w wr->R (.bool true) wr))/\
 (((decide ((te:Int)>1048576))||(decide ((we:Int)>1048576)))=false->
 (∀aa,ExtX [] w aa->(∀bq∈([]:List Nat),bq<aa.heap.size)->
 Calls Tryz.prog zjt #[S se te ue] aa fun e wv=>
 (∃ba ca da ea fa ga ha ia ja ka,
 e = .returned (.agg #[I ba,S ca da ea,S fa ga ha,S ia ja ka])/\Kept [] aa wv/\
 (∀b,wv.heap.size<=b->
 (∃la,
 zad [] Tryz.prog zcc #[S ve we xe,I 0] wv (I la)/\
 (da:Int)≠0/\
 (∃(ma:List Value->World->Prop) (na:List Value->World->Nat),(∀oa,ExtX [] wv oa->(∀bq∈[b],bq<oa.heap.size)->ma [I 1,I ba,S ca da ea,S fa ga ha,S ia ja ka] oa)/\
 ∀(i1 l8:Int) (pa:Option Addr) (qa ra:Nat) (sa:Option Addr) (ta ua:Nat) (va:Option Addr) (wa xa:Nat) ya,(∀bq∈[b],bq<ya.heap.size)->ma [I i1,I l8,S pa qa ra,S sa ta ua,S va wa xa] ya->
 ((decide (i1<30))=true->
 (∃(za:List Value->List Nat->World->Prop),
 ((∃ab,
 zad [b] Tryz.prog zcc #[S ve we xe,I i1] ya (I ab)/\
 (100:Int)≠0/\
 InR .i64 (1+(Int.tmod ab 100))/\
 ((∀bb,ExtX [b] ya bb->(∀bq∈[b],bq<bb.heap.size)->
 Calls Tryz.prog zga #[.agg #[I l8,S pa qa ra,S sa ta ua,S va wa xa],I (Int.tmod la (da:Int)),I (1+(Int.tmod ab 100))] bb fun e5 cb=>
 (∃db eb fb gb hb ib jb kb lb mb nb,
 e5 = .returned (.tuple #[.agg #[I db,S eb fb gb,S hb ib jb,S kb lb mb],I nb])/\Kept [b] bb cb/\
 (∀b7,cb.heap.size<=b7->
 zad [b] Tryz.prog zcc #[S ve we xe,I i1] cb (I ab)/\
 (some (zab,([I l8,S pa qa ra,S sa ta ua,S va wa xa]:List Value))=some (zab,([I l8,S pa qa ra,S sa ta ua,S va wa xa]:List Value)))/\
 (∀ob,ExtX [b] cb ob->(∀bq∈[b,b7],bq<ob.heap.size)->za [I nb,I db,S eb fb gb,S hb ib jb,S kb lb mb] [b7] ob)))))/\
 ((∀b8,ya.heap.size<=b8->
 zad [b] Tryz.prog zcc #[S ve we xe,I i1] ya (I ab)/\
 (some (zab,([I l8,S pa qa ra,S sa ta ua,S va wa xa]:List Value))=some (zab,([I l8,S pa qa ra,S sa ta ua,S va wa xa]:List Value)))/\
 (∀pb,ExtX [b] ya pb->(∀bq∈[b,b8],bq<pb.heap.size)->
 Calls Tryz.prog zga #[.agg #[I l8,S pa qa ra,S sa ta ua,S va wa xa],I (Int.tmod la (da:Int)),I (1+(Int.tmod ab 100))] pb fun e6 qb=>
 (∃rb sb tb ub vb wb xb yb zb ac bc,
 e6 = .returned (.tuple #[.agg #[I rb,S sb tb ub,S vb wb xb,S yb zb ac],I bc])/\Kept [b,b8] pb qb/\
 (∀cc,ExtX [b,b8] qb cc->(∀bq∈[b,b8],bq<cc.heap.size)->za [I bc,I rb,S sb tb ub,S vb wb xb,S yb zb ac] [b8] cc)))))))/\
 (∀(k1 dc:Int) (ec:Option Addr) (fc gc:Nat) (hc:Option Addr) (ic jc:Nat) (kc:Option Addr) (lc mc b9:Nat) (nc:World),(∀bq∈[b,b9],bq<nc.heap.size)->za [I k1,I dc,S ec fc gc,S hc ic jc,S kc lc mc] [b9] nc->
 (∃(oc:List Value->List Nat->World->Prop),
 ((∃pc,
 zad [b,b9] Tryz.prog zcc #[S ve we xe,I i1] nc (I pc)/\
 (100:Int)≠0/\
 InR .i64 (1+(Int.tmod pc 100))/\
 ((∀qc,ExtX [b,b9] nc qc->(∀bq∈[b,b9],bq<qc.heap.size)->
 Calls Tryz.prog zdn #[.agg #[I l8,S pa qa ra,S sa ta ua,S va wa xa],I (Int.tmod la (da:Int)),I (1+(Int.tmod pc 100))] qc fun e7 rc=>
 (∃sc tc uc vc wc xc yc zc ad bd cd,
 e7 = .returned (.tuple #[.agg #[I sc,S tc uc vc,S wc xc yc,S zc ad bd],I cd])/\Kept [b,b9] qc rc/\
 (∀dd,rc.heap.size<=dd->
 zad [b,b9] Tryz.prog zcc #[S ve we xe,I i1] rc (I pc)/\
 (some (zab,([I l8,S pa qa ra,S sa ta ua,S va wa xa]:List Value))=some (zab,([I l8,S pa qa ra,S sa ta ua,S va wa xa]:List Value)))/\
 (∀ed,ExtX [b,b9] rc ed->(∀bq∈[b,b9,dd],bq<ed.heap.size)->oc [I cd,I sc,S tc uc vc,S wc xc yc,S zc ad bd] [dd] ed)))))/\
 ((∀fd,nc.heap.size<=fd->
 zad [b,b9] Tryz.prog zcc #[S ve we xe,I i1] nc (I pc)/\
 (some (zab,([I l8,S pa qa ra,S sa ta ua,S va wa xa]:List Value))=some (zab,([I l8,S pa qa ra,S sa ta ua,S va wa xa]:List Value)))/\
 (∀gd,ExtX [b,b9] nc gd->(∀bq∈[b,b9,fd],bq<gd.heap.size)->
 Calls Tryz.prog zdn #[.agg #[I l8,S pa qa ra,S sa ta ua,S va wa xa],I (Int.tmod la (da:Int)),I (1+(Int.tmod pc 100))] gd fun e8 hd=>
 (∃id jd kd ld md nd od pd qd rd sd,
 e8 = .returned (.tuple #[.agg #[I id,S jd kd ld,S md nd od,S pd qd rd],I sd])/\Kept [b,b9,fd] gd hd/\
 (∀td,ExtX [b,b9,fd] hd td->(∀bq∈[b,b9,fd],bq<td.heap.size)->oc [I sd,I id,S jd kd ld,S md nd od,S pd qd rd] [fd] td)))))))/\
 (∀(ud vd:Int) (wd:Option Addr) (xd yd:Nat) (zd:Option Addr) (ae be:Nat) (ce:Option Addr) (de ee fe:Nat) (he:World),(∀bq∈[b,b9,fe],bq<he.heap.size)->oc [I ud,I vd,S wd xd yd,S zd ae be,S ce de ee] [fe] he->
 (∃ie,
 ((k1 != ud)=false->zad [b,b9,fe] Tryz.prog zkw #[.agg #[I dc,S ec fc gc,S hc ic jc,S kc lc mc],.agg #[I vd,S wd xd yd,S zd ae be,S ce de ee]] he (.bool ie))/\
 (((k1 != ud)||(!ie))=true->
 (∀je,ExtX [b,b9,fe] he je->R (.bool false) je))/\
 (((k1 != ud)||(!ie))=false->
 Ix pa qa (Int.tmod la (da:Int))/\
 (∃ke,
 zaa [b,b9,fe] he pa (Int.toNat (Int.tmod la (da:Int))*5+1) [I ke]/\
 ((decide (ke>=0))=true->Ix ec fc (Int.tmod la (da:Int)))/\
 (∃me,
 ((decide (ke>=0))=true->zaa [b,b9,fe] he ec (Int.toNat (Int.tmod la (da:Int))*5+1) [I me])/\
 (((decide (ke>=0))&&(me != ke))=true->Ix pa qa (Int.tmod la (da:Int)))/\
 (∃oe,
 (((decide (ke>=0))&&(me != ke))=true->zaa [b,b9,fe] he pa (Int.toNat (Int.tmod la (da:Int))*5+2) [I oe])/\
 ((((decide (ke>=0))&&(me != ke))&&(decide (oe<50)))=true->
 (∀pe,ExtX [b,b9,fe] he pe->R (.bool false) pe))/\
 ((((decide (ke>=0))&&(me != ke))&&(decide (oe<50)))=false->
 InR .i64 (i1+1)/\
 (∀qe,ExtX [b,b9,fe] he qe->(∀bq∈[b,b9,fe],bq<qe.heap.size)->ma [I (i1+1),I vd,S wd xd yd,S zd ae be,S ce de ee] qe/\na [I (i1+1),I vd,S wd xd yd,S zd ae be,S ce de ee] qe<na [I i1,I l8,S pa qa ra,S sa ta ua,S va wa xa] ya))))))))))))/\
 ((decide (i1<30))=false->
 (∀re,ExtX [b] ya re->R (.bool true) re))))))))
theorem z20 (codeO codeL codeC moreO moreL moreC):EfV (z15 codeO codeL codeC moreO moreL moreC) zo0 #[.slice codeO codeL codeC,.slice moreO moreL moreC]:=eV [] false [(6,⟨[(7,.int .i64)],[(0,[.int .i64,.slice,.slice,.slice])],[1,5,6],[],[]⟩),(1000009,⟨[(9,.int .i64)],[],[1,5,6,7],[(zab,[.int .i64,.slice,.slice,.slice])],[(8,0)]⟩),(1000010,⟨[(11,.int .i64)],[],[1,5,6,7,8,9],[(zab,[.int .i64,.slice,.slice,.slice])],[(10,0)]⟩)] Tryz.func4 (by kernel_rfl) (by kernel_rfl)
def z4z (ba:Option Addr) (ca da:Nat) (w:World) (R:Value->World->Prop):Prop:=
 (∃(aa:List Value->Prop) (mu:List Value->Nat),aa [I 0]/\
 ∀(x:Int),aa [I x]->
 ((decide (x<(ca:Int)))=true->
 Ix ba ca x/\
 (∃x1,
 zaa [] w ba (Int.toNat x*1) [I x1]/\
 ((decide (x1>50000000000000000))=true->
 R (.bool false) w)/\
 ((decide (x1>50000000000000000))=false->
 InR .i64 (x+1)/\
 aa [I (x+1)]/\mu [I (x+1)]<mu [I x])))/\
 ((decide (x<(ca:Int)))=false->
 R (.bool true) w))
theorem z6i (timesO timesL timesC):PuV (z4z timesO timesL timesC) zb7 #[.slice timesO timesL timesC]:=pV [] false [(2,⟨[(7,.int .i64)],[],[5,6],[],[]⟩)] Tryz.func114 (by kernel_rfl) (by kernel_rfl)
def zry (wv:Option Addr) (w:World) (R:Value->World->Prop):Prop:=
 wv.isSome=true/\
 (∃aa,
 zaa [] w wv (0+0) [I aa]/\
 (∀b,w.heap.size<=b->
 (∃ba,
 (∀wx,ExtX [] w wx->wx.heap[b]? = some (Obj.cells ([I aa]:List Value).toArray zao (0,0))->zad [] Tryz.prog zb7 #[S (some (Addr.mk b 0 none)) 1 1] wx (.bool ba))/\
 wv.isSome=true/\
 (∃ca da ea,
 zaa [] w wv (0+1) [S ca da ea]/\
 (∃(fa:List Value->Prop) (mu:List Value->Nat),fa [.bool ba,I 0]/\
 ∀(ok:Bool) (x:Int),fa [.bool ok,I x]->
 ((decide (x<(da:Int)))=true->
 Ix ca da x/\
 (∃x0 x1 x2 x3 x4,
 zaa [] w ca (Int.toNat x*5) [.bool x0,I x1,I x2,I x3,I x4]/\
 (∀b1,w.heap.size<=b1->
 (ok=true->(∀b2,w.heap.size<=b2->
 (∃ga,
 (ok=true->(∀ha,ExtX [] w ha->ha.heap[b2]? = some (Obj.cells ([I x3,I x4]:List Value).toArray zao (0,0))->zad [] Tryz.prog zb7 #[S (some (Addr.mk b2 0 none)) 2 2] ha (.bool ga)))/\
 InR .i64 (x+1)/\
 fa [.bool (ok&&ga),I (x+1)]/\mu [.bool (ok&&ga),I (x+1)]<mu [.bool ok,I x])))/\
 ((ok=true->False)->
 InR .i64 (x+1)/\
 fa [.bool false,I (x+1)]/\mu [.bool false,I (x+1)]<mu [.bool ok,I x]))))/\
 ((decide (x<(da:Int)))=false->
 wv.isSome=true/\
 (∃ia ja ka,
 zaa [] w wv (0+2) [S ia ja ka]/\
 (∃(la:List Value->Prop) (ma:List Value->Nat),la [.bool ok,I 0]/\
 ∀(na:Bool) (x5:Int),la [.bool na,I x5]->
 ((decide (x5<(ja:Int)))=true->
 Ix ia ja x5/\
 (∃oa pa qa ra sa ta x6 x7 x8,
 zaa [] w ia (Int.toNat x5*9) [I oa,I pa,I qa,I ra,I sa,I ta,I x6,I x7,I x8]/\
 (∀b3,w.heap.size<=b3->
 (na=true->(∀b4,w.heap.size<=b4->
 (∃ua,
 (na=true->(∀va,ExtX [] w va->va.heap[b4]? = some (Obj.cells ([I ta,I x6,I x7]:List Value).toArray zao (0,0))->zad [] Tryz.prog zb7 #[S (some (Addr.mk b4 0 none)) 3 3] va (.bool ua)))/\
 InR .i64 (x5+1)/\
 la [.bool (na&&ua),I (x5+1)]/\ma [.bool (na&&ua),I (x5+1)]<ma [.bool na,I x5])))/\
 ((na=true->False)->
 InR .i64 (x5+1)/\
 la [.bool false,I (x5+1)]/\ma [.bool false,I (x5+1)]<ma [.bool na,I x5]))))/\
 ((decide (x5<(ja:Int)))=false->
 wv.isSome=true/\
 (∃wa xa ya,
 zaa [] w wv (0+3) [S wa xa ya]/\
 (∃(za:List Value->Prop) (ab:List Value->Nat),za [.bool na,I 0]/\
 ∀(bb:Bool) (x9:Int),za [.bool bb,I x9]->
 ((decide (x9<(xa:Int)))=true->
 Ix wa xa x9/\
 (∃(cb:Bool) (db:Int) (eb:ByteArray) (fb gb hb ib jb kb lb mb:Int) (nb:Option Addr) (ob pb:Nat) (qb:Option Addr) (rb sb:Nat) (tb:Option Addr) (ub vb:Nat),
 zaa [] w wa (Int.toNat x9*14) [.bool cb,I db,.string eb,I fb,I gb,I hb,I ib,I jb,I kb,I lb,I mb,S nb ob pb,S qb rb sb,S tb ub vb]/\
 (∀b5,w.heap.size<=b5->
 (bb=true->(∀b6,w.heap.size<=b6->
 (∃wb,
 (bb=true->(∀xb,ExtX [] w xb->xb.heap[b6]? = some (Obj.cells ([I jb]:List Value).toArray zao (0,0))->zad [] Tryz.prog zb7 #[S (some (Addr.mk b6 0 none)) 1 1] xb (.bool wb)))/\
 (∃(yb:List Value->Prop) (zb:List Value->Nat),yb [.bool (bb&&wb),I 0]/\
 ∀(ac:Bool) (bc:Int),yb [.bool ac,I bc]->
 ((decide (bc<(ub:Int)))=true->
 Ix tb ub bc/\
 (∃cc dc ec fc gc,
 zaa [] w tb (Int.toNat bc*5) [I cc,.bool dc,I ec,I fc,I gc]/\
 (∀b7,w.heap.size<=b7->
 (ac=true->(∀b8,w.heap.size<=b8->
 (∃hc,
 (ac=true->(∀ic,ExtX [] w ic->ic.heap[b8]? = some (Obj.cells ([I cc,I ec,I gc]:List Value).toArray zao (0,0))->zad [] Tryz.prog zb7 #[S (some (Addr.mk b8 0 none)) 3 3] ic (.bool hc)))/\
 InR .i64 (bc+1)/\
 yb [.bool (ac&&hc),I (bc+1)]/\zb [.bool (ac&&hc),I (bc+1)]<zb [.bool ac,I bc])))/\
 ((ac=true->False)->
 InR .i64 (bc+1)/\
 yb [.bool false,I (bc+1)]/\zb [.bool false,I (bc+1)]<zb [.bool ac,I bc]))))/\
 ((decide (bc<(ub:Int)))=false->
 InR .i64 (x9+1)/\
 za [.bool ac,I (x9+1)]/\ab [.bool ac,I (x9+1)]<ab [.bool bb,I x9])))))/\
 ((bb=true->False)->
 (∃(jc:List Value->Prop) (kc:List Value->Nat),jc [.bool false,I 0]/\
 ∀(lc:Bool) (mc:Int),jc [.bool lc,I mc]->
 ((decide (mc<(ub:Int)))=true->
 Ix tb ub mc/\
 (∃nc oc pc qc rc,
 zaa [] w tb (Int.toNat mc*5) [I nc,.bool oc,I pc,I qc,I rc]/\
 (∀b9,w.heap.size<=b9->
 (lc=true->(∀sc,w.heap.size<=sc->
 (∃tc,
 (lc=true->(∀uc,ExtX [] w uc->uc.heap[sc]? = some (Obj.cells ([I nc,I pc,I rc]:List Value).toArray zao (0,0))->zad [] Tryz.prog zb7 #[S (some (Addr.mk sc 0 none)) 3 3] uc (.bool tc)))/\
 InR .i64 (mc+1)/\
 jc [.bool (lc&&tc),I (mc+1)]/\kc [.bool (lc&&tc),I (mc+1)]<kc [.bool lc,I mc])))/\
 ((lc=true->False)->
 InR .i64 (mc+1)/\
 jc [.bool false,I (mc+1)]/\kc [.bool false,I (mc+1)]<kc [.bool lc,I mc]))))/\
 ((decide (mc<(ub:Int)))=false->
 InR .i64 (x9+1)/\
 za [.bool lc,I (x9+1)]/\ab [.bool lc,I (x9+1)]<ab [.bool bb,I x9]))))))/\
 ((decide (x9<(xa:Int)))=false->
 R (.bool bb) w))))))))))))
theorem zsm (wv):PuV (zry wv) zgz #[.pointer wv]:=pV [] false [(3,⟨[(3,.bool),(23,.int .i64)],[],[0,21,22],[],[]⟩),(8,⟨[(3,.bool),(42,.int .i64)],[],[0,40,41],[],[]⟩),(13,⟨[(3,.bool),(63,.int .i64)],[],[61,62],[],[]⟩),(17,⟨[(3,.bool),(77,.int .i64)],[],[61,62,63,75,76],[],[]⟩)] Tryz.func62 (by kernel_rfl) (by kernel_rfl)
def zok (p0:Option Addr) (p1:Int) (w:World) (R:Value->World->Prop):Prop:=
 (∀b,w.heap.size<=b->
 (∃aa,
 zad [] Tryz.prog zbs #[.agg #[.pointer p0,I p1]] w (.pointer aa)/\
 (∃ba,
 zad [] Tryz.prog zbs #[.agg #[.pointer p0,I p1]] w (.pointer ba)/\
 aa.isSome=true/\
 WrX [] w aa (0+1) 1/\
 ba.isSome=true/\
 WrX [] (sto w aa (0+1) [I (-1)]) ba (0+2) 1/\
 (∀wr,ExtX [] (sto (sto w aa (0+1) [I (-1)]) ba (0+2) [I 0]) wr->R (.tuple #[]) wr))))
theorem zon (p0 p1):EfV (zok p0 p1) zcb #[.agg #[.pointer p0,.int .i64 p1]]:=eV [] false [] Tryz.func115 (by kernel_rfl) (by kernel_rfl)
def zu6 (b:Option Addr) (w:World) (R:Value->World->Prop):Prop:=
 b.isSome=true/\
 (∃aa ba ca,
 zaa [] w b (0+4) [S aa ba ca]/\
 (∃(da:List Value->World->Prop) (mu:List Value->World->Nat),(∀wr,ExtX [] w wr->(∀bq∈([]:List Nat),bq<wr.heap.size)->da [I 0] wr)/\
 ∀(x:Int) wv,(∀bq∈([]:List Nat),bq<wv.heap.size)->da [I x] wv->
 ((decide (x<(ba:Int)))=true->
 b.isSome=true/\
 (∃ea fa ga,
 zaa [] wv b (0+4) [S ea fa ga]/\
 Ix ea fa x/\
 WrX [] wv ea (Int.toNat x*1) 1/\
 InR .i64 (x+1)/\
 (∀ha,ExtX [] (sto wv ea (Int.toNat x*1) [.bool false]) ha->(∀bq∈([]:List Nat),bq<ha.heap.size)->da [I (x+1)] ha/\mu [I (x+1)] ha<mu [I x] wv)))/\
 ((decide (x<(ba:Int)))=false->
 (∀ia,ExtX [] wv ia->R (.tuple #[]) ia))))
theorem zwg (b):EfV (zu6 b) zf9 #[.pointer b]:=eV [] false [(1,⟨[(8,.int .i64)],[],[0,7],[],[]⟩)] Tryz.func162 (by kernel_rfl) (by kernel_rfl)
def zpd (b:Option Addr) (w:World) (R:Value->World->Prop):Prop:=
 b.isSome=true/\
 (∃aa,
 zaa [] w b (0+0) [I aa]/\
 b.isSome=true/\
 WrX [] w b (0+1) 1/\
 b.isSome=true/\
 WrX [] (sto w b (0+1) [I aa]) b (0+2) 1/\
 b.isSome=true/\
 (∃ba ca da,
 zaa [] (sto (sto w b (0+1) [I aa]) b (0+2) [I 0]) b (0+3) [S ba ca da]/\
 (∃(ea:List Value->World->Prop) (mu:List Value->World->Nat),(∀wr,ExtX [] (sto (sto w b (0+1) [I aa]) b (0+2) [I 0]) wr->(∀bq∈([]:List Nat),bq<wr.heap.size)->ea [I 0] wr)/\
 ∀(x:Int) wv,(∀bq∈([]:List Nat),bq<wv.heap.size)->ea [I x] wv->
 ((decide (x<(ca:Int)))=true->
 b.isSome=true/\
 (∃fa ga ha,
 zaa [] wv b (0+3) [S fa ga ha]/\
 Ix fa ga x/\
 WrX [] wv fa (Int.toNat x*1) 1/\
 InR .i64 (x+1)/\
 (∀ia,ExtX [] (sto wv fa (Int.toNat x*1) [I 0]) ia->(∀bq∈([]:List Nat),bq<ia.heap.size)->ea [I (x+1)] ia/\mu [I (x+1)] ia<mu [I x] wv)))/\
 ((decide (x<(ca:Int)))=false->
 (∀ja,ExtX [] wv ja->(∀bq∈([]:List Nat),bq<ja.heap.size)->
 Calls Tryz.prog zf9 #[.pointer b] ja fun e ka=>
 e = .returned (.tuple #[])/\Kept [] ja ka/\
 (∀la,ExtX [] ka la->R (I 0) la))))))
theorem zpl (b):EfV (zpd b) zfy #[.pointer b]:=eV [] false [(3,⟨[(19,.int .i64)],[],[0,18],[],[]⟩)] Tryz.func156 (by kernel_rfl) (by kernel_rfl)
def zru (b:Option Addr) (na:Int) (w:World) (R:Value->World->Prop):Prop:=
 b.isSome=true/\
 (∃aa ba ca,
 zaa [] w b (0+3) [S aa ba ca]/\
 Ix aa ba na/\
 (∃x,
 zaa [] w aa (Int.toNat na*1) [I x]/\
 ((decide (x>0))=true->
 (∀wr,ExtX [] w wr->R (I 0) wr))/\
 ((decide (x>0))=false->
 b.isSome=true/\
 (∃da,
 zaa [] w b (0+1) [I da]/\
 (((if da<20 then da else 20)==0)=true->
 b.isSome=true/\
 (∃ea fa ga,
 zaa [] w b (0+4) [S ea fa ga]/\
 Ix ea fa na/\
 WrX [] w ea (Int.toNat na*1) 1/\
 (∀ha,ExtX [] (sto w ea (Int.toNat na*1) [.bool true]) ha->R (I 2) ha)))/\
 (((if da<20 then da else 20)==0)=false->
 b.isSome=true/\
 (∃ia,
 zaa [] w b (0+1) [I ia]/\
 InR .i64 (ia - (if da<20 then da else 20))/\
 b.isSome=true/\
 WrX [] w b (0+1) 1/\
 b.isSome=true/\
 (∃ja ka la,
 zaa [] (sto w b (0+1) [I (ia - (if da<20 then da else 20))]) b (0+3) [S ja ka la]/\
 Ix ja ka na/\
 WrX [] (sto w b (0+1) [I (ia - (if da<20 then da else 20))]) ja (Int.toNat na*1) 1/\
 (∀ma,ExtX [] (sto (sto w b (0+1) [I (ia - (if da<20 then da else 20))]) ja (Int.toNat na*1) [I (if da<20 then da else 20)]) ma->R (I 0) ma))))))))
theorem zr8 (b cpu):EfV (zru b cpu) zgw #[.pointer b,.int .i64 cpu]:=eV [] false [] Tryz.func157 (by kernel_rfl) (by kernel_rfl)
def zp4 (b:Option Addr) (ia n:Int) (w:World) (R:Value->World->Prop):Prop:=
 ((decide (n<1))=false->b.isSome=true)/\
 (∃aa ba ca,
 ((decide (n<1))=false->zaa [] w b (0+3) [S aa ba ca])/\
 ((decide (n<1))=false->Ix aa ba ia)/\
 (∃x,
 ((decide (n<1))=false->zaa [] w aa (Int.toNat ia*1) [I x])/\
 (((decide (n<1))||(decide (n>x)))=true->
 (∀wr,ExtX [] w wr->R (I 3) wr))/\
 (((decide (n<1))||(decide (n>x)))=false->
 b.isSome=true/\
 (∃da ea fa,
 zaa [] w b (0+3) [S da ea fa]/\
 Ix da ea ia/\
 (∃x1,
 zaa [] w da (Int.toNat ia*1) [I x1]/\
 InR .i64 (x1 - n)/\
 Ix da ea ia/\
 WrX [] w da (Int.toNat ia*1) 1/\
 b.isSome=true/\
 (∃ga,
 zaa [] (sto w da (Int.toNat ia*1) [I (x1 - n)]) b (0+2) [I ga]/\
 InR .i64 (ga+n)/\
 b.isSome=true/\
 WrX [] (sto w da (Int.toNat ia*1) [I (x1 - n)]) b (0+2) 1/\
 (∀ha,ExtX [] (sto (sto w da (Int.toNat ia*1) [I (x1 - n)]) b (0+2) [I (ga+n)]) ha->R (I 0) ha)))))))
theorem zqk (b cpu n):EfV (zp4 b cpu n) zgk #[.pointer b,.int .i64 cpu,.int .i64 n]:=eV [] false [] Tryz.func158 (by kernel_rfl) (by kernel_rfl)
def zpe (b:Option Addr) (ka:Int) (w:World) (R:Value->World->Prop):Prop:=
 b.isSome=true/\
 (∃aa,
 zaa [] w b (0+1) [I aa]/\
 b.isSome=true/\
 (∃ba ca da,
 zaa [] w b (0+3) [S ba ca da]/\
 Ix ba ca ka/\
 (∃x,
 zaa [] w ba (Int.toNat ka*1) [I x]/\
 InR .i64 (aa+x)/\
 b.isSome=true/\
 WrX [] w b (0+1) 1/\
 b.isSome=true/\
 (∃ea fa ga,
 zaa [] (sto w b (0+1) [I (aa+x)]) b (0+3) [S ea fa ga]/\
 Ix ea fa ka/\
 WrX [] (sto w b (0+1) [I (aa+x)]) ea (Int.toNat ka*1) 1/\
 b.isSome=true/\
 (∃ha,
 zaa [] (sto (sto w b (0+1) [I (aa+x)]) ea (Int.toNat ka*1) [I 0]) b (0+1) [I ha]/\
 ((decide (ha>0))=true->
 (∀wr,ExtX [] (sto (sto w b (0+1) [I (aa+x)]) ea (Int.toNat ka*1) [I 0]) wr->(∀bq∈([]:List Nat),bq<wr.heap.size)->
 Calls Tryz.prog zf9 #[.pointer b] wr fun e wv=>
 e = .returned (.tuple #[])/\Kept [] wr wv/\
 (∀ia,ExtX [] wv ia->R (I 0) ia)))/\
 ((decide (ha>0))=false->
 (∀ja,ExtX [] (sto (sto w b (0+1) [I (aa+x)]) ea (Int.toNat ka*1) [I 0]) ja->R (I 0) ja)))))))
theorem zpm (b cpu):EfV (zpe b cpu) zfz #[.pointer b,.int .i64 cpu]:=eV [] false [] Tryz.func159 (by kernel_rfl) (by kernel_rfl)
def zyz (b:Option Addr) (ua va wa:Int) (w:World) (R:Value->World->Prop):Prop:=
 (∀b1,w.heap.size<=b1->
 ((ua==4)=true->
 (∀wr,ExtX [] w wr->(∀bq∈[b1],bq<wr.heap.size)->
 Calls Tryz.prog zfy #[.pointer b] wr fun e wv=>
 (∃aa,
 e = .returned (I aa)/\Kept [b1] wr wv/\
 (∀ba,ExtX [b1] wv ba->R (I aa) ba))))/\
 ((ua==4)=false->
 b.isSome=true/\
 (∃ca da ea,
 zaa [] w b (0+3) [S ca da ea]/\
 InR .i64 ((da:Int) - 1)/\
 (∃fa,
 zad [] Tryz.prog zaj #[I va,I 0,I ((da:Int) - 1)] w (.bool fa)/\
 ((!fa)=true->
 (∀ga,ExtX [] w ga->R (I 1) ga))/\
 ((!fa)=false->
 ((ua==1)=true->
 (∀ha,ExtX [] w ha->(∀bq∈[b1],bq<ha.heap.size)->
 Calls Tryz.prog zgw #[.pointer b,I va] ha fun e1 ia=>
 (∃ja,
 e1 = .returned (I ja)/\Kept [b1] ha ia/\
 (∀ka,ExtX [b1] ia ka->R (I ja) ka))))/\
 ((ua==1)=false->
 ((ua==2)=true->
 (∀la,ExtX [] w la->(∀bq∈[b1],bq<la.heap.size)->
 Calls Tryz.prog zgk #[.pointer b,I va,I wa] la fun e2 ma=>
 (∃na,
 e2 = .returned (I na)/\Kept [b1] la ma/\
 (∀oa,ExtX [b1] ma oa->R (I na) oa))))/\
 ((ua==2)=false->
 ((ua==3)=true->
 (∀pa,ExtX [] w pa->(∀bq∈[b1],bq<pa.heap.size)->
 Calls Tryz.prog zfz #[.pointer b,I va] pa fun e3 qa=>
 (∃ra,
 e3 = .returned (I ra)/\Kept [b1] pa qa/\
 (∀sa,ExtX [b1] qa sa->R (I ra) sa))))/\
 ((ua==3)=false->
 (∀ta,ExtX [] w ta->R (I 1) ta)))))))))
theorem zzj (b op0 op1 op2):EfV (zyz b op0 op1 op2) zfd #[.pointer b,.agg #[.int .i64 op0,.int .i64 op1,.int .i64 op2]]:=eV [] false [] Tryz.func145 (by kernel_rfl) (by kernel_rfl)
def zp6 (wv:Option Addr) (g:Int) (w:World) (R:Value->World->Prop):Prop:=
 (∃(aa:List Value->Prop) (mu:List Value->Nat),aa [I g,I 0]/\
 ∀(g1 ba:Int),aa [I g1,I ba]->
 ((g1 != 0)=true->
 InR .i64 (ba+1)/\
 wv.isSome=true/\
 (∃ca da ea,
 zaa [] w wv (0+3) [S ca da ea]/\
 Ix ca da g1/\
 (∃fa,
 zaa [] w ca (Int.toNat g1*14+1) [I fa]/\
 aa [I fa,I (ba+1)]/\mu [I fa,I (ba+1)]<mu [I g1,I ba])))/\
 ((g1 != 0)=false->
 R (I ba) w))
theorem zrc (wv g):PuV (zp6 wv g) zgl #[.pointer wv,.int .i64 g]:=pV [] false [(2,⟨[(1,.int .i64),(5,.int .i64)],[],[0],[],[]⟩)] Tryz.func160 (by kernel_rfl) (by kernel_rfl)
def z1x (ba ca:Int) (w:World) (R:Value->World->Prop):Prop:=
 (∃aa,
 zad [] Tryz.prog zgx #[I ca] w (I aa)/\
 R (I (if (if aa<ba then aa else ba)>0 then (if aa<ba then aa else ba) else 0)) w)
theorem z33 (lag weight):PuV (z1x lag weight) zkr #[.int .i64 lag,.int .i64 weight]:=pV [] false [] Tryz.func161 (by kernel_rfl) (by kernel_rfl)
def zlb (p0:Option Addr) (p1:Int) (w:World) (R:Value->World->Prop):Prop:=
 (∀b,w.heap.size<=b->
 (∃(aa:List Value->World->Prop) (mu:List Value->World->Nat),(∀wr,ExtX [] w wr->(∀bq∈[b],bq<wr.heap.size)->aa [I 3] wr)/\
 ∀(ba:Int) wv,(∀bq∈[b],bq<wv.heap.size)->aa [I ba] wv->
 ((decide (ba>=1))=true->
 p0.isSome=true/\
 (∃ca da ea,
 zaa [b] wv p0 (0+3) [S ca da ea]/\
 (∃(fa:List Value->World->Prop) (ga:List Value->World->Nat),(∀ha,ExtX [b] wv ha->(∀bq∈[b],bq<ha.heap.size)->fa [I 0] ha)/\
 ∀(x:Int) ia,(∀bq∈[b],bq<ia.heap.size)->fa [I x] ia->
 ((decide (x<(da:Int)))=true->
 p0.isSome=true/\
 (∃ja ka la,
 zaa [b] ia p0 (0+3) [S ja ka la]/\
 Ix ja ka x/\
 (∃ma,
 zaa [b] ia ja (Int.toNat x*14+0) [.bool ma]/\
 (∃na,
 ((!ma)=false->zad [b] Tryz.prog zgl #[.pointer p0,I x] ia (I na))/\
 (((!ma)||(na != ba))=true->
 InR .i64 (x+1)/\
 (∀oa,ExtX [b] ia oa->(∀bq∈[b],bq<oa.heap.size)->fa [I (x+1)] oa/\ga [I (x+1)] oa<ga [I x] ia))/\
 (((!ma)||(na != ba))=false->
 (∃pa,
 zad [b] Tryz.prog zak #[.agg #[.pointer p0,I p1],I x] ia (.pointer pa)/\
 (∃qa,
 zad [b] Tryz.prog zde #[.agg #[.pointer p0,I p1],I x] ia (.bool qa)/\
 (∃ra,
 (qa=true->zad [b] Tryz.prog zgc #[.agg #[.pointer p0,I p1],I x] ia (.bool ra))/\
 ((qa&&(!ra))=true->pa.isSome=true)/\
 (∃sa,
 ((qa&&(!ra))=true->zaa [b] ia pa (0+1) [.bool sa])/\
 (((qa&&(!ra))&&(!sa))=true->
 p0.isSome=true/\
 (∃ta ua va,
 zaa [b] ia p0 (0+3) [S ta ua va]/\
 Ix ta ua x/\
 (∃wa,
 zaa [b] ia ta (Int.toNat x*14+1) [I wa]/\
 (∃xa,
 zad [b] Tryz.prog zak #[.agg #[.pointer p0,I p1],I wa] ia (.pointer xa)/\
 xa.isSome=true/\
 (∃ya,
 zaa [b] ia xa (0+0) [I ya]/\
 pa.isSome=true/\
 (∃v,
 zaa [b] ia pa (0+2) [I v]/\
 InR .i64 (v - ya)/\
 pa.isSome=true/\
 (∃za,
 zaa [b] ia pa (0+3) [I za]/\
 (∃ab,
 zad [b] Tryz.prog zkr #[I (v - ya),I za] ia (I ab)/\
 InR .i64 (ya+ab)/\
 pa.isSome=true/\
 WrX [b] ia pa (0+2) 1/\
 pa.isSome=true/\
 WrX [b] (sto ia pa (0+2) [I (ya+ab)]) pa (0+1) 1/\
 InR .i64 (x+1)/\
 (∀bb,ExtX [b] (sto (sto ia pa (0+2) [I (ya+ab)]) pa (0+1) [.bool (qa&&(!ra))]) bb->(∀bq∈[b],bq<bb.heap.size)->fa [I (x+1)] bb/\ga [I (x+1)] bb<ga [I x] ia)))))))))/\
 (((qa&&(!ra))&&(!sa))=false->
 pa.isSome=true/\
 WrX [b] ia pa (0+1) 1/\
 InR .i64 (x+1)/\
 (∀cb,ExtX [b] (sto ia pa (0+1) [.bool (qa&&(!ra))]) cb->(∀bq∈[b],bq<cb.heap.size)->fa [I (x+1)] cb/\ga [I (x+1)] cb<ga [I x] ia)))))))))))/\
 ((decide (x<(da:Int)))=false->
 InR .i64 (ba - 1)/\
 (∀db,ExtX [b] ia db->(∀bq∈[b],bq<db.heap.size)->aa [I (ba - 1)] db/\mu [I (ba - 1)] db<mu [I ba] wv)))))/\
 ((decide (ba>=1))=false->
 (∀eb,ExtX [b] wv eb->R (.tuple #[]) eb))))
theorem zlc (p0 p1):EfV (zlb p0 p1) zck #[.agg #[.pointer p0,.int .i64 p1]]:=eV [] false [(2,⟨[(2,.int .i64)],[],[1],[],[]⟩),(5,⟨[(17,.int .i64)],[],[1,2,16],[],[]⟩)] Tryz.func146 (by kernel_rfl) (by kernel_rfl)
def ztv (p0:Option Addr) (p1:Int) (w:World) (R:Value->World->Prop):Prop:=
 (∀b,w.heap.size<=b->
 p0.isSome=true/\
 (∃aa ba ca,
 zaa [] w p0 (0+3) [S aa ba ca]/\
 (∃(da:List Value->World->Prop) (mu:List Value->World->Nat),(∀wr,ExtX [] w wr->(∀bq∈[b],bq<wr.heap.size)->da [I 0] wr)/\
 ∀(x:Int) wv,(∀bq∈[b],bq<wv.heap.size)->da [I x] wv->
 ((decide (x<(ba:Int)))=true->
 p0.isSome=true/\
 (∃ea fa ga,
 zaa [b] wv p0 (0+3) [S ea fa ga]/\
 Ix ea fa x/\
 (∃ha,
 zaa [b] wv ea (Int.toNat x*14+0) [.bool ha]/\
 ((!ha)=true->
 InR .i64 (x+1)/\
 (∀ia,ExtX [b] wv ia->(∀bq∈[b],bq<ia.heap.size)->da [I (x+1)] ia/\mu [I (x+1)] ia<mu [I x] wv))/\
 ((!ha)=false->
 p0.isSome=true/\
 (∃ja ka la,
 zaa [b] wv p0 (0+2) [S ja ka la]/\
 (∃(ma:List Value->World->Prop) (na:List Value->World->Nat),(∀oa,ExtX [b] wv oa->(∀bq∈[b],bq<oa.heap.size)->ma [I 100000000000000001,I 0] oa)/\
 ∀(pa x1:Int) qa,(∀bq∈[b],bq<qa.heap.size)->ma [I pa,I x1] qa->
 ((decide (x1<(ka:Int)))=true->
 Ix ja ka x1/\
 (∃x0 ra x2 x3 x4 x5 x6 x7 x8,
 zaa [b] qa ja (Int.toNat x1*9) [I x0,I ra,I x2,I x3,I x4,I x5,I x6,I x7,I x8]/\
 (∀b1,qa.heap.size<=b1->
 (∃sa,
 zad [b] Tryz.prog zdf #[.agg #[.pointer p0,I p1],I x1,I x] qa (.bool sa)/\
 (sa=true->
 InR .i64 (x1+1)/\
 (∀ta,ExtX [b] qa ta->(∀bq∈[b,b1],bq<ta.heap.size)->ma [I (if x5<pa then x5 else pa),I (x1+1)] ta/\na [I (if x5<pa then x5 else pa),I (x1+1)] ta<na [I pa,I x1] qa))/\
 (sa=false->
 InR .i64 (x1+1)/\
 (∀ua,ExtX [b] qa ua->(∀bq∈[b,b1],bq<ua.heap.size)->ma [I pa,I (x1+1)] ua/\na [I pa,I (x1+1)] ua<na [I pa,I x1] qa))))))/\
 ((decide (x1<(ka:Int)))=false->
 p0.isSome=true/\
 (∃va wa xa,
 zaa [b] qa p0 (0+3) [S va wa xa]/\
 (∃(ya:List Value->World->Prop) (za:List Value->World->Nat),(∀ab,ExtX [b] qa ab->(∀bq∈[b],bq<ab.heap.size)->ya [I pa,I 0] ab)/\
 ∀(bb x9:Int) cb,(∀bq∈[b],bq<cb.heap.size)->ya [I bb,I x9] cb->
 ((decide (x9<(wa:Int)))=true->
 (∃db,
 zad [b] Tryz.prog zdv #[.agg #[.pointer p0,I p1],I x9,I x] cb (.bool db)/\
 (db=true->
 (∃eb,
 zad [b] Tryz.prog zak #[.agg #[.pointer p0,I p1],I x9] cb (.pointer eb)/\
 eb.isSome=true/\
 (∃v,
 zaa [b] cb eb (0+2) [I v]/\
 InR .i64 (x9+1)/\
 (∀fb,ExtX [b] cb fb->(∀bq∈[b],bq<fb.heap.size)->ya [I (if v<bb then v else bb),I (x9+1)] fb/\za [I (if v<bb then v else bb),I (x9+1)] fb<za [I bb,I x9] cb))))/\
 (db=false->
 InR .i64 (x9+1)/\
 (∀gb,ExtX [b] cb gb->(∀bq∈[b],bq<gb.heap.size)->ya [I bb,I (x9+1)] gb/\za [I bb,I (x9+1)] gb<za [I bb,I x9] cb))))/\
 ((decide (x9<(wa:Int)))=false->
 ((decide (bb<=100000000000000000))=true->
 (∃hb,
 zad [b] Tryz.prog zak #[.agg #[.pointer p0,I p1],I x] cb (.pointer hb)/\
 (∃ib,
 zad [b] Tryz.prog zak #[.agg #[.pointer p0,I p1],I x] cb (.pointer ib)/\
 ib.isSome=true/\
 (∃jb,
 zaa [b] cb ib (0+0) [I jb]/\
 hb.isSome=true/\
 WrX [b] cb hb (0+0) 1/\
 InR .i64 (x+1)/\
 (∀kb,ExtX [b] (sto cb hb (0+0) [I (if bb>jb then bb else jb)]) kb->(∀bq∈[b],bq<kb.heap.size)->da [I (x+1)] kb/\mu [I (x+1)] kb<mu [I x] wv)))))/\
 ((decide (bb<=100000000000000000))=false->
 InR .i64 (x+1)/\
 (∀lb,ExtX [b] cb lb->(∀bq∈[b],bq<lb.heap.size)->da [I (x+1)] lb/\mu [I (x+1)] lb<mu [I x] wv))))))))))))/\
 ((decide (x<(ba:Int)))=false->
 (∀mb,ExtX [b] wv mb->R (.tuple #[]) mb)))))
theorem zt4 (p0 p1):EfV (ztv p0 p1) zht #[.agg #[.pointer p0,.int .i64 p1]]:=eV [] false [(2,⟨[(13,.int .i64)],[],[1,12],[],[]⟩),(7,⟨[(3,.int .i64),(32,.int .i64)],[],[1,2,12,13,30,31],[],[]⟩),(13,⟨[(3,.int .i64),(52,.int .i64)],[],[1,2,12,13,51],[],[]⟩)] Tryz.func147 (by kernel_rfl) (by kernel_rfl)
def zph (wv:Option Addr) (w:World) (R:Value->World->Prop):Prop:=
 wv.isSome=true/\
 (∃aa ba ca,
 zaa [] w wv (0+1) [S aa ba ca]/\
 (∃(da:List Value->World->Prop) (mu:List Value->World->Nat),(∀wr,ExtX [] w wr->(∀bq∈([]:List Nat),bq<wr.heap.size)->da [I 0] wr)/\
 ∀(x:Int) ea,(∀bq∈([]:List Nat),bq<ea.heap.size)->da [I x] ea->
 ((decide (x<(ba:Int)))=true->
 (∃fa ga,
 zad [] Tryz.prog zbl #[.pointer wv,I x] ea (.agg #[.pointer fa,I ga])/\
 (∀ha,ExtX [] ea ha->(∀bq∈([]:List Nat),bq<ha.heap.size)->
 Calls Tryz.prog zck #[.agg #[.pointer fa,I ga]] ha fun e ia=>
 e = .returned (.tuple #[])/\Kept [] ha ia/\
 InR .i64 (x+1)/\
 (∀ja,ExtX [] ia ja->(∀bq∈([]:List Nat),bq<ja.heap.size)->da [I (x+1)] ja/\mu [I (x+1)] ja<mu [I x] ea))))/\
 ((decide (x<(ba:Int)))=false->
 wv.isSome=true/\
 (∃ka la ma,
 zaa [] ea wv (0+3) [S ka la ma]/\
 (∃(na:List Value->World->Prop) (oa:List Value->World->Nat),(∀pa,ExtX [] ea pa->(∀bq∈([]:List Nat),bq<pa.heap.size)->na [I 0] pa)/\
 ∀(x1:Int) qa,(∀bq∈([]:List Nat),bq<qa.heap.size)->na [I x1] qa->
 ((decide (x1<(la:Int)))=true->
 wv.isSome=true/\
 (∃ra sa ta,
 zaa [] qa wv (0+3) [S ra sa ta]/\
 Ix ra sa x1/\
 (∃ua va wa,
 zaa [] qa ra (Int.toNat x1*14+8+3) [S ua va wa]/\
 (∃(xa:List Value->World->Prop) (ya:List Value->World->Nat),(∀za,ExtX [] qa za->(∀bq∈([]:List Nat),bq<za.heap.size)->xa [I 0] za)/\
 ∀(x2:Int) ab,(∀bq∈([]:List Nat),bq<ab.heap.size)->xa [I x2] ab->
 ((decide (x2<(va:Int)))=true->
 Ix ua va x2/\
 (∃x3,
 zaa [] ab ua (Int.toNat x2*1) [I x3]/\
 (∃bb cb,
 ((decide (x3>0))=true->zad [] Tryz.prog zbl #[.pointer wv,I x2] ab (.agg #[.pointer bb,I cb]))/\
 (∃db,
 ((decide (x3>0))=true->zad [] Tryz.prog zde #[.agg #[.pointer bb,I cb],I x1] ab (.bool db))/\
 (((decide (x3>0))&&(!db))=true->
 (∀eb,ExtX [] ab eb->(∀bq∈([]:List Nat),bq<eb.heap.size)->
 Calls Tryz.prog zfd #[.pointer (ra.map (·.add (Int.toNat x1*14+8))),.agg #[I 3,I x2,I 0]] eb fun e1 fb=>
 (∃gb,
 e1 = .returned (I gb)/\Kept [] eb fb/\
 InR .i64 (x2+1)/\
 (∀hb,ExtX [] fb hb->(∀bq∈([]:List Nat),bq<hb.heap.size)->xa [I (x2+1)] hb/\ya [I (x2+1)] hb<ya [I x2] ab))))/\
 (((decide (x3>0))&&(!db))=false->
 InR .i64 (x2+1)/\
 (∀ib,ExtX [] ab ib->(∀bq∈([]:List Nat),bq<ib.heap.size)->xa [I (x2+1)] ib/\ya [I (x2+1)] ib<ya [I x2] ab))))))/\
 ((decide (x2<(va:Int)))=false->
 InR .i64 (x1+1)/\
 (∀jb,ExtX [] ab jb->(∀bq∈([]:List Nat),bq<jb.heap.size)->na [I (x1+1)] jb/\oa [I (x1+1)] jb<oa [I x1] qa))))))/\
 ((decide (x1<(la:Int)))=false->
 wv.isSome=true/\
 (∃kb lb mb,
 zaa [] qa wv (0+1) [S kb lb mb]/\
 (∃(nb:List Value->World->Prop) (ob:List Value->World->Nat),(∀pb,ExtX [] qa pb->(∀bq∈([]:List Nat),bq<pb.heap.size)->nb [I 0] pb)/\
 ∀(x4:Int) qb,(∀bq∈([]:List Nat),bq<qb.heap.size)->nb [I x4] qb->
 ((decide (x4<(lb:Int)))=true->
 (∃rb sb,
 zad [] Tryz.prog zbl #[.pointer wv,I x4] qb (.agg #[.pointer rb,I sb])/\
 (∀b,qb.heap.size<=b->
 (∀tb,ExtX [] qb tb->(∀bq∈[b],bq<tb.heap.size)->
 Calls Tryz.prog zck #[.agg #[.pointer rb,I sb]] tb fun e2 ub=>
 e2 = .returned (.tuple #[])/\Kept [b] tb ub/\
 (∀vb,ExtX [b] ub vb->(∀bq∈[b],bq<vb.heap.size)->
 Calls Tryz.prog zht #[.agg #[.pointer rb,I sb]] vb fun e3 wb=>
 e3 = .returned (.tuple #[])/\Kept [b] vb wb/\
 (∃xb,
 zad [b] Tryz.prog zbs #[.agg #[.pointer rb,I sb]] wb (.pointer xb)/\
 xb.isSome=true/\
 (∃yb,
 zaa [b] wb xb (0+1) [I yb]/\
 (∃zb,
 ((yb != (-1))=true->zad [b] Tryz.prog zbs #[.agg #[.pointer rb,I sb]] wb (.pointer zb))/\
 ((yb != (-1))=true->zb.isSome=true)/\
 (∃ac,
 ((yb != (-1))=true->zaa [b] wb zb (0+1) [I ac])/\
 (∃bc,
 ((yb != (-1))=true->zad [b] Tryz.prog zek #[.agg #[.pointer rb,I sb],I ac] wb (.bool bc))/\
 (((yb != (-1))&&(!bc))=true->
 (∀cc,ExtX [b] wb cc->(∀bq∈[b],bq<cc.heap.size)->
 Calls Tryz.prog zcb #[.agg #[.pointer rb,I sb]] cc fun e4 dc=>
 e4 = .returned (.tuple #[])/\Kept [b] cc dc/\
 InR .i64 (x4+1)/\
 (∀ec,ExtX [b] dc ec->(∀bq∈[b],bq<ec.heap.size)->nb [I (x4+1)] ec/\ob [I (x4+1)] ec<ob [I x4] qb)))/\
 (((yb != (-1))&&(!bc))=false->
 InR .i64 (x4+1)/\
 (∀fc,ExtX [b] wb fc->(∀bq∈[b],bq<fc.heap.size)->nb [I (x4+1)] fc/\ob [I (x4+1)] fc<ob [I x4] qb))))))))))))/\
 ((decide (x4<(lb:Int)))=false->
 (∀gc,ExtX [] qb gc->R (.tuple #[]) gc))))))))))
theorem zpn (wv):EfV (zph wv) zbg #[.pointer wv]:=eV [] false [(1,⟨[(14,.int .i64)],[],[0,13],[],[]⟩),(6,⟨[(27,.int .i64)],[],[0,26],[],[]⟩),(10,⟨[(42,.int .i64)],[],[0,3,4,26,27,40,41],[],[]⟩),(17,⟨[(68,.int .i64)],[],[0,67],[],[]⟩)] Tryz.func117 (by kernel_rfl) (by kernel_rfl)
def zr0 (p0:Option Addr) (p1 uc vc:Int) (w:World) (R:Value->World->Prop):Prop:=
 (∀b,w.heap.size<=b->
 p0.isSome=true/\
 (∃aa ba ca,
 zaa [] w p0 (0+2) [S aa ba ca]/\
 Ix aa ba uc/\
 (∃da,
 zaa [] w aa (Int.toNat uc*9+1) [I da]/\
 (∃(ea:List Value->World->Prop) (mu:List Value->World->Nat),(∀wr,ExtX [] w wr->(∀bq∈[b],bq<wr.heap.size)->ea [I vc,I da] wr)/\
 ∀(fa g:Int) wv,(∀bq∈[b],bq<wv.heap.size)->ea [I fa,I g] wv->
 ((g != 0)=true->
 p0.isSome=true/\
 (∃ga ha ia,
 zaa [b] wv p0 (0+3) [S ga ha ia]/\
 Ix ga ha g/\
 (∃ja ka la ma na oa pa qa ra,
 zaa [b] wv ga (Int.toNat g*14+8) [I ja,I ka,I la,S ma na oa,S pa qa ra]/\
 (∀b1,wv.heap.size<=b1->
 ((decide (ja>0))=true->
 Ix ma na p1/\
 (∃x,
 zaa [b] wv ma (Int.toNat p1*1) [I x]/\
 p0.isSome=true/\
 (∃sa ta ua,
 zaa [b] wv p0 (0+3) [S sa ta ua]/\
 Ix sa ta g/\
 (∃va,
 zaa [b] wv sa (Int.toNat g*14+1) [I va]/\
 (∀wa,ExtX [b] wv wa->(∀bq∈[b,b1],bq<wa.heap.size)->ea [I (if x<fa then x else fa),I va] wa/\mu [I (if x<fa then x else fa),I va] wa<mu [I fa,I g] wv)))))/\
 ((decide (ja>0))=false->
 p0.isSome=true/\
 (∃xa ya za,
 zaa [b] wv p0 (0+3) [S xa ya za]/\
 Ix xa ya g/\
 (∃ab,
 zaa [b] wv xa (Int.toNat g*14+1) [I ab]/\
 (∀bb,ExtX [b] wv bb->(∀bq∈[b,b1],bq<bb.heap.size)->ea [I fa,I ab] bb/\mu [I fa,I ab] bb<mu [I fa,I g] wv))))))))/\
 ((g != 0)=false->
 (∃v,
 zaa [b] wv aa (Int.toNat uc*9+5) [I v]/\
 (∃cb,
 zaa [b] wv aa (Int.toNat uc*9+3) [I cb]/\
 (∃db,
 zad [b] Tryz.prog zer #[I cb] wv (I db)/\
 (∃eb,
 zad [b] Tryz.prog zb9 #[I fa,I db] wv (I eb)/\
 InR .i64 (v+eb)/\
 WrX [b] wv aa (Int.toNat uc*9+5) 1/\
 (∃fb,
 zaa [b] (sto wv aa (Int.toNat uc*9+5) [I (v+eb)]) aa (Int.toNat uc*9+6) [I fb]/\
 InR .i64 (fb+fa)/\
 WrX [b] (sto wv aa (Int.toNat uc*9+5) [I (v+eb)]) aa (Int.toNat uc*9+6) 1/\
 (∃gb,
 zaa [b] (sto (sto wv aa (Int.toNat uc*9+5) [I (v+eb)]) aa (Int.toNat uc*9+6) [I (fb+fa)]) aa (Int.toNat uc*9+7) [I gb]/\
 InR .i64 (gb+fa)/\
 WrX [b] (sto (sto wv aa (Int.toNat uc*9+5) [I (v+eb)]) aa (Int.toNat uc*9+6) [I (fb+fa)]) aa (Int.toNat uc*9+7) 1/\
 (∃hb,
 zaa [b] (sto (sto (sto wv aa (Int.toNat uc*9+5) [I (v+eb)]) aa (Int.toNat uc*9+6) [I (fb+fa)]) aa (Int.toNat uc*9+7) [I (gb+fa)]) aa (Int.toNat uc*9+1) [I hb]/\
 (∃(ib:List Value->World->Prop) (jb:List Value->World->Nat),(∀kb,ExtX [b] (sto (sto (sto wv aa (Int.toNat uc*9+5) [I (v+eb)]) aa (Int.toNat uc*9+6) [I (fb+fa)]) aa (Int.toNat uc*9+7) [I (gb+fa)]) kb->(∀bq∈[b],bq<kb.heap.size)->ib [I hb] kb)/\
 ∀(g1:Int) lb,(∀bq∈[b],bq<lb.heap.size)->ib [I g1] lb->
 ((g1 != (-1))=true->
 (∃mb,
 zad [b] Tryz.prog zak #[.agg #[.pointer p0,I p1],I g1] lb (.pointer mb)/\
 mb.isSome=true/\
 (∃nb,
 zaa [b] lb mb (0+4) [I nb]/\
 InR .i64 (nb+fa)/\
 mb.isSome=true/\
 WrX [b] lb mb (0+4) 1/\
 p0.isSome=true/\
 (∃ob pb qb,
 zaa [b] (sto lb mb (0+4) [I (nb+fa)]) p0 (0+3) [S ob pb qb]/\
 Ix ob pb g1/\
 (∃rb,
 zaa [b] (sto lb mb (0+4) [I (nb+fa)]) ob (Int.toNat g1*14+7) [I rb]/\
 InR .i64 (rb+fa)/\
 Ix ob pb g1/\
 WrX [b] (sto lb mb (0+4) [I (nb+fa)]) ob (Int.toNat g1*14+7) 1/\
 (∃(sb:List Value->List Nat->World->Prop),
 (((g1 != 0)=true->
 mb.isSome=true/\
 (∃v1,
 zaa [b] (sto (sto lb mb (0+4) [I (nb+fa)]) ob (Int.toNat g1*14+7) [I (rb+fa)]) mb (0+2) [I v1]/\
 mb.isSome=true/\
 (∃tb,
 zaa [b] (sto (sto lb mb (0+4) [I (nb+fa)]) ob (Int.toNat g1*14+7) [I (rb+fa)]) mb (0+3) [I tb]/\
 (∃ub,
 zad [b] Tryz.prog zb9 #[I fa,I tb] (sto (sto lb mb (0+4) [I (nb+fa)]) ob (Int.toNat g1*14+7) [I (rb+fa)]) (I ub)/\
 InR .i64 (v1+ub)/\
 mb.isSome=true/\
 WrX [b] (sto (sto lb mb (0+4) [I (nb+fa)]) ob (Int.toNat g1*14+7) [I (rb+fa)]) mb (0+2) 1/\
 (∀vb,ExtX [b] (sto (sto (sto lb mb (0+4) [I (nb+fa)]) ob (Int.toNat g1*14+7) [I (rb+fa)]) mb (0+2) [I (v1+ub)]) vb->(∀bq∈[b],bq<vb.heap.size)->sb [] [] vb)))))/\
 ((g1 != 0)=false->
 (∀wb,ExtX [b] (sto (sto lb mb (0+4) [I (nb+fa)]) ob (Int.toNat g1*14+7) [I (rb+fa)]) wb->(∀bq∈[b],bq<wb.heap.size)->sb [] [] wb)))/\
 (∀(xb:World),(∀bq∈[b],bq<xb.heap.size)->sb [] [] xb->
 p0.isSome=true/\
 (∃yb zb ac,
 zaa [b] xb p0 (0+3) [S yb zb ac]/\
 Ix yb zb g1/\
 (∃bc,
 zaa [b] xb yb (Int.toNat g1*14+8+0) [I bc]/\
 ((decide (bc>0))=true->
 (∀cc,ExtX [b] xb cc->(∀bq∈[b],bq<cc.heap.size)->
 Calls Tryz.prog zfd #[.pointer (yb.map (·.add (Int.toNat g1*14+8))),.agg #[I 2,I p1,I fa]] cc fun e dc=>
 (∃ec,
 e = .returned (I ec)/\Kept [b] cc dc/\
 p0.isSome=true/\
 (∃fc gc hc,
 zaa [b] dc p0 (0+3) [S fc gc hc]/\
 Ix fc gc g1/\
 (∃ic,
 zaa [b] dc fc (Int.toNat g1*14+1) [I ic]/\
 (∀jc,ExtX [b] dc jc->(∀bq∈[b],bq<jc.heap.size)->ib [I ic] jc/\jb [I ic] jc<jb [I g1] lb))))))/\
 ((decide (bc>0))=false->
 p0.isSome=true/\
 (∃kc lc mc,
 zaa [b] xb p0 (0+3) [S kc lc mc]/\
 Ix kc lc g1/\
 (∃nc,
 zaa [b] xb kc (Int.toNat g1*14+1) [I nc]/\
 (∀oc,ExtX [b] xb oc->(∀bq∈[b],bq<oc.heap.size)->ib [I nc] oc/\jb [I nc] oc<jb [I g1] lb)))))))))))))/\
 ((g1 != (-1))=false->
 (∃pc,
 zad [b] Tryz.prog zbs #[.agg #[.pointer p0,I p1]] lb (.pointer pc)/\
 pc.isSome=true/\
 (∃qc,
 zaa [b] lb pc (0+3) [I qc]/\
 InR .i64 (qc+fa)/\
 pc.isSome=true/\
 WrX [b] lb pc (0+3) 1/\
 (∃rc,
 zad [b] Tryz.prog zbs #[.agg #[.pointer p0,I p1]] (sto lb pc (0+3) [I (qc+fa)]) (.pointer rc)/\
 rc.isSome=true/\
 (∃sc,
 zaa [b] (sto lb pc (0+3) [I (qc+fa)]) rc (0+2) [I sc]/\
 InR .i64 (sc+fa)/\
 rc.isSome=true/\
 WrX [b] (sto lb pc (0+3) [I (qc+fa)]) rc (0+2) 1/\
 (∀tc,ExtX [b] (sto (sto lb pc (0+3) [I (qc+fa)]) rc (0+2) [I (sc+fa)]) tc->R (I fa) tc)))))))))))))))))))
theorem zr9 (p0 p1 task leftv):EfV (zr0 p0 p1 task leftv) ze5 #[.agg #[.pointer p0,.int .i64 p1],.int .i64 task,.int .i64 leftv]:=eV [] false [(3,⟨[(8,.int .i64),(9,.int .i64)],[],[3,7],[],[]⟩),(12,⟨[(11,.int .i64)],[],[3,8],[],[]⟩),(1000019,⟨[],[],[3,8,11],[],[]⟩)] Tryz.func118 (by kernel_rfl) (by kernel_rfl)
def zvd (p0:Option Addr) (p1 n:Int) (ac:Fn) (bc:Array Value) (cc:Array Value) (w:World) (R:Value->World->Prop):Prop:=
 (∀b,w.heap.size<=b->
 (∃aa,
 zad [] Tryz.prog zbs #[.agg #[.pointer p0,I p1]] w (.pointer aa)/\
 (∃(ba:List Value->World->Prop) (mu:List Value->World->Nat),(∀wr,ExtX [] w wr->(∀bq∈[b],bq<wr.heap.size)->ba [I n] wr)/\
 ∀(ca:Int) wv,(∀bq∈[b],bq<wv.heap.size)->ba [I ca] wv->
 ((decide (ca>0))=true->
 (∃da,
 zad [b] Tryz.prog zhs #[.agg #[.pointer p0,I p1]] wv (I da)/\
 ((decide (da<0))=true->
 aa.isSome=true/\
 (∃ea,
 zaa [b] wv aa (0+4) [I ea]/\
 InR .i64 (ea+ca)/\
 aa.isSome=true/\
 WrX [b] wv aa (0+4) 1/\
 (∀fa,ExtX [b] (sto wv aa (0+4) [I (ea+ca)]) fa->(∀bq∈[b],bq<fa.heap.size)->
 Calls Tryz.prog zcb #[.agg #[.pointer p0,I p1]] fa fun e ga=>
 e = .returned (.tuple #[])/\Kept [b] fa ga/\
 (∀ha,ExtX [b] ga ha->(∀bq∈[b],bq<ha.heap.size)->
 Calls Tryz.prog zbg #[.pointer p0] ha fun e1 ia=>
 e1 = .returned (.tuple #[])/\Kept [b] ha ia/\
 (∀ja,ExtX [b] ia ja->R (.tuple #[]) ja)))))/\
 ((decide (da<0))=false->
 aa.isSome=true/\
 (∃ka,
 zaa [b] wv aa (0+1) [I ka]/\
 ((da != ka)=false->aa.isSome=true)/\
 (∃la,
 ((da != ka)=false->zaa [b] wv aa (0+2) [I la])/\
 (((da != ka)||(decide (la>=50)))=true->
 aa.isSome=true/\
 WrX [b] wv aa (0+1) 1/\
 aa.isSome=true/\
 WrX [b] (sto wv aa (0+1) [I da]) aa (0+2) 1/\
 (∀ma,ExtX [b] (sto (sto wv aa (0+1) [I da]) aa (0+2) [I 0]) ma->(∀bq∈[b],bq<ma.heap.size)->
 Calls Tryz.prog zg2 #[.agg #[.pointer p0,I p1],I da] ma fun e2 na=>
 (∃oa,
 e2 = .returned (.bool oa)/\Kept [b] ma na/\
 (oa=true->
 (∀pa,ExtX [b] na pa->(∀bq∈[b],bq<pa.heap.size)->
 Calls Tryz.prog zcb #[.agg #[.pointer p0,I p1]] pa fun e3 qa=>
 e3 = .returned (.tuple #[])/\Kept [b] pa qa/\
 (∀ra,ExtX [b] qa ra->(∀bq∈[b],bq<ra.heap.size)->
 Calls Tryz.prog zbg #[.pointer p0] ra fun e4 sa=>
 e4 = .returned (.tuple #[])/\Kept [b] ra sa/\
 (∀ta,ExtX [b] sa ta->(∀bq∈[b],bq<ta.heap.size)->ba [I ca] ta/\mu [I ca] ta<mu [I ca] wv))))/\
 (oa=false->
 (∀ua,ExtX [b] na ua->(∀bq∈[b],bq<ua.heap.size)->
 Calls Tryz.prog ze5 #[.agg #[.pointer p0,I p1],I da,I ca] ua fun e5 va=>
 (∃wa,
 e5 = .returned (I wa)/\Kept [b] ua va/\
 (∀xa,ExtX [b] va xa->(∀bq∈[b],bq<xa.heap.size)->
 zmh Tryz.prog (.func ac bc cc) [I da,I wa] xa fun e6 ya=>
 e6 = .returned (.tuple #[])/\Kept [b] xa ya/\
 (∀za,ExtX [b] ya za->(∀bq∈[b],bq<za.heap.size)->
 Calls Tryz.prog zbg #[.pointer p0] za fun e7 ab=>
 e7 = .returned (.tuple #[])/\Kept [b] za ab/\
 InR .i64 (ca - wa)/\
 (∀bb,ExtX [b] ab bb->(∀bq∈[b],bq<bb.heap.size)->ba [I (ca - wa)] bb/\mu [I (ca - wa)] bb<mu [I ca] wv)))))))))/\
 (((da != ka)||(decide (la>=50)))=false->
 (∀cb,ExtX [b] wv cb->(∀bq∈[b],bq<cb.heap.size)->
 Calls Tryz.prog zg2 #[.agg #[.pointer p0,I p1],I da] cb fun e8 db=>
 (∃eb,
 e8 = .returned (.bool eb)/\Kept [b] cb db/\
 (eb=true->
 (∀fb,ExtX [b] db fb->(∀bq∈[b],bq<fb.heap.size)->
 Calls Tryz.prog zcb #[.agg #[.pointer p0,I p1]] fb fun e9 gb=>
 e9 = .returned (.tuple #[])/\Kept [b] fb gb/\
 (∀hb,ExtX [b] gb hb->(∀bq∈[b],bq<hb.heap.size)->
 Calls Tryz.prog zbg #[.pointer p0] hb fun ib jb=>
 ib = .returned (.tuple #[])/\Kept [b] hb jb/\
 (∀kb,ExtX [b] jb kb->(∀bq∈[b],bq<kb.heap.size)->ba [I ca] kb/\mu [I ca] kb<mu [I ca] wv))))/\
 (eb=false->
 (∀lb,ExtX [b] db lb->(∀bq∈[b],bq<lb.heap.size)->
 Calls Tryz.prog ze5 #[.agg #[.pointer p0,I p1],I da,I ca] lb fun mb nb=>
 (∃ob,
 mb = .returned (I ob)/\Kept [b] lb nb/\
 (∀pb,ExtX [b] nb pb->(∀bq∈[b],bq<pb.heap.size)->
 zmh Tryz.prog (.func ac bc cc) [I da,I ob] pb fun qb rb=>
 qb = .returned (.tuple #[])/\Kept [b] pb rb/\
 (∀sb,ExtX [b] rb sb->(∀bq∈[b],bq<sb.heap.size)->
 Calls Tryz.prog zbg #[.pointer p0] sb fun tb ub=>
 tb = .returned (.tuple #[])/\Kept [b] sb ub/\
 InR .i64 (ca - ob)/\
 (∀vb,ExtX [b] ub vb->(∀bq∈[b],bq<vb.heap.size)->ba [I (ca - ob)] vb/\mu [I (ca - ob)] vb<mu [I ca] wv))))))))))))))/\
 ((decide (ca>0))=false->
 (∀wb,ExtX [b] wv wb->(∀bq∈[b],bq<wb.heap.size)->
 Calls Tryz.prog zbg #[.pointer p0] wb fun xb yb=>
 xb = .returned (.tuple #[])/\Kept [b] wb yb/\
 (∀zb,ExtX [b] yb zb->R (.tuple #[]) zb))))))
theorem zwj (p0 p1 n toldF toldA toldK):EfV (zvd p0 p1 n toldF toldA toldK) zit #[.agg #[.pointer p0,.int .i64 p1],.int .i64 n,.func toldF toldA toldK]:=eV [] false [(3,⟨[(7,.int .i64)],[],[2,3,6],[],[]⟩)] Tryz.func63 (by kernel_rfl) (by kernel_rfl)
def zr4 (wv qa ra sa:Option Addr) (w:World) (R:Value->World->Prop):Prop:=
 (∃x,
 zaa [] w qa 0 [I x]/\
 (∃aa,
 zad [] Tryz.prog zaj #[I x,I 1,I 100] w (.bool aa)/\
 (∃x1,
 ((!aa)=false->zaa [] w ra 0 [I x1])/\
 (∃ba,
 ((!aa)=false->zad [] Tryz.prog ze0 #[.pointer wv,I x1] w (.bool ba))/\
 (((!aa)||(!ba))=true->
 (∀wr,ExtX [] w wr->R (.iface zb5 (.agg #[I 1])) wr))/\
 (((!aa)||(!ba))=false->
 wv.isSome=true/\
 (∃ca da ea,
 zaa [] w wv (0+1) [S ca da ea]/\
 (∃x2,
 zaa [] w ra 0 [I x2]/\
 Ix ca da x2/\
 (∃up,
 zaa [] w ca (Int.toNat x2*5+0) [.bool up]/\
 ((!up)=true->
 (∀fa,ExtX [] w fa->R (.iface zb5 (.agg #[I 6])) fa))/\
 ((!up)=false->
 (∃ga,
 zad [] Tryz.prog zgz #[.pointer wv] w (.bool ga)/\
 ((!ga)=true->
 (∀ha,ExtX [] w ha->R (.iface zb5 (.agg #[I 10])) ha))/\
 ((!ga)=false->
 (∃x3,
 zaa [] w ra 0 [I x3]/\
 (∃ia ja,
 zad [] Tryz.prog zbl #[.pointer wv,I x3] w (.agg #[.pointer ia,I ja])/\
 (∃x4,
 zaa [] w qa 0 [I x4]/\
 (∃(ka:Fn) (la:Array Value) (ma:Array Value),
 zaa [] w sa 0 [.func ka la ma]/\
 (∀na,ExtX [] w na->(∀bq∈([]:List Nat),bq<na.heap.size)->
 Calls Tryz.prog zit #[.agg #[.pointer ia,I ja],I x4,.func ka la ma] na fun e oa=>
 e = .returned (.tuple #[])/\Kept [] na oa/\
 (∀pa,ExtX [] oa pa->R .nilIface pa)))))))))))))))))
theorem zsa (wv cap cap1 cap2):EfV (zr4 wv cap cap1 cap2) ze6 #[.pointer wv,.pointer cap,.pointer cap1,.pointer cap2]:=eV [] false [] Tryz.func61 (by kernel_rfl) (by kernel_rfl)
def zml (m0 m1 m2 m3 m4 m5 m6 m7 m8 m9:Int) (w:World) (R:Value->World->Prop):Prop:=
 (∀b,w.heap.size<=b->
 R (I m6) w)
theorem zmr (m0 m1 m2 m3 m4 m5 m6 m7 m8 m9):PuV (zml m0 m1 m2 m3 m4 m5 m6 m7 m8 m9) zc6 #[.agg #[.int .i64 m0,.int .i64 m1,.int .i64 m2,.int .i64 m3,.int .i64 m4,.int .i64 m5,.int .i64 m6,.int .i64 m7,.int .i64 m8,.int .i64 m9]]:=pV [] false [] Tryz.func183 (by kernel_rfl) (by kernel_rfl)
def zlo (m0 m1:Int) (m2:Bool) (m3 m4 m5:Int) (w:World) (R:Value->World->Prop):Prop:=
 (∀b,w.heap.size<=b->
 R (I m3) w)
theorem zl1 (m0 m1 m2 m3 m4 m5):PuV (zlo m0 m1 m2 m3 m4 m5) zcw #[.agg #[.int .i64 m0,.int .i64 m1,.bool m2,.int .i64 m3,.int .i64 m4,.int .i64 m5]]:=pV [] false [] Tryz.func186 (by kernel_rfl) (by kernel_rfl)
set_option linter.unusedSimpArgs false
set_option maxRecDepth 10000
theorem zld:Elt Tryz.prog encS 5 zbv 40 (⟨0,false,0,0,0⟩:Shf):=ztb (by kernel_rfl) fun _=>rfl
theorem zkc:Tryz.prog.underlying za8=some (.slice zbv):=by kernel_rfl
def zdj (b:Bnd) (m:MG):List Value:=[.int .i64 b.quota,.int .i64 b.pool,.int .i64 b.spent,.slice m.lO b.locals.length m.lC,.slice m.dO b.dry.length m.dC]
theorem zf5 {a b:ByteArray}:zcs a b=true↔a=b:=by
 unfold zcs
 rw [beq_iff_eq]
 constructor
 ·intro h
  have h1:∀x:ByteArray,x.toList=x.data.toList:=fun x=>by
   have key:∀(n i:Nat) (r:List UInt8),n=x.size - i->ByteArray.toList.loop x i r=r.reverse++x.data.toList.drop i:=by
    intro n
    induction n with
    | zero=>
     intro i r hn
     unfold ByteArray.toList.loop
     rw [if_neg (by omega),List.drop_eq_nil_iff.2 (by simp only [Array.length_toList]; show x.size<=i; omega),List.append_nil]
    | succ n ih=>
     intro i r hn
     unfold ByteArray.toList.loop
     have hi:i<x.data.toList.length:=by simp only [Array.length_toList]; show i<x.size; omega
     rw [if_pos (by omega),ih (i+1) _ (by omega),List.reverse_cons,List.append_assoc,List.singleton_append,List.drop_eq_getElem_cons hi]
     have:x.get! i=x.data.toList[i]:=by
      have hi':i<x.data.size:=by simpa using hi
      simp [ByteArray.get!,getElem!_pos x.data i hi']
     rw [this]
   have:=key _ 0 [] rfl
   simpa [ByteArray.toList] using this
  rw [h1,h1] at h
  cases a; cases b
  simp only at h
  congr 1
  exact Array.ext' h
 ·rintro rfl; rfl
theorem zuy (a b:ByteArray):zcs a b=decide (a=b):=by
 cases h:zcs a b with
 | true=>rw [decide_eq_true (zf5.1 h)]
 | false=>rw [decide_eq_false fun e=>by rw [zf5.2 e] at h; cases h]
def encP (p:Grp×MG):List Value:=encG p.1 p.2
def zn5:Grp×MG:=(⟨false,0,ByteArray.empty,0,0,0,0,0,⟨0,0,0,[],[]⟩,[]⟩,⟨none,0,none,0,none,0⟩)
theorem zc1:Elt Tryz.prog encP 14 zaw 168 zn5:=ztb (by kernel_rfl) fun _=>rfl
theorem zkb:Tryz.prog.underlying zal=some (.slice zaw):=by kernel_rfl
def zam (m:MG):List Nat:=za9 m.lO++za9 m.dO++za9 m.sO
structure OwnM (base:Nat) (w:World) (p:Grp×MG):Prop where
 loc:Own encI 1 zao base w p.2.lO p.2.lC p.1.band.locals
 dry:Own encB 1 zdg base w p.2.dO p.2.dC p.1.band.dry
 shl:Own encS 5 zbv base w p.2.sO p.2.sC p.1.shelves
theorem OwnM.ext {base:Nat} {w w':World} {p:Grp×MG} {bs:List Nat} (h:OwnM base w p) (hx:ExtX bs w w') (hd:∀b∈zam p.2,b∉bs):OwnM base w' p:=
 ⟨h.loc.ext hx fun b hb=>hd b (by simp [zam,hb]),h.dry.ext hx fun b hb=>hd b (by simp [zam,hb]),h.shl.ext hx fun b hb=>hd b (by simp [zam,hb])⟩
theorem OwnM.ext0 {base:Nat} {w w':World} {p:Grp×MG} (h:OwnM base w p) (hx:ExtX [] w w'):OwnM base w' p:=h.ext hx (by simp)
theorem OwnM.mono {base base':Nat} {w:World} {p:Grp×MG} (h:OwnM base w p) (hb:base'<=base):OwnM base' w p:=⟨h.loc.mono hb,h.dry.mono hb,h.shl.mono hb⟩
theorem OwnM.lt {base:Nat} {w:World} {p:Grp×MG} (h:OwnM base w p):∀b∈zam p.2,base<=b/\b<w.heap.size:=by
 intro b hb
 simp only [zam,List.mem_append] at hb
 rcases hb with (hb | hb) | hb
 ·exact h.loc.lt b hb
 ·exact h.dry.lt b hb
 ·exact h.shl.lt b hb
structure OwnG (base:Nat) (w:World) (o:Option Addr) (cap:Nat) (ps:List (Grp×MG)):Prop where
 row:Own encP 14 zaw base w o cap ps
 each:∀i:Int,0<=i->i<(ps.length:Int)->OwnM base w (gi ps i)
 dj:∀i j:Int,0<=i->i<(ps.length:Int)->0<=j->j<(ps.length:Int)->i≠j->∀b∈zam (gi ps i).2,b∉zam (gi ps j).2
theorem OwnG.mono {base base':Nat} {w:World} {o:Option Addr} {cap:Nat} {ps:List (Grp×MG)} (h:OwnG base w o cap ps) (hb:base'<=base):OwnG base' w o cap ps:=
 ⟨h.row.mono hb,fun i a b=>(h.each i a b).mono hb,h.dj⟩
theorem zfm {base:Nat} {w:World} {o:Option Addr} {cap:Nat} {ps:List (Grp×MG)} (h:Own encP 14 zaw base w o cap ps) {base':Nat} {p:Grp×MG} (hp:OwnM base' w p):∀b∈zam p.2,b∉za9 o:=by
 intro b hb hx
 simp only [zam,List.mem_append] at hb
 rcases hb with (hb | hb) | hb
 ·exact hp.loc.ty_ne h (by decide) b hb hx
 ·exact hp.dry.ty_ne h (by decide) b hb hx
 ·exact hp.shl.ty_ne h (by decide) b hb hx
theorem OwnG.put {base:Nat} {w:World} {o:Option Addr} {cap:Nat} {ps:List (Grp×MG)} (h:OwnG base w o cap ps) {i:Int} (h0:0<=i) (hi:i<(ps.length:Int)) {p:Grp×MG} (hp:OwnM base w p)
  (hd:∀j:Int,0<=j->j<(ps.length:Int)->i≠j->∀b∈zam (gi ps j).2,b∉zam p.2):OwnG base (sto w o (Int.toNat i*14) (encP p)) o cap (ps.set i.toNat p):=by
 have hx:=h.row.stoX (Int.toNat i*14) (encP p)
 have hlen:(ps.set i.toNat p).length=ps.length:=List.length_set
 refine ⟨?_,fun j hj hjl => ?_,fun j k hj hjl hk hkl hjk b hb hb' => ?_⟩
 ·have:=h.row.sto zc1.len h0 hi (j:=0) (vs:=encP p) (x:=p) (by rw [List.take_zero,List.nil_append,List.drop_eq_nil_iff.2 (by rw [Nat.zero_add,zc1.len,zc1.len]; exact Nat.le_refl _),List.append_nil]) (by rw [Nat.zero_add,zc1.len]; exact Nat.le_refl _)
  exact this
 ·rw [hlen] at hjl
  rw [za4 _ _ h0 hi hj]
  split
  ·exact hp.ext hx (zfm h.row hp)
  ·exact (h.each j hj hjl).ext hx (zfm h.row (h.each j hj hjl))
 ·rw [hlen] at hjl hkl
  rw [za4 _ _ h0 hi hj] at hb
  rw [za4 _ _ h0 hi hk] at hb'
  by_cases e1:i=j
  ·rw [if_pos e1] at hb
   by_cases e2:i=k
   ·omega
   ·rw [if_neg e2] at hb'
    exact hd k hk hkl e2 b hb' hb
  ·rw [if_neg e1] at hb
   by_cases e2:i=k
   ·rw [if_pos e2] at hb'
    exact hd j hj hjl e1 b hb hb'
   ·rw [if_neg e2] at hb'
    exact h.dj j k hj hjl hk hkl hjk b hb hb'
theorem zjx {z:Int} (h1 : -9223372036854775808<=z) (h2:z<=9223372036854775807):InR .i64 z:=⟨h1,h2⟩
def stp (w:Int):Int:=Int.tdiv 232792560 w
def inB (n a b:Int):Bool:=decide (n>=a)&&decide (n<=b)
theorem za6 {n a b:Int}:inB n a b=true↔a<=n/\n<=b:=by simp [inB]
theorem zajw {n a b:Int}:inB n a b=false↔¬(a<=n/\n<=b):=by rw [<-za6]; simp
def zbn (n w:Int):Int:=if inB n 0 100000000&&inB w 1 20 then n*stp w else 0
def zcq (w:Int):Int:=zbn 149 w
theorem zai2:∀k:Fin 20,stp ((k.val:Int)+1)*((k.val:Int)+1)=232792560:=by decide
theorem zai3 {w:Int} (h1:1<=w) (h2:w<=20):stp w*w=232792560:=by
 have:=zai2 ⟨(w - 1).toNat,by omega⟩
 have e:(((w - 1).toNat:Nat):Int)+1=w:=by omega
 simp only [e] at this
 exact this
theorem z64 {w:Int} (h1:1<=w) (h2:w<=20):11639628<=stp w/\stp w<=232792560:=by
 have h:=zai3 h1 h2
 have hp:0<=stp w:=by
  rcases Int.lt_or_le (stp w) 0 with hn | hn
  ·have:=Int.mul_neg_of_neg_of_pos hn (show 0<w by omega)
   omega
  ·exact hn
 constructor
 ·have:=Int.mul_le_mul_of_nonneg_left h2 hp
  omega
 ·have:=Int.mul_le_mul_of_nonneg_left h1 hp
  omega
theorem zko {n w:Int} (h1:0<=n) (h2:n<=100000000) (h3:1<=w) (h4:w<=20):zbn n w=n*stp w:=by
 unfold zbn
 rw [if_pos]
 rw [Bool.and_eq_true,za6,za6]; exact ⟨⟨h1,h2⟩,h3,h4⟩
theorem zrs {n w:Int} (h:¬(0<=n/\n<=100000000/\1<=w/\w<=20)):zbn n w=0:=by
 unfold zbn
 rw [if_neg]
 rw [Bool.and_eq_true,za6,za6]; omega
theorem z76 {n w:Int} (h1:0<=n) (h2:n<=100000000) (h3:1<=w) (h4:w<=20):0<=n*stp w/\n*stp w<=23279256000000000:=by
 have hs:=z64 h3 h4
 refine ⟨Int.mul_nonneg h1 (by omega),?_⟩
 calc n*stp w<=100000000*stp w:=Int.mul_le_mul_of_nonneg_right h2 (by omega)
  _<=100000000*232792560:=Int.mul_le_mul_of_nonneg_left hs.2 (by decide)
  _=23279256000000000:=rfl
theorem zp0 (n w:Int):0<=zbn n w/\zbn n w<=23279256000000000:=by
 by_cases h:0<=n/\n<=100000000/\1<=w/\w<=20
 ·rw [zko h.1 h.2.1 h.2.2.1 h.2.2.2]; exact z76 h.1 h.2.1 h.2.2.1 h.2.2.2
 ·rw [zrs h]; omega
theorem zap {n a b:Int} {w:World} {bs:List Nat}:zad bs Tryz.prog zaj #[.int .i64 n,.int .i64 a,.int .i64 b] w (.bool (inB n a b)):=
 z0c n a b fun wr hx=>by unfold zoy; rfl
theorem za1 {n a b:Int} {w:World} {bs:List Nat}:zad bs Tryz.prog zaq #[.int .i64 n,.int .i64 a,.int .i64 b] w (.bool (inB n a b)):=
 z78 n a b fun wr hx=>by unfold zvq; rfl
theorem zj0 {n:Int} {w:World} {bs:List Nat}:zad bs Tryz.prog zes #[.int .i64 n] w (.bool (inB n 1 20)):=
 zx0 n fun wr hx=>⟨_,zap,rfl⟩
theorem zfk {n:Int} {w:World} {bs:List Nat}:zad bs Tryz.prog zcz #[.int .i64 n] w (.bool (inB n 1 20)):=
 zx5 n fun wr hx=>⟨_,za1,rfl⟩
theorem zqv {n:Int} {w:World} {bs:List Nat}:zad bs Tryz.prog zh2 #[.int .i64 n] w (.bool (inB n (-10) 9)):=
 z36 n fun wr hx=>⟨_,zap,rfl⟩
def wsC (k j:Nat):Int:=if j<=k then stp (j:Int) else 0
def wsT (k:Nat):List Value:=[.int .i64 ((k:Int)+1),.int .i64 0,.int .i64 (wsC k 1),.int .i64 (wsC k 2),.int .i64 (wsC k 3),.int .i64 (wsC k 4),.int .i64 (wsC k 5),.int .i64 (wsC k 6),.int .i64 (wsC k 7),
 .int .i64 (wsC k 8),.int .i64 (wsC k 9),.int .i64 (wsC k 10),.int .i64 (wsC k 11),.int .i64 (wsC k 12),.int .i64 (wsC k 13),.int .i64 (wsC k 14),.int .i64 (wsC k 15),.int .i64 (wsC k 16),.int .i64 (wsC k 17),.int .i64 (wsC k 18),.int .i64 (wsC k 19),.int .i64 (wsC k 20)]
theorem zqw {w:World} {bs:List Nat}:zad bs Tryz.prog zgm #[] w (.agg #[.int .i64 0,.int .i64 (wsC 20 1),.int .i64 (wsC 20 2),.int .i64 (wsC 20 3),.int .i64 (wsC 20 4),.int .i64 (wsC 20 5),.int .i64 (wsC 20 6),.int .i64 (wsC 20 7),
 .int .i64 (wsC 20 8),.int .i64 (wsC 20 9),.int .i64 (wsC 20 10),.int .i64 (wsC 20 11),.int .i64 (wsC 20 12),.int .i64 (wsC 20 13),.int .i64 (wsC 20 14),.int .i64 (wsC 20 15),.int .i64 (wsC 20 16),.int .i64 (wsC 20 17),.int .i64 (wsC 20 18),.int .i64 (wsC 20 19),.int .i64 (wsC 20 20)]):=
 zrg fun wr hx=>by
  intro _ _ _ _
  refine ⟨fun vs=>∃k:Nat,k<=20/\vs=wsT k,fun vs=>match vs with
   | .int _ i::_=>(21 - i).toNat
   | _=>0,⟨0,by omega,rfl⟩,?_⟩
  rintro i l l1 l2 l3 l4 l5 l6 l7 l8 l9 l10 l11 l12 l13 l14 l15 l16 l17 l18 l19 l20 ⟨k,hk,he⟩
  simp only [wsT,List.cons.injEq,Value.int.injEq,true_and,and_true] at he
  obtain ⟨rfl,rfl,rfl,rfl,rfl,rfl,rfl,rfl,rfl,rfl,rfl,rfl,rfl,rfl,rfl,rfl,rfl,rfl,rfl,rfl,rfl,rfl⟩:=he
  constructor
  ·intro h
   have h:=of_decide_eq_true h
   refine ⟨⟨by omega,?_⟩,⟨by omega,by omega⟩,by omega,?_⟩
   ·have:=z64 (w:=(k:Int)+1) (by omega) (by omega)
    exact zjx (by unfold stp at this; omega) (by unfold stp at this; omega)
   ·refine ⟨_,_,_,_,_,_,_,_,_,_,_,_,_,_,_,_,_,_,_,_,_,?_,zjx (by omega) (by omega),⟨k+1,by omega,rfl⟩,?_⟩
    ·have:k=0\/k=1\/k=2\/k=3\/k=4\/k=5\/k=6\/k=7\/k=8\/k=9\/k=10\/k=11\/k=12\/k=13\/k=14\/k=15\/k=16\/k=17\/k=18\/k=19:=by omega
     rcases this with rfl | rfl | rfl | rfl | rfl | rfl | rfl | rfl | rfl | rfl | rfl | rfl | rfl | rfl | rfl | rfl | rfl | rfl | rfl | rfl <;> rfl
    ·show (21 - (((k:Int)+1)+1)).toNat<(21 - ((k:Int)+1)).toNat
     omega
  ·intro h
   have h:=of_decide_eq_false h
   have hk:k=20:=by omega
   subst hk
   rfl
theorem zakq {k:Int} (h1:1<=k) (h2:k<=20):(#[.int .i64 0,.int .i64 (wsC 20 1),.int .i64 (wsC 20 2),.int .i64 (wsC 20 3),.int .i64 (wsC 20 4),.int .i64 (wsC 20 5),.int .i64 (wsC 20 6),.int .i64 (wsC 20 7),
 .int .i64 (wsC 20 8),.int .i64 (wsC 20 9),.int .i64 (wsC 20 10),.int .i64 (wsC 20 11),.int .i64 (wsC 20 12),.int .i64 (wsC 20 13),.int .i64 (wsC 20 14),.int .i64 (wsC 20 15),.int .i64 (wsC 20 16),.int .i64 (wsC 20 17),.int .i64 (wsC 20 18),.int .i64 (wsC 20 19),.int .i64 (wsC 20 20)]:Array Value)[Int.toNat k]? = some (.int .i64 (stp k)):=by
 have:k=1\/k=2\/k=3\/k=4\/k=5\/k=6\/k=7\/k=8\/k=9\/k=10\/k=11\/k=12\/k=13\/k=14\/k=15\/k=16\/k=17\/k=18\/k=19\/k=20:=by omega
 rcases this with rfl | rfl | rfl | rfl | rfl | rfl | rfl | rfl | rfl | rfl | rfl | rfl | rfl | rfl | rfl | rfl | rfl | rfl | rfl | rfl <;> rfl
theorem zdx {n k:Int} {w:World} {bs:List Nat}:zad bs Tryz.prog zb9 #[.int .i64 n,.int .i64 k] w (.int .i64 (zbn n k)):=
 zrb n k fun wr hx=>by
  refine ⟨_,zap,_,fun _=>zj0,fun h => ?_,fun h => ?_⟩
  ·congr 1; unfold zbn; rw [if_neg]; intro h2; simp only [Bool.and_eq_true] at h2; simp [h2] at h
  ·have h2:inB n 0 100000000=true/\inB k 1 20=true:=by simpa using h
   rw [za6,za6] at h2
   have hm:=z76 h2.1.1 h2.1.2 h2.2.1 h2.2.2
   refine ⟨_,_,_,_,_,_,_,_,_,_,_,_,_,_,_,_,_,_,_,_,_,zqw,stp k,⟨by omega,by omega,zakq h2.2.1 h2.2.2⟩,zjx (by omega) (by omega),?_⟩
   rw [zko h2.1.1 h2.1.2 h2.2.1 h2.2.2]
theorem zo2 {k:Int} {w:World} {bs:List Nat}:zad bs Tryz.prog zgx #[.int .i64 k] w (.int .i64 (zcq k)):=
 zz9 k fun wr hx=>⟨_,zdx,rfl⟩
def zqn (s:ByteArray):Bool:=(((((zcs s (⟨[119,101,105,103,104,116].toArray⟩))||(zcs s (⟨[109,97,120].toArray⟩)))||(zcs s (⟨[99,112,117,115].toArray⟩)))||(zcs s (⟨[112,114,111,99,115].toArray⟩)))||(zcs s (⟨[115,116,97,116].toArray⟩)))
def okc (x:Int):Bool:=(((decide (x>=97))&&(decide (x<=122)))||((decide (x>=48))&&(decide (x<=57))))
def zin (s:ByteArray):Bool:=inB (s.size:Int) 1 8 && !zqn s&&(List.range s.size).all fun i=>okc (zje s (i:Int))
theorem zn9 {s:ByteArray}:zin s=true↔(1<=s.size/\s.size<=8)/\zqn s=false/\∀i:Nat,i<s.size->okc (zje s (i:Int))=true:=by
 unfold zin
 simp only [Bool.and_eq_true,za6,Bool.not_eq_true',List.all_eq_true,List.mem_range]
 constructor
 ·rintro ⟨⟨h1,h2⟩,h3⟩; exact ⟨⟨by omega,by omega⟩,h2,h3⟩
 ·rintro ⟨⟨h0,h1⟩,h2,h3⟩; exact ⟨⟨⟨by omega,by omega⟩,h2⟩,h3⟩
theorem znk {s:ByteArray} (h:¬((1<=s.size/\s.size<=8)/\zqn s=false/\∀i:Nat,i<s.size->okc (zje s (i:Int))=true)):zin s=false:=by
 cases hn:zin s with
 | false=>rfl
 | true=>exact absurd (zn9.1 hn) h
theorem z3o {s:ByteArray} {w:World} {bs:List Nat}:zad bs Tryz.prog zkx #[.string s] w (.bool (zqn s)):=
 z4i s fun wr hx=>rfl
theorem zq0 {s:ByteArray} {w:World} {bs:List Nat}:zad bs Tryz.prog zh6 #[.string s] w (.bool (zin s)):=
 z4f s fun wr hx=>by
  refine ⟨_,za1,zqn s,fun _=>z3o,fun h => ?_,fun h => ?_⟩
  ·rw [znk]
   rintro ⟨h1,h2,_⟩
   rw [h2,za6.2 (by omega)] at h
   cases h
  ·have h:inB (s.size:Int) 1 8=true/\zqn s=false:=by simpa using h
   have h1:=za6.1 h.1
   refine zgs s.size 0 rfl (fun k=>k<=s.size/\∀j:Nat,j<k->okc (zje s (j:Int))=true) ⟨Nat.zero_le _,fun j hj=>absurd hj (Nat.not_lt_zero j)⟩ fun k ⟨hk,hI⟩=>⟨fun hlt => ?_,fun hge => ?_⟩
   ·have hlt:=of_decide_eq_true hlt
    have hr:0<=(k:Int)/\(k:Int)<(s.size:Int):=⟨by omega,hlt⟩
    refine ⟨hr,fun _=>hr,fun _=>hr,fun _ _=>hr,fun hno => ?_,fun hyes=>⟨⟨by omega,by omega⟩,zar (by omega) ⟨by omega,fun j hj => ?_⟩⟩⟩
    ·rw [znk]
     rintro ⟨_,_,h3⟩
     have:=h3 k (by omega)
     unfold okc at this
     rw [this] at hno
     cases hno
    ·by_cases hjk:j<k
     ·exact hI j hjk
     ·have:j=k:=by omega
      subst this
      unfold okc
      rw [Bool.not_eq_false'] at hyes
      exact hyes
   ·have hge:=of_decide_eq_false hge
    have hk:k=s.size:=by omega
    subst hk
    rw [zn9.2 ⟨⟨by omega,by omega⟩,h.2,hI⟩]
def zae (gs:List Grp) (g:Int):Bool:=(decide (g>=0)&&decide (g<(gs.length:Int)))&&(gi gs g).used
theorem zac {gs:List Grp} {g:Int}:zae gs g=true↔0<=g/\g<(gs.length:Int)/\(gi gs g).used=true:=by
 unfold zae
 simp [and_assoc]
def dep:Nat->List Grp->Int->Int
 | 0,_,g=>if g=0 then 0 else -1
 | f+1,gs,g=>if g=0 then 0 else if dep f gs (gi gs g).parent<0 then -1 else dep f gs (gi gs g).parent+1
def znh:Nat->List Grp->Int->Int->Int
 | 0,_,_,_ => -1
 | f+1,gs,g,n=>if zae gs g=false then -1 else if g=0 then n else znh f gs (gi gs g).parent (n+1)
theorem zjo (gs:List Grp):∀(f:Nat) (g:Int),-1<=dep f gs g/\dep f gs g<=f
 | 0,g=>by simp only [dep]; split <;> omega
 | f+1,g=>by
  have:=zjo gs f (gi gs g).parent
  simp only [dep]
  split
  ·omega
  ·split <;> omega
theorem zqi (gs:List Grp):∀(f f':Nat) (g:Int),0<=dep f gs g->dep f gs g<=f'->dep f' gs g=dep f gs g
 | 0,f',g,h,_=>by
  simp only [dep] at h ⊢
  split at h
  ·rename_i hg
   cases f' <;> simp [dep,hg]
  ·omega
 | f+1,f',g,h,hle=>by
  simp only [dep] at h hle ⊢
  by_cases hg:g=0
  ·rw [if_pos hg]
   cases f' <;> simp [dep,hg]
  ·rw [if_neg hg] at h hle ⊢
   by_cases hd:dep f gs (gi gs g).parent<0
   ·rw [if_pos hd] at h; omega
   ·rw [if_neg hd] at hle ⊢
    cases f' with
    | zero=>omega
    | succ f'=>
     have:=zqi gs f f' (gi gs g).parent (by omega) (by omega)
     simp only [dep]
     rw [if_neg hg,this,if_neg hd]
theorem zcv (gs:List Grp) (f:Nat):dep f gs 0=0:=by cases f <;> simp [dep]
theorem zae5 {gs:List Grp} {f:Nat} {g:Int} (h:dep f gs g=0):g=0:=by
 cases f with
 | zero=>simp only [dep] at h; split at h <;> first | assumption | omega
 | succ f=>
  simp only [dep] at h
  split at h
  ·assumption
  ·split at h <;> omega
structure zeb (gs:List Grp):Prop where
 len:gs.length=8
 ru:(gi gs 0).used=true
 rp:(gi gs 0).parent = -1
 rn:(gi gs 0).name=⟨[].toArray⟩
 nm:∀g:Int,1<=g->g<8->(gi gs g).used=true->zin (gi gs g).name=true
 par:∀g:Int,1<=g->g<8->(gi gs g).used=true->zae gs (gi gs g).parent=true
 dp:∀g:Int,1<=g->g<8->(gi gs g).used=true->0<=dep 3 gs g
 uniq:∀g h:Int,1<=h->h<g->g<8->(gi gs g).used=true->(gi gs h).used=true->¬((gi gs h).parent=(gi gs g).parent/\(gi gs h).name=(gi gs g).name)
noncomputable def zrq (gs:List Grp):Bool := @decide (zeb gs) (Classical.propDecidable _)
theorem zj9 {gs:List Grp}:zrq gs=true↔zeb gs := @decide_eq_true_iff _ (Classical.propDecidable _)
theorem zu1 {gs:List Grp} (h:¬zeb gs):zrq gs=false:=by
 cases hb:zrq gs with
 | false=>rfl
 | true=>exact absurd (zj9.1 hb) h
theorem zus {gs:List Grp} (hp:∀g:Int,g≠0->zae gs g=true->zae gs (gi gs g).parent=true):∀(f:Nat) (g n:Int),zae gs g=true->znh (f+1) gs g n=if dep f gs g<0 then -1 else n+dep f gs g
 | 0,g,n,hu=>by
  simp only [znh,dep,hu]
  by_cases hg:g=0 <;> simp [hg]
 | f+1,g,n,hu=>by
  rw [znh]
  simp only [hu]
  by_cases hg:g=0
  ·simp [hg,dep]
  ·have ih:=zus hp f (gi gs g).parent (n+1) (hp g hg hu)
   have hr:=zjo gs f (gi gs g).parent
   simp only [dep,if_neg hg]
   rw [ih]
   by_cases hd:dep f gs (gi gs g).parent<0
   ·simp [hd]
   ·have h2:¬(dep f gs (gi gs g).parent+1<0):=by omega
    simp [hd,h2]; omega
theorem zaci {gs:List Grp} {f:Nat} {g n:Int} (hg:g≠0) (h:znh (f+1) gs g n≠-1):f≠0/\zae gs (gi gs g).parent=true:=by
 rw [znh] at h
 by_cases hu:zae gs g=false
 ·rw [if_pos hu] at h; exact absurd rfl h
 ·rw [if_neg hu,if_neg hg] at h
  cases f with
  | zero=>exact absurd rfl h
  | succ f=>
   rw [znh] at h
   by_cases hp:zae gs (gi gs g).parent=false
   ·rw [if_pos hp] at h; exact absurd rfl h
   ·exact ⟨by omega,by simpa using hp⟩
structure zaej (gs:List Grp) (k:Int):Prop where
 each:∀g:Int,1<=g->g<k->(gi gs g).used=true->zin (gi gs g).name=true/\inB (znh 9 gs g 0) 1 3=true/\∀h:Int,1<=h->h<g->(gi gs h).used=true->¬((gi gs h).parent=(gi gs g).parent/\(gi gs h).name=(gi gs g).name)
theorem zad9 {gs:List Grp} (hl:gs.length=8) (ru:(gi gs 0).used=true) (rp:(gi gs 0).parent = -1) (rn:(gi gs 0).name=⟨[].toArray⟩) (h:zaej gs 8):zeb gs:=by
 have par:∀g:Int,1<=g->g<8->(gi gs g).used=true->zae gs (gi gs g).parent=true:=fun g h1 h2 hu=>by
  have:=za6.1 (h.each g h1 h2 hu).2.1
  exact (zaci (f:=8) (n:=0) (by omega) (by show znh 9 gs g 0≠-1; omega)).2
 have hp:∀g:Int,g≠0->zae gs g=true->zae gs (gi gs g).parent=true:=fun g hg hu=>by
  obtain ⟨a,b,c⟩:=zac.1 hu
  exact par g (by omega) (by omega) c
 refine ⟨hl,ru,rp,rn,fun g h1 h2 hu=>(h.each g h1 h2 hu).1,par,fun g h1 h2 hu => ?_,fun g k h1 h2 h3 hu hk=>(h.each g (by omega) h3 hu).2.2 k h1 h2 hk⟩
 have h9:=za6.1 (h.each g h1 h2 hu).2.1
 rw [zus hp 8 g 0 (zac.2 ⟨by omega,by omega,hu⟩)] at h9
 split at h9
 ·omega
 ·rename_i hd
  have:=zqi gs 8 3 g (by omega) (by omega)
  omega
theorem zaa5 {gs:List Grp} (h:zeb gs):zaej gs 8:=by
 have hp:∀g:Int,g≠0->zae gs g=true->zae gs (gi gs g).parent=true:=fun g hg hu=>by
  obtain ⟨a,b,c⟩:=zac.1 hu
  have:=h.len
  exact h.par g (by omega) (by omega) c
 refine ⟨fun g h1 h2 hu=>⟨h.nm g h1 h2 hu,?_,fun k h3 h4 hk=>h.uniq g k h3 h4 h2 hu hk⟩⟩
 have hl:=h.len
 rw [zus hp 8 g 0 (zac.2 ⟨by omega,by omega,hu⟩)]
 have h3:=h.dp g h1 h2 hu
 have hr:=zjo gs 3 g
 have:=zqi gs 3 8 g h3 (by omega)
 rw [this,if_neg (by omega)]
 have hz:dep 3 gs g≠0:=fun e=>by have:=zae5 e; omega
 exact za6.2 (by omega)
section
variable {gs:List Grp} {ms:Nat->MG} {o:Option Addr} {c:Nat} {w:World} {bs:List Nat}
theorem RdG.used (h:RdG bs w o gs ms) {i:Int} (h0:0<=i) (h1:i<(gs.length:Int)):zaa bs w o (Int.toNat i*14+0) [.bool (gi gs i).used]:=(h.cells i h0 h1).get 0 _ rfl
theorem RdG.parent (h:RdG bs w o gs ms) {i:Int} (h0:0<=i) (h1:i<(gs.length:Int)):zaa bs w o (Int.toNat i*14+1) [.int .i64 (gi gs i).parent]:=(h.cells i h0 h1).get 1 _ rfl
theorem RdG.name (h:RdG bs w o gs ms) {i:Int} (h0:0<=i) (h1:i<(gs.length:Int)):zaa bs w o (Int.toNat i*14+2) [.string (gi gs i).name]:=(h.cells i h0 h1).get 2 _ rfl
theorem zel {g:Int} (h:RdG bs w o gs ms):zad bs Tryz.prog zcl #[.slice o gs.length c,.int .i64 g] w (.bool (zae gs g)):=
 z4j o gs.length c g fun wr hx=>by
  have h:=(h.ext hx).less (cs:=[]) (by simp)
  refine ⟨fun q => ?_,(gi gs g).used,fun q => ?_,rfl⟩
  ·have q:0<=g/\g<(gs.length:Int):=by simpa using q
   exact h.ix q.1 q.2
  ·have q:0<=g/\g<(gs.length:Int):=by simpa using q
   exact h.used q.1 q.2
theorem zk6 {g:Int} (h:RdG bs w o gs ms) (hl:gs.length<maxLen):zad bs Tryz.prog zfi #[.slice o gs.length c,.int .i64 g] w (.int .i64 (znh (gs.length+1) gs g 0)):=
 z0i o gs.length c g fun wr hx=>by
  have h:=(h.ext hx).less (cs:=[]) (by simp)
  refine zz8 (gs.length+1) 0 rfl (fun x k=>k<=gs.length+1/\znh (gs.length+1 - k) gs x k=znh (gs.length+1) gs g 0) ⟨by omega,rfl⟩ fun x k ⟨hk,he⟩=>⟨fun hlt => ?_,fun hge => ?_⟩
  ·have hlt:=of_decide_eq_true hlt
   have hf:gs.length+1 - k=(gs.length - k)+1:=by omega
   rw [hf,znh] at he
   refine ⟨_,zel h,fun hu => ?_,fun hu => ?_⟩
   ·have hu:zae gs x=false:=by simpa using hu
    rw [if_pos hu] at he
    rw [<-he]
   ·have hu:zae gs x=true:=by simpa using hu
    rw [if_neg (by simp [hu])] at he
    obtain ⟨u1,u2,u3⟩:=zac.1 hu
    refine ⟨fun hz => ?_,fun hz => ?_⟩
    ·rw [if_pos (by simpa using hz)] at he
     rw [<-he]
    ·rw [if_neg (by simpa using hz)] at he
     have hm:=zj4
     refine ⟨h.ix u1 u2,_,h.parent u1 u2,⟨by omega,by omega⟩,zb1 (by omega) ⟨by omega,?_⟩⟩
     rw [<-he,show gs.length+1 - (k+1)=gs.length - k by omega]
     rfl
  ·have hge:=of_decide_eq_false hge
   have:gs.length+1 - k=0:=by omega
   rw [this] at he
   rw [<-he]; rfl
theorem zq1 (h:RdG bs w o gs ms) (hl:gs.length<=maxLen):zad bs Tryz.prog zh7 #[.slice o gs.length c] w (.bool (zrq gs)):=
 z4g o gs.length c fun wr hx=>by
  have h:=(h.ext hx).less (cs:=[]) (by simp)
  have l8:((((gs.length:Nat):Int) != 8)=false)->gs.length=8:=fun q=>by have:=(bne_eq_false_iff_eq).1 q; omega
  have i0:∀q:(((gs.length:Nat):Int) != 8)=false,(0:Int)<(gs.length:Int):=fun q=>by have:=l8 q; omega
  refine ⟨fun q=>h.ix (Int.le_refl _) (i0 q),(gi gs 0).used,fun q=>h.used (Int.le_refl _) (i0 q),fun q => ?_,(gi gs 0).parent,fun q => ?_,fun q => ?_,(gi gs 0).name,fun q => ?_,fun q => ?_,fun q => ?_⟩
  ·simp only [Bool.or_eq_false_iff] at q; exact h.ix (Int.le_refl _) (i0 q.1)
  ·simp only [Bool.or_eq_false_iff] at q; exact h.parent (Int.le_refl _) (i0 q.1)
  ·simp only [Bool.or_eq_false_iff] at q; exact h.ix (Int.le_refl _) (i0 q.1.1)
  ·simp only [Bool.or_eq_false_iff] at q; exact h.name (Int.le_refl _) (i0 q.1.1)
  ·rw [zu1]
   intro ht
   have e:((gs.length:Nat):Int)=8:=by have:=ht.len; omega
   rw [e,ht.ru,ht.rp,ht.rn,zuy] at q
   simp at q
  ·simp only [Bool.or_eq_false_iff,Bool.not_eq_false',bne_eq_false_iff_eq,zf5] at q
   obtain ⟨⟨⟨q1,ru⟩,rp⟩,rn⟩:=q
   have hl8:gs.length=8:=by omega
   refine zgs 8 1 rfl (fun k=>1<=k/\k<=8/\zaej gs k) ⟨Nat.le_refl _,by omega,⟨fun g h1 h2=>by omega⟩⟩ fun k ⟨hk1,hk,hS⟩=>⟨fun hlt => ?_,fun hge => ?_⟩
   ·have hlt:=of_decide_eq_true hlt
    have hk0:(0:Int)<=(k:Int):=by omega
    have step:((gi gs (k:Int)).used=true->zin (gi gs (k:Int)).name=true/\inB (znh 9 gs (k:Int) 0) 1 3=true/\∀h:Int,1<=h->h<(k:Int)->(gi gs h).used=true->¬((gi gs h).parent=(gi gs (k:Int)).parent/\(gi gs h).name=(gi gs (k:Int)).name))->zaej gs ((k+1:Nat):Int):=fun hst=>⟨fun g h1 h2 hu=>by
     by_cases hgk:g<(k:Int)
     ·exact hS.each g h1 hgk hu
     ·have:g=(k:Int):=by omega
      subst this; exact hst hu⟩
    refine ⟨h.ix hk0 hlt,_,h.used hk0 hlt,fun hu=>⟨⟨by omega,by omega⟩,zar (by omega) ⟨by omega,by omega,step fun hu'=>by rw [hu'] at hu; cases hu⟩⟩,fun hu => ?_⟩
    have hu:(gi gs (k:Int)).used=true:=by simpa using hu
    refine ⟨h.ix hk0 hlt,_,h.name hk0 hlt,_,zq0,znh 9 gs (k:Int) 0,fun _ => ?_,inB (znh 9 gs (k:Int) 0) 1 3,fun _=>za1,fun q => ?_,fun q => ?_⟩
    ·have:=zk6 (c:=c) (g:=(k:Int)) h (by rw [hl8]; simp [maxLen])
     rwa [hl8] at this ⊢
    ·rw [zu1]
     intro ht
     have:=(zaa5 ht).each (k:Int) (by omega) (by omega) hu
     rw [this.1,this.2.1] at q
     cases q
    ·simp only [Bool.or_eq_false_iff,Bool.not_eq_false'] at q
     refine zgs k 1 rfl (fun j=>1<=j/\j<=k/\∀h:Int,1<=h->h<(j:Int)->(gi gs h).used=true->¬((gi gs h).parent=(gi gs (k:Int)).parent/\(gi gs h).name=(gi gs (k:Int)).name)) ⟨Nat.le_refl _,hk1,fun g h1 h2=>by omega⟩ fun j ⟨hj1,hjk,hJ⟩=>⟨fun hlt2 => ?_,fun hge2 => ?_⟩
     ·have hlt2:=of_decide_eq_true hlt2
      have hj0:(0:Int)<=(j:Int):=by omega
      have hjl:(j:Int)<(gs.length:Int):=by omega
      refine ⟨h.ix hj0 hjl,_,h.used hj0 hjl,fun _=>h.ix hj0 hjl,_,fun _=>h.parent hj0 hjl,fun _=>h.ix hk0 hlt,_,fun _=>h.parent hk0 hlt,fun _=>h.ix hj0 hjl,_,fun _=>h.name hj0 hjl,fun _=>h.ix hk0 hlt,_,fun _=>h.name hk0 hlt,fun hs => ?_,fun hs=>⟨⟨by omega,by omega⟩,zar (by omega) ⟨by omega,by omega,fun g h1 h2 hg => ?_⟩⟩⟩
      ·rw [zu1]
       intro ht
       simp only [Bool.and_eq_true,beq_iff_eq,zf5] at hs
       exact ht.uniq (k:Int) (j:Int) (by omega) hlt2 (by omega) hu hs.1.1 ⟨hs.1.2,hs.2⟩
      ·by_cases hgj:g<(j:Int)
       ·exact hJ g h1 hgj hg
       ·have:g=(j:Int):=by omega
        subst this
        rintro ⟨e1,e2⟩
        rw [hg,e1,e2,zuy] at hs
        simp at hs
     ·have hge2:=of_decide_eq_false hge2
      have:j=k:=by omega
      subst this
      exact ⟨⟨by omega,by omega⟩,zar (by omega) ⟨by omega,by omega,step fun _=>⟨q.1,q.2,hJ⟩⟩⟩
   ·have hge:=of_decide_eq_false hge
    have:k=8:=by omega
    subst this
    rw [zj9.2 (zad9 hl8 ru rp rn hS)]
def insD:Nat->List Grp->Int->Int->Bool
 | 0,_,g,h=>h==g
 | f+1,gs,g,h=>h==g||(h != 0&&insD f gs g (gi gs h).parent)
noncomputable def ztn (gs:List Grp) (g h:Int):Bool:=zrq gs&&zae gs g&&zae gs h&&insD 3 gs g h
theorem zd4 {gs:List Grp} (ht:zeb gs) {h:Int} (hu:zae gs h=true) (hz:h≠0):zae gs (gi gs h).parent=true/\0<=h/\h<(gs.length:Int)/\∃d:Nat,dep 3 gs h=(d:Int)+1/\dep 3 gs (gi gs h).parent=(d:Int)/\d<3:=by
 obtain ⟨a,b,u⟩:=zac.1 hu
 have hl:=ht.len
 have h1:1<=h:=by omega
 have hd:=ht.dp h h1 (by omega) u
 refine ⟨ht.par h h1 (by omega) u,a,b,?_⟩
 have hr:=zjo gs 2 (gi gs h).parent
 have e:dep 3 gs h=if dep 2 gs (gi gs h).parent<0 then -1 else dep 2 gs (gi gs h).parent+1:=by simp only [dep,if_neg hz]
 rw [e] at hd ⊢
 split at hd
 ·omega
 ·rename_i hn
  rw [if_neg hn]
  have:=zqi gs 2 3 (gi gs h).parent (by omega) (by omega)
  exact ⟨(dep 2 gs (gi gs h).parent).toNat,by omega,by omega,by omega⟩
theorem zacb {gs:List Grp} (ht:zeb gs) (g:Int):∀(f f':Nat) (h:Int),zae gs h=true->dep 3 gs h<=f->dep 3 gs h<=f'->insD f gs g h=insD f' gs g h:=by
 intro f
 induction f with
 | zero=>
  intro f' h hu h1 h2
  have hz:h=0:=Decidable.byContradiction fun hz=>by
   obtain ⟨_,_,_,d,e,_⟩:=zd4 ht hu hz
   omega
  subst hz
  cases f' <;> simp [insD]
 | succ f ih=>
  intro f' h hu h1 h2
  by_cases hz:h=0
  ·subst hz
   cases f' <;> simp [insD]
  ·obtain ⟨hp,_,_,d,e,e2,_⟩:=zd4 ht hu hz
   cases f' with
   | zero=>omega
   | succ f'=>
    simp only [insD]
    rw [ih f' (gi gs h).parent hp (by omega) (by omega)]
theorem z5u {gs:List Grp} (ht:zeb gs) {g h:Int} (hu:zae gs h=true) (hz:h≠0) (hg:h≠g):insD 3 gs g h=insD 3 gs g (gi gs h).parent:=by
 obtain ⟨hp,_,_,d,e,e2,hd⟩:=zd4 ht hu hz
 rw [<-zacb ht g 2 3 (gi gs h).parent hp (by omega) (by omega)]
 have e3:insD 3 gs g h=(h==g||(h != 0&&insD 2 gs g (gi gs h).parent)):=rfl
 rw [e3]
 have e4:(h==g)=false:=by simpa using hg
 have e5:(h != 0)=true:=by simpa using hz
 rw [e4,e5,Bool.false_or,Bool.true_and]
theorem zmf {g h:Int} (hr:RdG bs w o gs ms) (hl:gs.length<=maxLen):zad bs Tryz.prog zfs #[.slice o gs.length c,.int .i64 g,.int .i64 h] w (.bool (ztn gs g h)):=
 zuj o gs.length c g h fun wr hx=>by
  have hr:=(hr.ext hx).less (cs:=[]) (by simp)
  refine ⟨_,zq1 hr hl,_,fun _=>zel hr,_,fun _=>zel hr,fun q => ?_,fun q => ?_⟩
  ·have:ztn gs g h=false:=by
    unfold ztn
    cases h1:zrq gs <;> cases h2:zae gs g <;> cases h3:zae gs h <;> simp_all
   rw [this]
  ·simp only [Bool.or_eq_false_iff,Bool.not_eq_false'] at q
   obtain ⟨⟨q1,q2⟩,q3⟩:=q
   have ht:=zj9.1 q1
   have hU:ztn gs g h=insD 3 gs g h:=by unfold ztn; rw [q1,q2,q3]; rfl
   refine ⟨fun vs=>∃x:Int,vs=[.int .i64 x]/\zae gs x=true/\insD 3 gs g x=insD 3 gs g h,fun vs=>(dep 3 gs (zef 0 vs)).toNat,⟨h,rfl,q3,rfl⟩,?_⟩
   rintro x ⟨x',he,hu,hI⟩
   simp only [List.cons.injEq,Value.int.injEq,true_and,and_true] at he
   subst he
   refine ⟨fun hne=>⟨fun hz => ?_,fun hz => ?_⟩,fun heq => ?_⟩
   ·have hz:x=0:=by simpa using hz
    subst hz
    have:insD 3 gs g 0=false:=by
     have:¬(0=g):=by simpa using hne
     simp [insD,this]
    rw [hU,<-hI,this]
   ·have hz:x≠0:=by simpa using hz
    have hne:x≠g:=by simpa using hne
    obtain ⟨hp,a,b,d,e,e2,hd⟩:=zd4 ht hu hz
    refine ⟨hr.ix a b,_,hr.parent a b,⟨_,rfl,hp,by rw [<-z5u ht hu hz hne]; exact hI⟩,?_⟩
    show (dep 3 gs (gi gs x).parent).toNat<(dep 3 gs x).toNat
    omega
   ·have heq:x=g:=by simpa using heq
    subst heq
    rw [hU,<-hI]
    simp [insD]
end
end Go.Proofs.YtclpmgfpjeaibaaGreatDoor
