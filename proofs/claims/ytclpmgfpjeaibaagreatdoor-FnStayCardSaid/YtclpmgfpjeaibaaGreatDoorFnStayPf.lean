/- Part 6 of what the law FnStay needs: the engine, the functions' propositions, the contracts. -/
import Derived.Test.YtclpmgfpjeaibaaGreatDoorFnStayPe
import Derived.ChangeArms
namespace Go.Proofs.YtclpmgfpjeaibaaGreatDoor
open Go.RowKit Go.ChangeShapes
set_option linter.unusedVariables false
set_option linter.unusedSimpArgs false
section
variable {H:Type} {en:TypeId×Value->H} {P:Program} {w:World} {base:Nat} {spare:Nat->Bool} {held:Bool} {fuel:Nat} {t:TypeId} {cs:List Value} {x:DataW H×List MemPlace}
theorem zagm {e:TypeId} (hu:P.underlying t=some (.slice e)) (h:DataW.trod en P w base spare held fuel t cs=some x) :
  ∃(o:Option Addr) (len cap:Nat),cs=[.slice o len cap]/\len<=cap/\cap<=maxLen/\∀i,i<len->∃a n y ec,o=some a/\w.cells? base (a.add (i*P.cellsOf e)) (P.cellsOf e)=some ec/\DataW.trod en P w base spare held n e ec=some y:=by
 rcases DataW.trod_slice hu h with ⟨rfl,_⟩ | ⟨a,len,cap,elems,rest,n,_,rfl,_,_,hl,hm,hlen,hel,_,_⟩
 ·exact ⟨none,0,0,rfl,Nat.le_refl _,Nat.zero_le _,fun i hi=>absurd hi (Nat.not_lt_zero i)⟩
 ·refine ⟨some a,len,cap,rfl,hl,hm,fun i hi => ?_⟩
  have h1:=hel i hi
  rw [List.getElem?_eq_getElem (by omega),Option.bind_eq_some_iff] at h1
  obtain ⟨ec,h2,h3⟩:=h1
  exact ⟨a,n,_,ec,rfl,h2,h3⟩
end
theorem len1 {l:List Value} (h:l.length=1):∃a,l=[a]:=by
 match l,h with
 | [a],_=>exact ⟨a,rfl⟩
theorem zakm:Tryz.prog.underlying zao=some (.int .i64):=by kernel_rfl
theorem u_bool:Tryz.prog.underlying zdg=some .bool:=by kernel_rfl
theorem zrr:Tryz.prog.underlying zee=some (.slice zao):=by kernel_rfl
theorem zyt:Tryz.prog.underlying zgr=some (.slice zdg):=by kernel_rfl
theorem zgj:Elt Tryz.prog encI 1 zao 8 (0:Int):=ztb (by kernel_rfl) fun _=>rfl
theorem zh1:Elt Tryz.prog encB 1 zdg 1 (false:Bool):=ztb (by kernel_rfl) fun _=>rfl
section
variable {H:Type} {en:TypeId×Value->H} {w:World} {base:Nat} {spare:Nat->Bool} {held:Bool} {fuel:Nat} {cs:List Value} {x:DataW H×List MemPlace}
theorem z4w:Tryz.prog.underlying zfo=some .string:=by kernel_rfl
structure FitG (g:Grp):Prop where
 nm:g.name.size<=maxLen
 nx:InR .i64 g.next
 lo:g.band.locals.length<=maxLen
 dr:g.band.dry.length<=maxLen
 sh:g.shelves.length<=maxLen
end
end Go.Proofs.YtclpmgfpjeaibaaGreatDoor
namespace Go.Proofs.YtclpmgfpjeaibaaGreatDoor
open Go.RowKit
set_option linter.unusedVariables false
set_option maxRecDepth 100000
set_option maxHeartbeats 1600000
def zvq (n aa ba:Int) (w:World) (R:Value->World->Prop):Prop:=
 R (.bool ((decide (n>=aa))&&(decide (n<=ba)))) w
theorem z78 (n low high):PuV (zvq n low high) zaq #[.int .i64 n,.int .i64 low,.int .i64 high]:=pV [] false [] Tryz.func28 (by kernel_rfl) (by kernel_rfl)
def z2g (s:ByteArray) (w:World) (R:Value->World->Prop):Prop:=
 R (.bool (((((zcs s (ByteArray.mk [119,101,105,103,104,116].toArray))||(zcs s (ByteArray.mk [109,97,120].toArray)))||(zcs s (ByteArray.mk [99,112,117,115].toArray)))||(zcs s (ByteArray.mk [112,114,111,99,115].toArray)))||(zcs s (ByteArray.mk [115,116,97,116].toArray)))) w
theorem z4i (s):PuV (z2g s) zkx #[.string s]:=pV [] false [] Tryz.func81 (by kernel_rfl) (by kernel_rfl)
def z2d (s:ByteArray) (w:World) (R:Value->World->Prop):Prop:=
 (∃aa,
 zad [] Tryz.prog zaq #[I (s.size:Int),I 1,I 8] w (.bool aa)/\
 (∃ba,
 ((!aa)=false->zad [] Tryz.prog zkx #[.string s] w (.bool ba))/\
 (((!aa)||ba)=true->
 R (.bool false) w)/\
 (((!aa)||ba)=false->
 (∃(ca:List Value->Prop) (mu:List Value->Nat),ca [I 0]/\
 ∀(i:Int),ca [I i]->
 ((decide (i<(s.size:Int)))=true->
 (0<=i/\i<(s.size:Int))/\
 ((decide (zje s i>=97))=true->(0<=i/\i<(s.size:Int)))/\
 (((decide (zje s i>=97))&&(decide (zje s i<=122)))=false->(0<=i/\i<(s.size:Int)))/\
 ((decide (zje s i>=48))=true->(((decide (zje s i>=97))&&(decide (zje s i<=122)))=false->(0<=i/\i<(s.size:Int))))/\
 ((!(((decide (zje s i>=97))&&(decide (zje s i<=122)))||((decide (zje s i>=48))&&(decide (zje s i<=57)))))=true->
 R (.bool false) w)/\
 ((!(((decide (zje s i>=97))&&(decide (zje s i<=122)))||((decide (zje s i>=48))&&(decide (zje s i<=57)))))=false->
 InR .i64 (i+1)/\
 ca [I (i+1)]/\mu [I (i+1)]<mu [I i]))/\
 ((decide (i<(s.size:Int)))=false->
 R (.bool true) w)))))
theorem z4f (s):PuV (z2d s) zh6 #[.string s]:=pV [] false [(4,⟨[(3,.int .i64)],[],[0],[],[]⟩)] Tryz.func39 (by kernel_rfl) (by kernel_rfl)
def z2h (lO:Option Addr) (lL lC:Nat) (g:Int) (w:World) (R:Value->World->Prop):Prop:=
 (((decide (g>=0))&&(decide (g<(lL:Int))))=true->Ix lO lL g)/\
 (∃aa,
 (((decide (g>=0))&&(decide (g<(lL:Int))))=true->zaa [] w lO (Int.toNat g*14+0) [.bool aa])/\
 R (.bool (((decide (g>=0))&&(decide (g<(lL:Int))))&&aa)) w)
theorem z4j (lO lL lC g):PuV (z2h lO lL lC g) zcl #[.slice lO lL lC,.int .i64 g]:=pV [] false [] Tryz.func40 (by kernel_rfl) (by kernel_rfl)
def zzc (lO:Option Addr) (lL lC:Nat) (g:Int) (w:World) (R:Value->World->Prop):Prop:=
 (∃(aa:List Value->Prop) (mu:List Value->Nat),aa [I g,I 0]/\
 ∀(g1 n:Int),aa [I g1,I n]->
 ((decide (n<=(lL:Int)))=true->
 (∃ba,
 zad [] Tryz.prog zcl #[S lO lL lC,I g1] w (.bool ba)/\
 ((!ba)=true->
 R (I (-1)) w)/\
 ((!ba)=false->
 ((g1==0)=true->
 R (I n) w)/\
 ((g1==0)=false->
 Ix lO lL g1/\
 (∃ca,
 zaa [] w lO (Int.toNat g1*14+1) [I ca]/\
 InR .i64 (n+1)/\
 aa [I ca,I (n+1)]/\mu [I ca,I (n+1)]<mu [I g1,I n])))))/\
 ((decide (n<=(lL:Int)))=false->
 R (I (-1)) w))
theorem z0i (lO lL lC g):PuV (zzc lO lL lC g) zfi #[.slice lO lL lC,.int .i64 g]:=pV [] false [(2,⟨[(1,.int .i64),(5,.int .i64)],[],[0],[],[]⟩)] Tryz.func41 (by kernel_rfl) (by kernel_rfl)
def z2e (lO:Option Addr) (lL lC:Nat) (w:World) (R:Value->World->Prop):Prop:=
 (((lL:Int) != 8)=false->Ix lO lL 0)/\
 (∃aa,
 (((lL:Int) != 8)=false->zaa [] w lO (Int.toNat 0*14+0) [.bool aa])/\
 ((((lL:Int) != 8)||(!aa))=false->Ix lO lL 0)/\
 (∃ba,
 ((((lL:Int) != 8)||(!aa))=false->zaa [] w lO (Int.toNat 0*14+1) [I ba])/\
 (((((lL:Int) != 8)||(!aa))||(ba != (-1)))=false->Ix lO lL 0)/\
 (∃(ca:ByteArray),
 (((((lL:Int) != 8)||(!aa))||(ba != (-1)))=false->zaa [] w lO (Int.toNat 0*14+2) [.string ca])/\
 ((((((lL:Int) != 8)||(!aa))||(ba != (-1)))||(!zcs ca (ByteArray.mk [].toArray)))=true->
 R (.bool false) w)/\
 ((((((lL:Int) != 8)||(!aa))||(ba != (-1)))||(!zcs ca (ByteArray.mk [].toArray)))=false->
 (∃(da:List Value->Prop) (mu:List Value->Nat),da [I 1]/\
 ∀(g:Int),da [I g]->
 ((decide (g<(lL:Int)))=true->
 Ix lO lL g/\
 (∃ea,
 zaa [] w lO (Int.toNat g*14+0) [.bool ea]/\
 ((!ea)=true->
 InR .i64 (g+1)/\
 da [I (g+1)]/\mu [I (g+1)]<mu [I g])/\
 ((!ea)=false->
 Ix lO lL g/\
 (∃(fa:ByteArray),
 zaa [] w lO (Int.toNat g*14+2) [.string fa]/\
 (∃ga,
 zad [] Tryz.prog zh6 #[.string fa] w (.bool ga)/\
 (∃ha,
 ((!ga)=false->zad [] Tryz.prog zfi #[S lO lL lC,I g] w (I ha))/\
 (∃ia,
 ((!ga)=false->zad [] Tryz.prog zaq #[I ha,I 1,I 3] w (.bool ia))/\
 (((!ga)||(!ia))=true->
 R (.bool false) w)/\
 (((!ga)||(!ia))=false->
 (∃(ja:List Value->Prop) (ka:List Value->Nat),ja [I 1]/\
 ∀(h:Int),ja [I h]->
 ((decide (h<g))=true->
 Ix lO lL h/\
 (∃la,
 zaa [] w lO (Int.toNat h*14+0) [.bool la]/\
 (la=true->Ix lO lL h)/\
 (∃ma,
 (la=true->zaa [] w lO (Int.toNat h*14+1) [I ma])/\
 (la=true->Ix lO lL g)/\
 (∃na,
 (la=true->zaa [] w lO (Int.toNat g*14+1) [I na])/\
 ((la&&(ma==na))=true->Ix lO lL h)/\
 (∃(oa:ByteArray),
 ((la&&(ma==na))=true->zaa [] w lO (Int.toNat h*14+2) [.string oa])/\
 ((la&&(ma==na))=true->Ix lO lL g)/\
 (∃(pa:ByteArray),
 ((la&&(ma==na))=true->zaa [] w lO (Int.toNat g*14+2) [.string pa])/\
 (((la&&(ma==na))&&(zcs oa pa))=true->
 R (.bool false) w)/\
 (((la&&(ma==na))&&(zcs oa pa))=false->
 InR .i64 (h+1)/\
 ja [I (h+1)]/\ka [I (h+1)]<ka [I h])))))))/\
 ((decide (h<g))=false->
 InR .i64 (g+1)/\
 da [I (g+1)]/\mu [I (g+1)]<mu [I g]))))))))))/\
 ((decide (g<(lL:Int)))=false->
 R (.bool true) w))))))
theorem z4g (lO lL lC):PuV (z2e lO lL lC) zh7 #[.slice lO lL lC]:=pV [] false [(4,⟨[(3,.int .i64)],[],[0],[],[]⟩),(10,⟨[(4,.int .i64)],[],[0,3],[],[]⟩)] Tryz.func64 (by kernel_rfl) (by kernel_rfl)
def z48 (w0:Int) (ba:Option Addr) (ca da:Nat) (ea:Option Addr) (fa ga:Nat) (ha:Option Addr) (ia ja:Nat) (w:World) (R:Value->World->Prop):Prop:=
 (∀b,w.heap.size<=b->
 (∃(aa:List Value->Prop) (mu:List Value->Nat),aa [I 0,I 0]/\
 ∀(m c:Int),aa [I m,I c]->
 ((decide (c<(ca:Int)))=true->
 Ix ba ca c/\
 (∃up,
 zaa [] w ba (Int.toNat c*5+0) [.bool up]/\
 (up=true->
 InR .u64 c/\
 (0<=c/\InR .i64 (1*2 ^ (min (Int.toNat c) 64)))/\
 InR .i64 (m+(1*2 ^ (min (Int.toNat c) 64)))/\
 InR .i64 (c+1)/\
 aa [I (m+(1*2 ^ (min (Int.toNat c) 64))),I (c+1)]/\mu [I (m+(1*2 ^ (min (Int.toNat c) 64))),I (c+1)]<mu [I m,I c])/\
 (up=false->
 InR .i64 (c+1)/\
 aa [I m,I (c+1)]/\mu [I m,I (c+1)]<mu [I m,I c])))/\
 ((decide (c<(ca:Int)))=false->
 R (I m) w)))
theorem z6m (w0 w1O w1L w1C w2O w2L w2C w3O w3L w3C):PuV (z48 w0 w1O w1L w1C w2O w2L w2C w3O w3L w3C) zjc #[.agg #[.int .i64 w0,.slice w1O w1L w1C,.slice w2O w2L w2C,.slice w3O w3L w3C]]:=pV [] false [(3,⟨[(3,.int .i64),(4,.int .i64)],[],[1],[],[]⟩)] Tryz.func65 (by kernel_rfl) (by kernel_rfl)
def zvr (wv:Int) (w:World) (R:Value->World->Prop):Prop:=
 (∃aa,
 zad [] Tryz.prog zaq #[I wv,I 1,I 20] w (.bool aa)/\
 R (.bool aa) w)
theorem zx5 (wv):PuV (zvr wv) zcz #[.int .i64 wv]:=pV [] false [] Tryz.func43 (by kernel_rfl) (by kernel_rfl)
def z2c (m:Int) (w:World) (R:Value->World->Prop):Prop:=
 (∃aa,
 zad [] Tryz.prog zaq #[I m,I 0,I 15] w (.bool aa)/\
 R (.bool aa) w)
theorem z4e (m):PuV (z2c m) zc9 #[.int .i64 m]:=pV [] false [] Tryz.func46 (by kernel_rfl) (by kernel_rfl)
def zvv (b0 b1 b2:Int) (aa:Option Addr) (ba ca:Nat) (da:Option Addr) (ea fa:Nat) (w:World) (R:Value->World->Prop):Prop:=
 (∀b,w.heap.size<=b->
 R (.bool (((((b0==0)&&(b1==0))&&(b2==0))&&((ba:Int)==0))&&((ea:Int)==0))) w)
theorem zx8 (b0 b1 b2 b3O b3L b3C b4O b4L b4C):PuV (zvv b0 b1 b2 b3O b3L b3C b4O b4L b4C) zgg #[.agg #[.int .i64 b0,.int .i64 b1,.int .i64 b2,.slice b3O b3L b3C,.slice b4O b4L b4C]]:=pV [] false [] Tryz.func119 (by kernel_rfl) (by kernel_rfl)
def z2f (v:Int) (w:World) (R:Value->World->Prop):Prop:=
 (∃aa,
 zad [] Tryz.prog zaq #[I v,I 0,I 100000000000000000] w (.bool aa)/\
 R (.bool aa) w)
theorem z4h (v):PuV (z2f v) zb4 #[.int .i64 v]:=pV [] false [] Tryz.func120 (by kernel_rfl) (by kernel_rfl)
def z2a (b0 b1 b2:Int) (ha:Option Addr) (ia ja:Nat) (ka:Option Addr) (la ma:Nat) (w:World) (R:Value->World->Prop):Prop:=
 (∀b,w.heap.size<=b->
 (∃aa,
 zad [] Tryz.prog zaq #[I b0,I 1,I 10000] w (.bool aa)/\
 (∃ba,
 ((!aa)=false->zad [] Tryz.prog zaq #[I (ia:Int),I 1,I 4] w (.bool ba))/\
 (∃ca,
 ((((!aa)||(!ba))||((la:Int) != (ia:Int)))=false->zad [] Tryz.prog zaq #[I b1,I 0,I b0] w (.bool ca))/\
 (∃da,
 (((((!aa)||(!ba))||((la:Int) != (ia:Int)))||(!ca))=false->zad [] Tryz.prog zaq #[I b2,I 0,I b0] w (.bool da))/\
 ((((((!aa)||(!ba))||((la:Int) != (ia:Int)))||(!ca))||(!da))=true->
 R (.bool false) w)/\
 ((((((!aa)||(!ba))||((la:Int) != (ia:Int)))||(!ca))||(!da))=false->
 InR .i64 (b1+b2)/\
 (∃(ea:List Value->Prop) (mu:List Value->Nat),ea [I (b1+b2),I 0]/\
 ∀(fa c:Int),ea [I fa,I c]->
 ((decide (c<(ia:Int)))=true->
 Ix ha ia c/\
 (∃x,
 zaa [] w ha (Int.toNat c*1) [I x]/\
 (∃ga,
 zad [] Tryz.prog zaq #[I x,I 0,I b0] w (.bool ga)/\
 ((!ga)=false->Ix ka la c)/\
 (∃x1,
 ((!ga)=false->zaa [] w ka (Int.toNat c*1) [.bool x1])/\
 (x1=true->((!ga)=false->Ix ha ia c))/\
 (∃x2,
 (x1=true->((!ga)=false->zaa [] w ha (Int.toNat c*1) [I x2]))/\
 (((!ga)||(x1&&((decide (x2>0))||(decide (b1>0)))))=true->
 R (.bool false) w)/\
 (((!ga)||(x1&&((decide (x2>0))||(decide (b1>0)))))=false->
 Ix ha ia c/\
 (∃x3,
 zaa [] w ha (Int.toNat c*1) [I x3]/\
 InR .i64 (fa+x3)/\
 InR .i64 (c+1)/\
 ea [I (fa+x3),I (c+1)]/\mu [I (fa+x3),I (c+1)]<mu [I fa,I c])))))))/\
 ((decide (c<(ia:Int)))=false->
 R (.bool (fa==b0)) w))))))))
theorem z4c (b0 b1 b2 b3O b3L b3C b4O b4L b4C):PuV (z2a b0 b1 b2 b3O b3L b3C b4O b4L b4C) zh4 #[.agg #[.int .i64 b0,.int .i64 b1,.int .i64 b2,.slice b3O b3L b3C,.slice b4O b4L b4C]]:=pV [] false [(5,⟨[(3,.int .i64),(4,.int .i64)],[],[1],[],[]⟩)] Tryz.func121 (by kernel_rfl) (by kernel_rfl)
def zt1 (w0:Int) (ra:Option Addr) (sa ta:Nat) (ua:Option Addr) (va wa:Nat) (xa:Option Addr) (ya za:Nat) (k:Int) (w:World) (R:Value->World->Prop):Prop:=
 (∀b,w.heap.size<=b->
 Ix xa ya k/\
 (∃(x0:Bool) (x1:Int) (x2:ByteArray) (x3 x4 x5 x6 x7 x8 x9 aa:Int) (ba:Option Addr) (ca da:Nat) (ea:Option Addr) (fa ga:Nat) (ha:Option Addr) (ia ja:Nat),
 zaa [] w xa (Int.toNat k*14) [.bool x0,I x1,.string x2,I x3,I x4,I x5,I x6,I x7,I x8,I x9,I aa,S ba ca da,S ea fa ga,S ha ia ja]/\
 (∀b1,w.heap.size<=b1->
 ((!x0)=true->
 (∃ka,
 (((((((((x1==0)&&(zcs x2 (ByteArray.mk [].toArray)))&&(x3==0))&&(x4==0))&&(x5==0))&&(x6==0))&&(x7==0))&&((ia:Int)==0))=true->zad [] Tryz.prog zgg #[.agg #[I x8,I x9,I aa,S ba ca da,S ea fa ga]] w (.bool ka))/\
 R (.bool (((((((((x1==0)&&(zcs x2 (ByteArray.mk [].toArray)))&&(x3==0))&&(x4==0))&&(x5==0))&&(x6==0))&&(x7==0))&&((ia:Int)==0))&&ka)) w))/\
 ((!x0)=false->
 (∃la,
 zad [] Tryz.prog zcz #[I x3] w (.bool la)/\
 (∃ma,
 ((!la)=false->zad [] Tryz.prog zc9 #[I x4] w (.bool ma))/\
 (∃na,
 ((((!la)||(!ma))||(x4==0))=false->zad [] Tryz.prog zb4 #[I x7] w (.bool na))/\
 ((((((!la)||(!ma))||(x4==0))||(!na))||((ia:Int) != (sa:Int)))=true->
 R (.bool false) w)/\
 ((((((!la)||(!ma))||(x4==0))||(!na))||((ia:Int) != (sa:Int)))=false->
 (((k==0)&&(((x3 != 10)||(x4 != 15))||(x8 != 0)))=true->
 R (.bool false) w)/\
 (((k==0)&&(((x3 != 10)||(x4 != 15))||(x8 != 0)))=false->
 ((x8==0)=true->
 (∃oa,
 zad [] Tryz.prog zgg #[.agg #[I x8,I x9,I aa,S ba ca da,S ea fa ga]] w (.bool oa)/\
 R (.bool ((oa&&(x5==0))&&(x6==0))) w))/\
 ((x8==0)=false->
 (∃pa,
 zad [] Tryz.prog zh4 #[.agg #[I x8,I x9,I aa,S ba ca da,S ea fa ga]] w (.bool pa)/\
 (∃qa,
 ((pa&&((ca:Int)==(sa:Int)))=true->zad [] Tryz.prog zaq #[I x5,I 1,I 1000] w (.bool qa))/\
 ((((pa&&((ca:Int)==(sa:Int)))&&qa)&&(decide (x6>w0)))=true->InR .i64 (x6 - w0))/\
 R (.bool ((((pa&&((ca:Int)==(sa:Int)))&&qa)&&(decide (x6>w0)))&&(decide (x6 - w0<=x5)))) w))))))))))))
theorem zul (w0 w1O w1L w1C w2O w2L w2C w3O w3L w3C k):PuV (zt1 w0 w1O w1L w1C w2O w2L w2C w3O w3L w3C k) zhv #[.agg #[.int .i64 w0,.slice w1O w1L w1C,.slice w2O w2L w2C,.slice w3O w3L w3C],.int .i64 k]:=pV [] false [] Tryz.func66 (by kernel_rfl) (by kernel_rfl)
def zvi (ba:Int) (w:World) (R:Value->World->Prop):Prop:=
 (∃aa,
 zad [] Tryz.prog zaq #[I ba,I (-10),I 9] w (.bool aa)/\
 ((!aa)=true->
 R (I 0) w)/\
 ((!aa)=false->
 InR .i64 (10 - ba)/\
 R (I (10 - ba)) w))
theorem zx1 (nice):PuV (zvi nice) zcy #[.int .i64 nice]:=pV [] false [] Tryz.func45 (by kernel_rfl) (by kernel_rfl)
def zy9 (m ca:Int) (w:World) (R:Value->World->Prop):Prop:=
 (∃aa,
 zad [] Tryz.prog zc9 #[I m] w (.bool aa)/\
 (∃ba,
 (aa=true->zad [] Tryz.prog zaq #[I ca,I 0,I 3] w (.bool ba))/\
 ((aa&&ba)=true->InR .u64 ca)/\
 ((aa&&ba)=true->0<=ca)/\
 ((aa&&ba)=true->(2:Int)≠0)/\
 R (.bool ((aa&&ba)&&((Int.tmod (Int.fdiv m (2 ^ (min (Int.toNat ca) 64))) 2)==1))) w))
theorem z0g (m cpu):PuV (zy9 m cpu) zec #[.int .i64 m,.int .i64 cpu]:=pV [] false [] Tryz.func84 (by kernel_rfl) (by kernel_rfl)
def zy8 (a b:Int) (w:World) (R:Value->World->Prop):Prop:=
 (∃aa,
 zad [] Tryz.prog zc9 #[I a] w (.bool aa)/\
 (∃ba,
 ((!aa)=false->zad [] Tryz.prog zc9 #[I b] w (.bool ba))/\
 (((!aa)||(!ba))=true->
 R (I 0) w)/\
 (((!aa)||(!ba))=false->
 (∃(ca:List Value->Prop) (mu:List Value->Nat),ca [I 0,I 0]/\
 ∀(m c:Int),ca [I m,I c]->
 ((decide (c<4))=true->
 (∃da,
 zad [] Tryz.prog zec #[I a,I c] w (.bool da)/\
 (∃ea,
 (da=true->zad [] Tryz.prog zec #[I b,I c] w (.bool ea))/\
 ((da&&ea)=true->
 InR .u64 c/\
 (0<=c/\InR .i64 (1*2 ^ (min (Int.toNat c) 64)))/\
 InR .i64 (m+(1*2 ^ (min (Int.toNat c) 64)))/\
 InR .i64 (c+1)/\
 ca [I (m+(1*2 ^ (min (Int.toNat c) 64))),I (c+1)]/\mu [I (m+(1*2 ^ (min (Int.toNat c) 64))),I (c+1)]<mu [I m,I c])/\
 ((da&&ea)=false->
 InR .i64 (c+1)/\
 ca [I m,I (c+1)]/\mu [I m,I (c+1)]<mu [I m,I c]))))/\
 ((decide (c<4))=false->
 R (I m) w)))))
theorem z0f (a b):PuV (zy8 a b) zfg #[.int .i64 a,.int .i64 b]:=pV [] false [(5,⟨[(5,.int .i64),(6,.int .i64)],[],[0,1],[],[]⟩)] Tryz.func87 (by kernel_rfl) (by kernel_rfl)
def z2k (w0:Int) (fa:Option Addr) (ga ha:Nat) (ia:Option Addr) (ja ka:Nat) (la:Option Addr) (ma na:Nat) (g:Int) (w:World) (R:Value->World->Prop):Prop:=
 (∀b,w.heap.size<=b->
 Ix la ma g/\
 (∃aa,
 zaa [] w la (Int.toNat g*14+4) [I aa]/\
 (∃(ba:List Value->Prop) (mu:List Value->Nat),ba [I g,I aa]/\
 ∀(g1 m:Int),ba [I g1,I m]->
 ((g1 != 0)=true->
 Ix la ma g1/\
 (∃ca,
 zaa [] w la (Int.toNat g1*14+1) [I ca]/\
 Ix la ma ca/\
 (∃da,
 zaa [] w la (Int.toNat ca*14+4) [I da]/\
 (∃ea,
 zad [] Tryz.prog zfg #[I m,I da] w (I ea)/\
 ba [I ca,I ea]/\mu [I ca,I ea]<mu [I g1,I m]))))/\
 ((g1 != 0)=false->
 R (I m) w))))
theorem z4l (w0 w1O w1L w1C w2O w2L w2C w3O w3L w3C g):PuV (z2k w0 w1O w1L w1C w2O w2L w2C w3O w3L w3C g) zkz #[.agg #[.int .i64 w0,.slice w1O w1L w1C,.slice w2O w2L w2C,.slice w3O w3L w3C],.int .i64 g]:=pV [] false [(2,⟨[(1,.int .i64),(5,.int .i64)],[],[2],[],[]⟩)] Tryz.func88 (by kernel_rfl) (by kernel_rfl)
def zzi (w0:Int) (ea:Option Addr) (fa ga:Nat) (ha:Option Addr) (ia ja:Nat) (ka:Option Addr) (la ma:Nat) (g na:Int) (w:World) (R:Value->World->Prop):Prop:=
 (∀b,w.heap.size<=b->
 (∃aa,
 zad [] Tryz.prog zjc #[.agg #[I w0,S ea fa ga,S ha ia ja,S ka la ma]] w (I aa)/\
 (∃ba,
 zad [] Tryz.prog zkz #[.agg #[I w0,S ea fa ga,S ha ia ja,S ka la ma],I g] w (I ba)/\
 (∃ca,
 zad [] Tryz.prog zfg #[I ba,I aa] w (I ca)/\
 (∃da,
 zad [] Tryz.prog zfg #[I na,I ca] w (I da)/\
 ((da != 0)=true->
 R (I da) w)/\
 ((da != 0)=false->
 ((ca != 0)=true->
 R (I ca) w)/\
 ((ca != 0)=false->
 R (I aa) w)))))))
theorem z0m (w0 w1O w1L w1C w2O w2L w2C w3O w3L w3C g mask):PuV (zzi w0 w1O w1L w1C w2O w2L w2C w3O w3L w3C g mask) zha #[.agg #[.int .i64 w0,.slice w1O w1L w1C,.slice w2O w2L w2C,.slice w3O w3L w3C],.int .i64 g,.int .i64 mask]:=pV [] false [] Tryz.func48 (by kernel_rfl) (by kernel_rfl)
def zqc (ca da:Int) (w:World) (R:Value->World->Prop):Prop:=
 (∃aa,
 zad [] Tryz.prog zcz #[I da] w (.bool aa)/\
 (∃ba,
 ((!aa)=false->zad [] Tryz.prog zaq #[I ca,I 0,I 100000000] w (.bool ba))/\
 (((!aa)||(!ba))=true->
 R (I 0) w)/\
 (((!aa)||(!ba))=false->
 (da≠0/\InR .i64 (Int.tdiv 232792560 da))/\
 InR .i64 (ca*(Int.tdiv 232792560 da))/\
 R (I (ca*(Int.tdiv 232792560 da))) w)))
theorem zrh (units weight):PuV (zqc units weight) zca #[.int .i64 units,.int .i64 weight]:=pV [] false [] Tryz.func79 (by kernel_rfl) (by kernel_rfl)
def zy7 (ba:Int) (w:World) (R:Value->World->Prop):Prop:=
 (∃aa,
 zad [] Tryz.prog zca #[I 149,I ba] w (I aa)/\
 R (I aa) w)
theorem z0e (weight):PuV (zy7 weight) zg4 #[.int .i64 weight]:=pV [] false [] Tryz.func130 (by kernel_rfl) (by kernel_rfl)
def zzh (v ba ca:Int) (w:World) (R:Value->World->Prop):Prop:=
 (∃d,
 ((decide (v>=ba))=true->(∀wq,((do eqGuard .sub zao (.tmp 11) (.tmp 12) (I v) (I ba); binOp .sub zao (I v) (I ba)):Sem Value).run Tryz.prog wq = .ok (I d) wq))/\
 (∃aa,
 ((decide (v>=ba))=true->zad [] Tryz.prog zg4 #[I ca] w (I aa))/\
 R (.bool ((decide (v>=ba))&&(decide (d<=aa)))) w))
theorem z0l (v floor weight):PuV (zzh v floor weight) zg9 #[.int .i64 v,.int .i64 floor,.int .i64 weight]:=pV [] true [] Tryz.func122 (by kernel_rfl) (by kernel_rfl)
def zvz (w0:Int) (pa:Option Addr) (qa ra:Nat) (sa:Option Addr) (ta ua:Nat) (va:Option Addr) (wa xa:Nat) (t:Int) (w:World) (R:Value->World->Prop):Prop:=
 (∀b,w.heap.size<=b->
 Ix sa ta t/\
 (∃x0 x1 x2 x3 x4 x5 x6 x7 x8,
 zaa [] w sa (Int.toNat t*9) [I x0,I x1,I x2,I x3,I x4,I x5,I x6,I x7,I x8]/\
 (∀b1,w.heap.size<=b1->
 ((x0==0)=true->
 (∃eq,
 (∀wq,((do eqGuard .eql zau (.tmp 14) (.tmp 15) (.agg #[I x0,I x1,I x2,I x3,I x4,I x5,I x6,I x7,I x8]) (.agg #[I 0,I 0,I 0,I 0,I 0,I 0,I 0,I 0,I 0]); binOp .eql zau (.agg #[I x0,I x1,I x2,I x3,I x4,I x5,I x6,I x7,I x8]) (.agg #[I 0,I 0,I 0,I 0,I 0,I 0,I 0,I 0,I 0])):Sem Value).run Tryz.prog wq = .ok (.bool eq) wq)/\
 R (.bool eq) w))/\
 ((x0==0)=false->
 (∃aa,
 (((x0 != 1)&&(x0 != 2))=false->zad [] Tryz.prog zcl #[S va wa xa,I x1] w (.bool aa))/\
 (∃ba,
 ((((x0 != 1)&&(x0 != 2))||(!aa))=false->zad [] Tryz.prog zcy #[I x3] w (I ba))/\
 (∃ca,
 (((((x0 != 1)&&(x0 != 2))||(!aa))||(ba==0))=false->zad [] Tryz.prog zc9 #[I x4] w (.bool ca))/\
 (((((((x0 != 1)&&(x0 != 2))||(!aa))||(ba==0))||(!ca))||(x4==0))=true->
 R (.bool false) w)/\
 (((((((x0 != 1)&&(x0 != 2))||(!aa))||(ba==0))||(!ca))||(x4==0))=false->
 (∃da,
 zad [] Tryz.prog zb4 #[I x5] w (.bool da)/\
 (∃ea,
 ((!da)=false->zad [] Tryz.prog zb4 #[I x6] w (.bool ea))/\
 (∃fa,
 (((!da)||(!ea))=false->zad [] Tryz.prog zb4 #[I x7] w (.bool fa))/\
 (∃ga,
 ((((!da)||(!ea))||(!fa))=false->zad [] Tryz.prog zaq #[I x8,I 0,I 8000000] w (.bool ga))/\
 (∃ha,
 (((((!da)||(!ea))||(!fa))||(!ga))=false->zad [] Tryz.prog zha #[.agg #[I w0,S pa qa ra,S sa ta ua,S va wa xa],I x1,I x4] w (I ha))/\
 (∃ia,
 (((((!da)||(!ea))||(!fa))||(!ga))=false->zad [] Tryz.prog zec #[I ha,I x2] w (.bool ia))/\
 ((((((!da)||(!ea))||(!fa))||(!ga))||(!ia))=true->
 R (.bool false) w)/\
 ((((((!da)||(!ea))||(!fa))||(!ga))||(!ia))=false->
 ((x0==2)=false->Ix va wa x1)/\
 (∃ja ka la,
 ((x0==2)=false->zaa [] w va (Int.toNat x1*14+13) [S ja ka la])/\
 ((x0==2)=false->Ix ja ka x2)/\
 (∃ma,
 ((x0==2)=false->zaa [] w ja (Int.toNat x2*5+0) [I ma])/\
 (∃na,
 ((x0==2)=false->zad [] Tryz.prog zcy #[I x3] w (I na))/\
 (∃oa,
 ((x0==2)=false->zad [] Tryz.prog zg9 #[I x5,I ma,I na] w (.bool oa))/\
 R (.bool ((x0==2)||oa)) w)))))))))))))))))))
theorem zyb (w0 w1O w1L w1C w2O w2L w2C w3O w3L w3C t):PuV (zvz w0 w1O w1L w1C w2O w2L w2C w3O w3L w3C t) zi0 #[.agg #[.int .i64 w0,.slice w1O w1L w1C,.slice w2O w2L w2C,.slice w3O w3L w3C],.int .i64 t]:=pV [] false [] Tryz.func67 (by kernel_rfl) (by kernel_rfl)
def zvw (w0:Int) (ea:Option Addr) (fa ga:Nat) (ha:Option Addr) (ia ja:Nat) (ka:Option Addr) (la ma:Nat) (g c:Int) (w:World) (R:Value->World->Prop):Prop:=
 (∀b,w.heap.size<=b->
 Ix ka la g/\
 (∃aa ba ca,
 zaa [] w ka (Int.toNat g*14+13) [S aa ba ca]/\
 Ix aa ba c/\
 (∃da,
 zaa [] w aa (Int.toNat c*5+1) [.bool da]/\
 R (.bool da) w)))
theorem zx9 (w0 w1O w1L w1C w2O w2L w2C w3O w3L w3C g c):PuV (zvw w0 w1O w1L w1C w2O w2L w2C w3O w3L w3C g c) zdp #[.agg #[.int .i64 w0,.slice w1O w1L w1C,.slice w2O w2L w2C,.slice w3O w3L w3C],.int .i64 g,.int .i64 c]:=pV [] false [] Tryz.func127 (by kernel_rfl) (by kernel_rfl)
def zvs (w0:Int) (ja:Option Addr) (ka la:Nat) (ma:Option Addr) (na oa:Nat) (pa:Option Addr) (qa ra:Nat) (g c:Int) (w:World) (R:Value->World->Prop):Prop:=
 (∀b,w.heap.size<=b->
 (∃(aa:List Value->Prop) (mu:List Value->Nat),aa [I 0]/\
 ∀(t:Int),aa [I t]->
 ((decide (t<(na:Int)))=true->
 Ix ma na t/\
 (∃ba,
 zaa [] w ma (Int.toNat t*9+0) [I ba]/\
 ((ba==1)=true->Ix ma na t)/\
 (∃ca,
 ((ba==1)=true->zaa [] w ma (Int.toNat t*9+1) [I ca])/\
 (((ba==1)&&(ca==g))=true->Ix ma na t)/\
 (∃da,
 (((ba==1)&&(ca==g))=true->zaa [] w ma (Int.toNat t*9+2) [I da])/\
 ((((ba==1)&&(ca==g))&&(da==c))=true->
 R (.bool true) w)/\
 ((((ba==1)&&(ca==g))&&(da==c))=false->
 InR .i64 (t+1)/\
 aa [I (t+1)]/\mu [I (t+1)]<mu [I t])))))/\
 ((decide (t<(na:Int)))=false->
 (∃(ea:List Value->Prop) (fa:List Value->Nat),ea [I 1]/\
 ∀(h:Int),ea [I h]->
 ((decide (h<(qa:Int)))=true->
 Ix pa qa h/\
 (∃ga,
 zaa [] w pa (Int.toNat h*14+0) [.bool ga]/\
 (ga=true->Ix pa qa h)/\
 (∃ha,
 (ga=true->zaa [] w pa (Int.toNat h*14+1) [I ha])/\
 (∃ia,
 ((ga&&(ha==g))=true->zad [] Tryz.prog zdp #[.agg #[I w0,S ja ka la,S ma na oa,S pa qa ra],I h,I c] w (.bool ia))/\
 (((ga&&(ha==g))&&ia)=true->
 R (.bool true) w)/\
 (((ga&&(ha==g))&&ia)=false->
 InR .i64 (h+1)/\
 ea [I (h+1)]/\fa [I (h+1)]<fa [I h])))))/\
 ((decide (h<(qa:Int)))=false->
 R (.bool false) w)))))
theorem zx6 (w0 w1O w1L w1C w2O w2L w2C w3O w3L w3C g c):PuV (zvs w0 w1O w1L w1C w2O w2L w2C w3O w3L w3C g c) zeu #[.agg #[.int .i64 w0,.slice w1O w1L w1C,.slice w2O w2L w2C,.slice w3O w3L w3C],.int .i64 g,.int .i64 c]:=pV [] false [(2,⟨[(7,.int .i64)],[],[1,2,3],[],[]⟩),(7,⟨[(8,.int .i64)],[],[1,2,3],[],[]⟩)] Tryz.func123 (by kernel_rfl) (by kernel_rfl)
def z45 (w0:Int) (ja:Option Addr) (ka la:Nat) (ma:Option Addr) (na oa:Nat) (pa:Option Addr) (qa ra:Nat) (g c:Int) (w:World) (R:Value->World->Prop):Prop:=
 (∀b,w.heap.size<=b->
 Ix pa qa g/\
 (∃aa ba ca da ea fa ga ha ia,
 zaa [] w pa (Int.toNat g*14+8) [I aa,I ba,I ca,S da ea fa,S ga ha ia]/\
 (∀b1,w.heap.size<=b1->
 ((decide (aa>0))=true->Ix ga ha c)/\
 (∃x,
 ((decide (aa>0))=true->zaa [] w ga (Int.toNat c*1) [.bool x])/\
 R (.bool ((decide (aa>0))&&x)) w))))
theorem z6l (w0 w1O w1L w1C w2O w2L w2C w3O w3L w3C g c):PuV (z45 w0 w1O w1L w1C w2O w2L w2C w3O w3L w3C g c) zja #[.agg #[.int .i64 w0,.slice w1O w1L w1C,.slice w2O w2L w2C,.slice w3O w3L w3C],.int .i64 g,.int .i64 c]:=pV [] false [] Tryz.func124 (by kernel_rfl) (by kernel_rfl)
def zt2 (w0:Int) (ab:Option Addr) (bb cb:Nat) (db:Option Addr) (eb fb:Nat) (gb:Option Addr) (hb ib:Nat) (k c:Int) (w:World) (R:Value->World->Prop):Prop:=
 (∀b,w.heap.size<=b->
 Ix gb hb k/\
 (∃(x0:Bool) (x1:Int) (x2:ByteArray) (x3 x4 x5 x6 x7 x8 x9 aa:Int) (ba:Option Addr) (ca da:Nat) (ea:Option Addr) (fa ga:Nat) (ha:Option Addr) (ia ja:Nat),
 zaa [] w gb (Int.toNat k*14) [.bool x0,I x1,.string x2,I x3,I x4,I x5,I x6,I x7,I x8,I x9,I aa,S ba ca da,S ea fa ga,S ha ia ja]/\
 (∀b1,w.heap.size<=b1->
 Ix ha ia c/\
 (∃ka la ma na oa,
 zaa [] w ha (Int.toNat c*5) [I ka,.bool la,I ma,I na,I oa]/\
 (∀b2,w.heap.size<=b2->
 (∃pa,
 zad [] Tryz.prog zb4 #[I ka] w (.bool pa)/\
 (∃qa,
 ((!pa)=false->zad [] Tryz.prog zb4 #[I ma] w (.bool qa))/\
 (∃ra,
 (((!pa)||(!qa))=false->zad [] Tryz.prog zb4 #[I oa] w (.bool ra))/\
 (∃sa,
 ((((!pa)||(!qa))||(!ra))=false->zad [] Tryz.prog zcz #[I na] w (.bool sa))/\
 (((((!pa)||(!qa))||(!ra))||(!sa))=true->
 R (.bool false) w)/\
 (((((!pa)||(!qa))||(!ra))||(!sa))=false->
 ((k==0)=true->
 R (.bool (((!la)&&(ma==0))&&(na==10))) w)/\
 ((k==0)=false->
 (∃ta,
 zad [] Tryz.prog zeu #[.agg #[I w0,S ab bb cb,S db eb fb,S gb hb ib],I k,I c] w (.bool ta)/\
 (∃ua,
 (ta=true->zad [] Tryz.prog zja #[.agg #[I w0,S ab bb cb,S db eb fb,S gb hb ib],I k,I c] w (.bool ua))/\
 ((!(la==(ta&&(!ua))))=true->
 R (.bool false) w)/\
 ((!(la==(ta&&(!ua))))=false->
 ((!la)=false->Ix gb hb x1)/\
 (∃va wa xa,
 ((!la)=false->zaa [] w gb (Int.toNat x1*14+13) [S va wa xa])/\
 ((!la)=false->Ix va wa c)/\
 (∃ya,
 ((!la)=false->zaa [] w va (Int.toNat c*5+0) [I ya])/\
 (∃za,
 ((!la)=false->zad [] Tryz.prog zg9 #[I ma,I ya,I na] w (.bool za))/\
 R (.bool ((!la)||za)) w)))))))))))))))))
theorem zum (w0 w1O w1L w1C w2O w2L w2C w3O w3L w3C k c):PuV (zt2 w0 w1O w1L w1C w2O w2L w2C w3O w3L w3C k c) zhw #[.agg #[.int .i64 w0,.slice w1O w1L w1C,.slice w2O w2L w2C,.slice w3O w3L w3C],.int .i64 k,.int .i64 c]:=pV [] false [] Tryz.func68 (by kernel_rfl) (by kernel_rfl)
def zvu (w0:Int) (da:Option Addr) (ea fa:Nat) (ga:Option Addr) (ha ia:Nat) (ja:Option Addr) (ka la:Nat) (t:Int) (w:World) (R:Value->World->Prop):Prop:=
 (∀b,w.heap.size<=b->
 Ix ga ha t/\
 (∃x0 x1 x2 x3 x4 x5 x6 x7 x8,
 zaa [] w ga (Int.toNat t*9) [I x0,I x1,I x2,I x3,I x4,I x5,I x6,I x7,I x8]/\
 (∀b1,w.heap.size<=b1->
 ((x0 != 1)=true->
 R (.bool false) w)/\
 ((x0 != 1)=false->
 (∃(aa:List Value->Prop) (mu:List Value->Nat),aa [I x1]/\
 ∀(g:Int),aa [I g]->
 ((g != 0)=true->
 (∃ba,
 zad [] Tryz.prog zdp #[.agg #[I w0,S da ea fa,S ga ha ia,S ja ka la],I g,I x2] w (.bool ba)/\
 ((!ba)=true->
 R (.bool false) w)/\
 ((!ba)=false->
 Ix ja ka g/\
 (∃ca,
 zaa [] w ja (Int.toNat g*14+1) [I ca]/\
 aa [I ca]/\mu [I ca]<mu [I g]))))/\
 ((g != 0)=false->
 R (.bool true) w))))))
theorem zx7 (w0 w1O w1L w1C w2O w2L w2C w3O w3L w3C t):PuV (zvu w0 w1O w1L w1C w2O w2L w2C w3O w3L w3C t) zev #[.agg #[.int .i64 w0,.slice w1O w1L w1C,.slice w2O w2L w2C,.slice w3O w3L w3C],.int .i64 t]:=pV [] false [(5,⟨[(6,.int .i64)],[],[2,5],[],[]⟩)] Tryz.func77 (by kernel_rfl) (by kernel_rfl)
def zvy (w0:Int) (bb:Option Addr) (cb db:Nat) (eb:Option Addr) (fb gb:Nat) (hb:Option Addr) (ib jb:Nat) (c:Int) (w:World) (R:Value->World->Prop):Prop:=
 (∀b,w.heap.size<=b->
 Ix bb cb c/\
 (∃x0 x1 x2 x3 x4,
 zaa [] w bb (Int.toNat c*5) [.bool x0,I x1,I x2,I x3,I x4]/\
 (∀b1,w.heap.size<=b1->
 Ix eb fb x1/\
 (∃aa ba ca da ea x5 x6 x7 x8,
 zaa [] w eb (Int.toNat x1*9) [I aa,I ba,I ca,I da,I ea,I x5,I x6,I x7,I x8]/\
 (∀b2,w.heap.size<=b2->
 Ix hb ib ba/\
 (∃fa ga ha,
 zaa [] w hb (Int.toNat ba*14+13) [S fa ga ha]/\
 Ix fa ga c/\
 (∃ia,
 zaa [] w fa (Int.toNat c*5+0) [I ia]/\
 InR .i64 (x5 - ia)/\
 (∃ja,
 zad [] Tryz.prog zcy #[I da] w (I ja)/\
 (∃ka,
 zad [] Tryz.prog zca #[I x2,I ja] w (I ka)/\
 ((decide (x5 - ia>ka))=true->
 R (.bool false) w)/\
 ((decide (x5 - ia>ka))=false->
 (∃(la:List Value->Prop) (mu:List Value->Nat),la [I ba]/\
 ∀(g:Int),la [I g]->
 ((g != 0)=true->
 Ix hb ib g/\
 (∃ma na oa,
 zaa [] w hb (Int.toNat g*14+13) [S ma na oa]/\
 Ix ma na c/\
 (∃pa qa ra sa ta,
 zaa [] w ma (Int.toNat c*5) [I pa,.bool qa,I ra,I sa,I ta]/\
 (∀b3,w.heap.size<=b3->
 Ix hb ib g/\
 (∃ua,
 zaa [] w hb (Int.toNat g*14+1) [I ua]/\
 Ix hb ib ua/\
 (∃va wa xa,
 zaa [] w hb (Int.toNat ua*14+13) [S va wa xa]/\
 Ix va wa c/\
 (∃ya,
 zaa [] w va (Int.toNat c*5+0) [I ya]/\
 InR .i64 (ra - ya)/\
 (∃za,
 zad [] Tryz.prog zca #[I x2,I sa] w (I za)/\
 ((decide (ra - ya>za))=true->
 R (.bool false) w)/\
 ((decide (ra - ya>za))=false->
 Ix hb ib g/\
 (∃ab,
 zaa [] w hb (Int.toNat g*14+1) [I ab]/\
 la [I ab]/\mu [I ab]<mu [I g]))))))))))/\
 ((g != 0)=false->
 R (.bool true) w))))))))))))
theorem zya (w0 w1O w1L w1C w2O w2L w2C w3O w3L w3C c):PuV (zvy w0 w1O w1L w1C w2O w2L w2C w3O w3L w3C c) ziz #[.agg #[.int .i64 w0,.slice w1O w1L w1C,.slice w2O w2L w2C,.slice w3O w3L w3C],.int .i64 c]:=pV [] false [(6,⟨[(7,.int .i64)],[],[1,2,5],[],[]⟩)] Tryz.func125 (by kernel_rfl) (by kernel_rfl)
def zzd (w0:Int) (ha:Option Addr) (ia ja:Nat) (ka:Option Addr) (la ma:Nat) (na:Option Addr) (oa pa:Nat) (c:Int) (w:World) (R:Value->World->Prop):Prop:=
 (∀b,w.heap.size<=b->
 Ix ha ia c/\
 (∃x0 x1 x2 x3 x4,
 zaa [] w ha (Int.toNat c*5) [.bool x0,I x1,I x2,I x3,I x4]/\
 (∀b1,w.heap.size<=b1->
 (∃aa,
 zad [] Tryz.prog zb4 #[I x3] w (.bool aa)/\
 (∃ba,
 ((!aa)=false->zad [] Tryz.prog zb4 #[I x4] w (.bool ba))/\
 (((!aa)||(!ba))=false->InR .i64 ((la:Int) - 1))/\
 (∃ca,
 (((!aa)||(!ba))=false->zad [] Tryz.prog zaq #[I x1,I (-1),I ((la:Int) - 1)] w (.bool ca))/\
 ((((!aa)||(!ba))||(!ca))=true->
 R (.bool false) w)/\
 ((((!aa)||(!ba))||(!ca))=false->
 ((decide (x1<0))=true->
 R (.bool (x2==0)) w)/\
 ((decide (x1<0))=false->
 (∃da,
 (x0=true->zad [] Tryz.prog zaq #[I x2,I 1,I 149] w (.bool da))/\
 ((x0&&da)=true->Ix ka la x1)/\
 (∃ea,
 ((x0&&da)=true->zaa [] w ka (Int.toNat x1*9+2) [I ea])/\
 (∃fa,
 (((x0&&da)&&(ea==c))=true->zad [] Tryz.prog zev #[.agg #[I w0,S ha ia ja,S ka la ma,S na oa pa],I x1] w (.bool fa))/\
 (∃ga,
 ((((x0&&da)&&(ea==c))&&fa)=true->zad [] Tryz.prog ziz #[.agg #[I w0,S ha ia ja,S ka la ma,S na oa pa],I c] w (.bool ga))/\
 R (.bool ((((x0&&da)&&(ea==c))&&fa)&&ga)) w))))))))))))
theorem z0j (w0 w1O w1L w1C w2O w2L w2C w3O w3L w3C c):PuV (zzd w0 w1O w1L w1C w2O w2L w2C w3O w3L w3C c) zjv #[.agg #[.int .i64 w0,.slice w1O w1L w1C,.slice w2O w2L w2C,.slice w3O w3L w3C],.int .i64 c]:=pV [] false [] Tryz.func69 (by kernel_rfl) (by kernel_rfl)
def zza (w0:Int) (ua:Option Addr) (va wa:Nat) (xa:Option Addr) (ya za:Nat) (ab:Option Addr) (bb cb:Nat) (w:World) (R:Value->World->Prop):Prop:=
 (∀b,w.heap.size<=b->
 (∃aa,
 zad [] Tryz.prog zaq #[I w0,I 0,I 100000000000000000] w (.bool aa)/\
 (∃ba,
 ((!aa)=false->zad [] Tryz.prog zaq #[I (va:Int),I 1,I 4] w (.bool ba))/\
 (∃ca,
 ((((!aa)||(!ba))||((ya:Int) != 12))=false->zad [] Tryz.prog zh7 #[S ab bb cb] w (.bool ca))/\
 (∃da,
 (((((!aa)||(!ba))||((ya:Int) != 12))||(!ca))=false->zad [] Tryz.prog zjc #[.agg #[I w0,S ua va wa,S xa ya za,S ab bb cb]] w (I da))/\
 ((((((!aa)||(!ba))||((ya:Int) != 12))||(!ca))||(da==0))=true->
 R (.bool false) w)/\
 ((((((!aa)||(!ba))||((ya:Int) != 12))||(!ca))||(da==0))=false->
 (∃(ea:List Value->Prop) (mu:List Value->Nat),ea [I 0]/\
 ∀(k:Int),ea [I k]->
 ((decide (k<(bb:Int)))=true->
 (∃fa,
 zad [] Tryz.prog zhv #[.agg #[I w0,S ua va wa,S xa ya za,S ab bb cb],I k] w (.bool fa)/\
 ((!fa)=true->
 R (.bool false) w)/\
 ((!fa)=false->
 InR .i64 (k+1)/\
 ea [I (k+1)]/\mu [I (k+1)]<mu [I k])))/\
 ((decide (k<(bb:Int)))=false->
 (∃(ga:List Value->Prop) (ha:List Value->Nat),ga [I 0]/\
 ∀(t:Int),ga [I t]->
 ((decide (t<(ya:Int)))=true->
 (∃ia,
 zad [] Tryz.prog zi0 #[.agg #[I w0,S ua va wa,S xa ya za,S ab bb cb],I t] w (.bool ia)/\
 ((!ia)=true->
 R (.bool false) w)/\
 ((!ia)=false->
 InR .i64 (t+1)/\
 ga [I (t+1)]/\ha [I (t+1)]<ha [I t])))/\
 ((decide (t<(ya:Int)))=false->
 (∃(ja:List Value->Prop) (ka:List Value->Nat),ja [I 0]/\
 ∀(k1:Int),ja [I k1]->
 ((decide (k1<(bb:Int)))=true->
 (∃(la:List Value->Prop) (ma:List Value->Nat),la [I 0]/\
 ∀(c:Int),la [I c]->
 Ix ab bb k1/\
 (∃na oa pa,
 zaa [] w ab (Int.toNat k1*14+13) [S na oa pa]/\
 ((decide (c<(oa:Int)))=true->
 (∃qa,
 zad [] Tryz.prog zhw #[.agg #[I w0,S ua va wa,S xa ya za,S ab bb cb],I k1,I c] w (.bool qa)/\
 ((!qa)=true->
 R (.bool false) w)/\
 ((!qa)=false->
 InR .i64 (c+1)/\
 la [I (c+1)]/\ma [I (c+1)]<ma [I c])))/\
 ((decide (c<(oa:Int)))=false->
 InR .i64 (k1+1)/\
 ja [I (k1+1)]/\ka [I (k1+1)]<ka [I k1]))))/\
 ((decide (k1<(bb:Int)))=false->
 (∃(ra:List Value->Prop) (sa:List Value->Nat),ra [I 0]/\
 ∀(c1:Int),ra [I c1]->
 ((decide (c1<(va:Int)))=true->
 (∃ta,
 zad [] Tryz.prog zjv #[.agg #[I w0,S ua va wa,S xa ya za,S ab bb cb],I c1] w (.bool ta)/\
 ((!ta)=true->
 R (.bool false) w)/\
 ((!ta)=false->
 InR .i64 (c1+1)/\
 ra [I (c1+1)]/\sa [I (c1+1)]<sa [I c1])))/\
 ((decide (c1<(va:Int)))=false->
 R (.bool true) w))))))))))))))
theorem z0h (w0 w1O w1L w1C w2O w2L w2C w3O w3L w3C):PuV (zza w0 w1O w1L w1C w2O w2L w2C w3O w3L w3C) zfh #[.agg #[.int .i64 w0,.slice w1O w1L w1C,.slice w2O w2L w2C,.slice w3O w3L w3C]]:=pV [] false [(4,⟨[(3,.int .i64)],[],[1],[],[]⟩),(9,⟨[(4,.int .i64)],[],[1],[],[]⟩),(14,⟨[(5,.int .i64)],[],[1],[],[]⟩),(17,⟨[(6,.int .i64)],[],[1,5],[],[]⟩),(22,⟨[(7,.int .i64)],[],[1],[],[]⟩)] Tryz.func24 (by kernel_rfl) (by kernel_rfl)
def zzf (w0:Int) (qa:Option Addr) (ra sa:Nat) (ta:Option Addr) (ua va:Nat) (wa:Option Addr) (xa ya:Nat) (g c:Int) (w:World) (R:Value->World->Prop):Prop:=
 (∀b,w.heap.size<=b->
 (∃(aa:List Value->Prop) (mu:List Value->Nat),aa [I 0,.bool false,I 0]/\
 ∀(ba:Int) (ca:Bool) (t:Int),aa [I ba,.bool ca,I t]->
 ((decide (t<(ua:Int)))=true->
 Ix ta ua t/\
 (∃x0 x1 x2 x3 x4 x5 x6 x7 x8,
 zaa [] w ta (Int.toNat t*9) [I x0,I x1,I x2,I x3,I x4,I x5,I x6,I x7,I x8]/\
 (∀b1,w.heap.size<=b1->
 (((((x0==1)&&(x1==g))&&(x2==c))&&((!ca)||(decide (x5<ba))))=true->
 InR .i64 (t+1)/\
 aa [I x5,.bool true,I (t+1)]/\mu [I x5,.bool true,I (t+1)]<mu [I ba,.bool ca,I t])/\
 (((((x0==1)&&(x1==g))&&(x2==c))&&((!ca)||(decide (x5<ba))))=false->
 InR .i64 (t+1)/\
 aa [I ba,.bool ca,I (t+1)]/\mu [I ba,.bool ca,I (t+1)]<mu [I ba,.bool ca,I t]))))/\
 ((decide (t<(ua:Int)))=false->
 (∃(da:List Value->Prop) (ea:List Value->Nat),da [I ba,.bool ca,I 1]/\
 ∀(fa:Int) (ga:Bool) (h:Int),da [I fa,.bool ga,I h]->
 ((decide (h<(xa:Int)))=true->
 Ix wa xa h/\
 (∃ha,
 zaa [] w wa (Int.toNat h*14+0) [.bool ha]/\
 (ha=true->Ix wa xa h)/\
 (∃ia,
 (ha=true->zaa [] w wa (Int.toNat h*14+1) [I ia])/\
 (∃ja,
 ((ha&&(ia==g))=true->zad [] Tryz.prog zdp #[.agg #[I w0,S qa ra sa,S ta ua va,S wa xa ya],I h,I c] w (.bool ja))/\
 ((!ga)=false->(((ha&&(ia==g))&&ja)=true->Ix wa xa h))/\
 (∃ka la ma,
 ((!ga)=false->(((ha&&(ia==g))&&ja)=true->zaa [] w wa (Int.toNat h*14+13) [S ka la ma]))/\
 ((!ga)=false->(((ha&&(ia==g))&&ja)=true->Ix ka la c))/\
 (∃v,
 ((!ga)=false->(((ha&&(ia==g))&&ja)=true->zaa [] w ka (Int.toNat c*5+2) [I v]))/\
 ((((ha&&(ia==g))&&ja)&&((!ga)||(decide (v<fa))))=true->
 Ix wa xa h/\
 (∃na oa pa,
 zaa [] w wa (Int.toNat h*14+13) [S na oa pa]/\
 Ix na oa c/\
 (∃v1,
 zaa [] w na (Int.toNat c*5+2) [I v1]/\
 InR .i64 (h+1)/\
 da [I v1,.bool true,I (h+1)]/\ea [I v1,.bool true,I (h+1)]<ea [I fa,.bool ga,I h])))/\
 ((((ha&&(ia==g))&&ja)&&((!ga)||(decide (v<fa))))=false->
 InR .i64 (h+1)/\
 da [I fa,.bool ga,I (h+1)]/\ea [I fa,.bool ga,I (h+1)]<ea [I fa,.bool ga,I h])))))))/\
 ((decide (h<(xa:Int)))=false->
 R (.tuple #[I fa,.bool ga]) w)))))
theorem z0k (w0 w1O w1L w1C w2O w2L w2C w3O w3L w3C g c):PuV (zzf w0 w1O w1L w1C w2O w2L w2C w3O w3L w3C g c) zg7 #[.agg #[.int .i64 w0,.slice w1O w1L w1C,.slice w2O w2L w2C,.slice w3O w3L w3C],.int .i64 g,.int .i64 c]:=pV [] false [(4,⟨[(8,.int .i64),(9,.bool),(10,.int .i64)],[],[1,2,3],[],[]⟩),(11,⟨[(8,.int .i64),(9,.bool),(12,.int .i64)],[],[1,2,3],[],[]⟩)] Tryz.func126 (by kernel_rfl) (by kernel_rfl)
def z2m (w0:Int) (ma:Option Addr) (na oa:Nat) (pa:Option Addr) (qa ra:Nat) (sa:Option Addr) (ta ua:Nat) (g c:Int) (w:World) (R:Value->World->Prop):Prop:=
 (∀b,w.heap.size<=b->
 (∃aa ba,
 zad [] Tryz.prog zg7 #[.agg #[I w0,S ma na oa,S pa qa ra,S sa ta ua],I g,I c] w (.tuple #[I aa,.bool ba])/\
 ((!ba)=true->
 R (I (-1)) w)/\
 ((!ba)=false->
 (∃(ca:List Value->Prop) (mu:List Value->Nat),ca [I 0]/\
 ∀(t:Int),ca [I t]->
 ((decide (t<(qa:Int)))=true->
 Ix pa qa t/\
 (∃x0 x1 x2 x3 x4 x5 x6 x7 x8,
 zaa [] w pa (Int.toNat t*9) [I x0,I x1,I x2,I x3,I x4,I x5,I x6,I x7,I x8]/\
 (∀b1,w.heap.size<=b1->
 (((((x0==1)&&(x1==g))&&(x2==c))&&(x5==aa))=true->
 R (I t) w)/\
 (((((x0==1)&&(x1==g))&&(x2==c))&&(x5==aa))=false->
 InR .i64 (t+1)/\
 ca [I (t+1)]/\mu [I (t+1)]<mu [I t]))))/\
 ((decide (t<(qa:Int)))=false->
 (∃(da:List Value->Prop) (ea:List Value->Nat),da [I 1]/\
 ∀(h:Int),da [I h]->
 ((decide (h<(ta:Int)))=true->
 Ix sa ta h/\
 (∃fa,
 zaa [] w sa (Int.toNat h*14+0) [.bool fa]/\
 (fa=true->Ix sa ta h)/\
 (∃ga,
 (fa=true->zaa [] w sa (Int.toNat h*14+1) [I ga])/\
 (∃ha,
 ((fa&&(ga==g))=true->zad [] Tryz.prog zdp #[.agg #[I w0,S ma na oa,S pa qa ra,S sa ta ua],I h,I c] w (.bool ha))/\
 (((fa&&(ga==g))&&ha)=true->Ix sa ta h)/\
 (∃ia ja ka,
 (((fa&&(ga==g))&&ha)=true->zaa [] w sa (Int.toNat h*14+13) [S ia ja ka])/\
 (((fa&&(ga==g))&&ha)=true->Ix ia ja c)/\
 (∃v,
 (((fa&&(ga==g))&&ha)=true->zaa [] w ia (Int.toNat c*5+2) [I v])/\
 ((((fa&&(ga==g))&&ha)&&(v==aa))=true->
 (∃la,
 zad [] Tryz.prog zf4 #[.agg #[I w0,S ma na oa,S pa qa ra,S sa ta ua],I h,I c] w (I la)/\
 R (I la) w))/\
 ((((fa&&(ga==g))&&ha)&&(v==aa))=false->
 InR .i64 (h+1)/\
 da [I (h+1)]/\ea [I (h+1)]<ea [I h])))))))/\
 ((decide (h<(ta:Int)))=false->
 R (I (-1)) w)))))))
theorem z4n (w0 w1O w1L w1C w2O w2L w2C w3O w3L w3C g c):PuV (z2m w0 w1O w1L w1C w2O w2L w2C w3O w3L w3C g c) zf4 #[.agg #[.int .i64 w0,.slice w1O w1L w1C,.slice w2O w2L w2C,.slice w3O w3L w3C],.int .i64 g,.int .i64 c]:=pV [] false [(5,⟨[(9,.int .i64)],[],[1,2,3,7],[],[]⟩),(11,⟨[(11,.int .i64)],[],[1,2,3,7],[],[]⟩)] Tryz.func70 (by kernel_rfl) (by kernel_rfl)
def z2n (w0:Int) (ea:Option Addr) (fa ga:Nat) (ha:Option Addr) (ia ja:Nat) (ka:Option Addr) (la ma:Nat) (c:Int) (w:World) (R:Value->World->Prop):Prop:=
 (∀b,w.heap.size<=b->
 Ix ea fa c/\
 (∃aa,
 zaa [] w ea (Int.toNat c*5+1) [I aa]/\
 ((decide (aa>=0))=true->Ix ea fa c)/\
 (∃ba,
 ((decide (aa>=0))=true->zaa [] w ea (Int.toNat c*5+2) [I ba])/\
 (((decide (aa>=0))&&(decide (ba<50)))=true->
 Ix ea fa c/\
 (∃ca,
 zaa [] w ea (Int.toNat c*5+1) [I ca]/\
 R (I ca) w))/\
 (((decide (aa>=0))&&(decide (ba<50)))=false->
 (∃da,
 zad [] Tryz.prog zf4 #[.agg #[I w0,S ea fa ga,S ha ia ja,S ka la ma],I 0,I c] w (I da)/\
 R (I da) w)))))
theorem z4o (w0 w1O w1L w1C w2O w2L w2C w3O w3L w3C c):PuV (z2n w0 w1O w1L w1C w2O w2L w2C w3O w3L w3C c) zk1 #[.agg #[.int .i64 w0,.slice w1O w1L w1C,.slice w2O w2L w2C,.slice w3O w3L w3C],.int .i64 c]:=pV [] false [] Tryz.func26 (by kernel_rfl) (by kernel_rfl)
def z43 (b0 b1 b2:Int) (wa:Option Addr) (xa ya:Nat) (za:Option Addr) (ab bb:Nat) (w:World) (R:Value->World->Prop):Prop:=
 (∀b,w.heap.size<=b->
 (∀b5,w.heap.size<=b5->
 (∀b6,w.heap.size<=b6->
 (∃(aa:List Value->World->Prop) (ba:List Value->World->Nat),(∀ca,ExtX [] w ca->(∀bq∈[b,b5,b6],bq<ca.heap.size)->aa [I 0,I b0,I b1,I b2,S none 0 0,S none 0 0] ca)/\
 ∀(c1 l l1 l2:Int) (da:Option Addr) (ea fa:Nat) (ga:Option Addr) (ha ia:Nat) ja,(∀bq∈[b,b5,b6],bq<ja.heap.size)->aa [I c1,I l,I l1,I l2,S da ea fa,S ga ha ia] ja->
 ((decide (c1<(xa:Int)))=true->
 Ix wa xa c1/\
 (∃x1,
 zaa [b,b5,b6] ja wa (Int.toNat c1*1) [I x1]/\
 (∀b8,ja.heap.size<=b8->
 (some (zkn,([I l,I l1,I l2,S da ea fa,S ga ha ia]:List Value))=some (zkn,([I l,I l1,I l2,S da ea fa,S ga ha ia]:List Value)))/\
 (∀ka,ExtX [b,b5,b6] ja ka->(∀bq∈[b,b5,b6,b8],bq<ka.heap.size)->ka.heap[b8]? = some (Obj.cells ([I x1]:List Value).toArray zao (0,0))->
 (∃la ma na,
 ∃oa,(builtin .append #[zee,zee] zee #[false,false] #[S da ea fa,S (some (Addr.mk b8 0 none)) 1 1]).run Tryz.prog ka = .ok (.value (S la ma na)) oa/\Kept [b,b5,b6,b8] ka oa/\
 Ix za ab c1/\
 (∃x2,
 zaa [b,b5,b6,b8] oa za (Int.toNat c1*1) [.bool x2]/\
 (∀b9,oa.heap.size<=b9->
 (some (zkn,([I l,I l1,I l2,S la ma na,S ga ha ia]:List Value))=some (zkn,([I l,I l1,I l2,S la ma na,S ga ha ia]:List Value)))/\
 (∀pa,ExtX [b,b5,b6,b8] oa pa->(∀bq∈[b,b5,b6,b8,b9],bq<pa.heap.size)->pa.heap[b9]? = some (Obj.cells ([.bool x2]:List Value).toArray zdg (0,0))->
 (∃qa ra sa,
 ∃ta,(builtin .append #[zgr,zgr] zgr #[false,false] #[S ga ha ia,S (some (Addr.mk b9 0 none)) 1 1]).run Tryz.prog pa = .ok (.value (S qa ra sa)) ta/\Kept [b,b5,b6,b8,b9] pa ta/\
 InR .i64 (c1+1)/\
 (∀ua,ExtX [b,b5,b6,b8,b9] ta ua->(∀bq∈[b,b5,b6,b8,b9],bq<ua.heap.size)->aa [I (c1+1),I l,I l1,I l2,S la ma na,S qa ra sa] ua/\ba [I (c1+1),I l,I l1,I l2,S la ma na,S qa ra sa] ua<ba [I c1,I l,I l1,I l2,S da ea fa,S ga ha ia] ja))))))))))/\
 ((decide (c1<(xa:Int)))=false->
 (∀va,ExtX [b,b5,b6] ja va->R (.agg #[I l,I l1,I l2,S da ea fa,S ga ha ia]) va))))))
theorem z5i (b0 b1 b2 b3O b3L b3C b4O b4L b4C):EfV (z43 b0 b1 b2 b3O b3L b3C b4O b4L b4C) zi8 #[.agg #[.int .i64 b0,.int .i64 b1,.int .i64 b2,.slice b3O b3L b3C,.slice b4O b4L b4C]]:=eV [] false [(3,⟨[(4,.int .i64)],[(2,[.int .i64,.int .i64,.int .i64,.slice,.slice])],[1,2,3],[],[]⟩)] Tryz.func71 (by kernel_rfl) (by kernel_rfl)
def z47 (w0:Int) (gg:Option Addr) (hg ig:Nat) (jg:Option Addr) (kg lg:Nat) (mg:Option Addr) (ng og:Nat) (w:World) (R:Value->World->Prop):Prop:=
 (∀b,w.heap.size<=b->
 (∀b1,w.heap.size<=b1->
 (∀b2,w.heap.size<=b2->
 (∃(aa:List Value->World->Prop) (ba:List Value->World->Nat),(∀ca,ExtX [] w ca->(∀bq∈[b,b1,b2],bq<ca.heap.size)->aa [I 0,I w0,S none 0 0,S none 0 0,S none 0 0] ca)/\
 ∀(c1 l:Int) (da:Option Addr) (ea fa:Nat) (ga:Option Addr) (ha ia:Nat) (ja:Option Addr) (ka la:Nat) ma,(∀bq∈[b,b1,b2],bq<ma.heap.size)->aa [I c1,I l,S da ea fa,S ga ha ia,S ja ka la] ma->
 ((decide (c1<(hg:Int)))=true->
 Ix gg hg c1/\
 (∃na oa pa qa ra,
 zaa [b,b1,b2] ma gg (Int.toNat c1*5) [.bool na,I oa,I pa,I qa,I ra]/\
 (∀b4,ma.heap.size<=b4->
 (some (zab,([I l,S da ea fa,S ga ha ia,S ja ka la]:List Value))=some (zab,([I l,S da ea fa,S ga ha ia,S ja ka la]:List Value)))/\
 (∀sa,ExtX [b,b1,b2] ma sa->(∀bq∈[b,b1,b2,b4],bq<sa.heap.size)->sa.heap[b4]? = some (Obj.cells ([.bool na,I oa,I pa,I qa,I ra]:List Value).toArray zba (0,0))->
 (∃ta ua va,
 ∃wa,(builtin .append #[zbf,zbf] zbf #[false,false] #[S da ea fa,S (some (Addr.mk b4 0 none)) 1 1]).run Tryz.prog sa = .ok (.value (S ta ua va)) wa/\Kept [b,b1,b2,b4] sa wa/\
 InR .i64 (c1+1)/\
 (∀xa,ExtX [b,b1,b2,b4] wa xa->(∀bq∈[b,b1,b2,b4],bq<xa.heap.size)->aa [I (c1+1),I l,S ta ua va,S ga ha ia,S ja ka la] xa/\ba [I (c1+1),I l,S ta ua va,S ga ha ia,S ja ka la] xa<ba [I c1,I l,S da ea fa,S ga ha ia,S ja ka la] ma))))))/\
 ((decide (c1<(hg:Int)))=false->
 (∃(ya:List Value->World->Prop) (za:List Value->World->Nat),(∀ab,ExtX [b,b1,b2] ma ab->(∀bq∈[b,b1,b2],bq<ab.heap.size)->ya [I 0,I l,S da ea fa,S ga ha ia,S ja ka la] ab)/\
 ∀(t1 l4:Int) (bb:Option Addr) (cb db:Nat) (eb:Option Addr) (fb gb:Nat) (hb:Option Addr) (ib jb:Nat) kb,(∀bq∈[b,b1,b2],bq<kb.heap.size)->ya [I t1,I l4,S bb cb db,S eb fb gb,S hb ib jb] kb->
 ((decide (t1<(kg:Int)))=true->
 Ix jg kg t1/\
 (∃lb mb nb ob pb qb rb sb tb,
 zaa [b,b1,b2] kb jg (Int.toNat t1*9) [I lb,I mb,I nb,I ob,I pb,I qb,I rb,I sb,I tb]/\
 (∀b6,kb.heap.size<=b6->
 (some (zab,([I l4,S bb cb db,S eb fb gb,S hb ib jb]:List Value))=some (zab,([I l4,S bb cb db,S eb fb gb,S hb ib jb]:List Value)))/\
 (∀ub,ExtX [b,b1,b2] kb ub->(∀bq∈[b,b1,b2,b6],bq<ub.heap.size)->ub.heap[b6]? = some (Obj.cells ([I lb,I mb,I nb,I ob,I pb,I qb,I rb,I sb,I tb]:List Value).toArray zau (0,0))->
 (∃vb wb xb,
 ∃yb,(builtin .append #[za2,za2] za2 #[false,false] #[S eb fb gb,S (some (Addr.mk b6 0 none)) 1 1]).run Tryz.prog ub = .ok (.value (S vb wb xb)) yb/\Kept [b,b1,b2,b6] ub yb/\
 InR .i64 (t1+1)/\
 (∀zb,ExtX [b,b1,b2,b6] yb zb->(∀bq∈[b,b1,b2,b6],bq<zb.heap.size)->ya [I (t1+1),I l4,S bb cb db,S vb wb xb,S hb ib jb] zb/\za [I (t1+1),I l4,S bb cb db,S vb wb xb,S hb ib jb] zb<za [I t1,I l4,S bb cb db,S eb fb gb,S hb ib jb] kb))))))/\
 ((decide (t1<(kg:Int)))=false->
 (∃(ac:List Value->World->Prop) (bc:List Value->World->Nat),(∀cc,ExtX [b,b1,b2] kb cc->(∀bq∈[b,b1,b2],bq<cc.heap.size)->ac [I 0,I l4,S bb cb db,S eb fb gb,S hb ib jb] cc)/\
 ∀(k1 dc:Int) (ec:Option Addr) (fc gc:Nat) (hc:Option Addr) (ic jc:Nat) (kc:Option Addr) (lc mc:Nat) nc,(∀bq∈[b,b1,b2],bq<nc.heap.size)->ac [I k1,I dc,S ec fc gc,S hc ic jc,S kc lc mc] nc->
 ((decide (k1<(ng:Int)))=true->
 Ix mg ng k1/\
 (∃(oc:Bool) (pc:Int) (qc:ByteArray) (rc sc tc uc vc wc xc yc:Int) (zc:Option Addr) (ad bd:Nat) (cd:Option Addr) (dd ed:Nat) (fd:Option Addr) (gd hd:Nat),
 zaa [b,b1,b2] nc mg (Int.toNat k1*14) [.bool oc,I pc,.string qc,I rc,I sc,I tc,I uc,I vc,I wc,I xc,I yc,S zc ad bd,S cd dd ed,S fd gd hd]/\
 (∀id,nc.heap.size<=id->
 Ix mg ng k1/\
 (∃jd kd ld md nd od pd qd rd,
 zaa [b,b1,b2] nc mg (Int.toNat k1*14+8) [I jd,I kd,I ld,S md nd od,S pd qd rd]/\
 (∀sd,ExtX [b,b1,b2] nc sd->(∀bq∈[b,b1,b2,id],bq<sd.heap.size)->
 Calls Tryz.prog zi8 #[.agg #[I jd,I kd,I ld,S md nd od,S pd qd rd]] sd fun e1 td=>
 (∃ud vd wd xd yd zd ae be ce,
 e1 = .returned (.agg #[I ud,I vd,I wd,S xd yd zd,S ae be ce])/\Kept [b,b1,b2,id] sd td/\
 (∃(de:List Value->World->Prop) (ee:List Value->World->Nat),(∀fe,ExtX [b,b1,b2,id] td fe->(∀bq∈[b,b1,b2,id],bq<fe.heap.size)->de [I 0,.bool oc,I pc,.string qc,I rc,I sc,I tc,I uc,I vc,I ud,I vd,I wd,S xd yd zd,S ae be ce,S none 0 0] fe)/\
 ∀(c4:Int) (he:Bool) (ie:Int) (je:ByteArray) (ke me oe pe qe re se te:Int) (ue:Option Addr) (ve we:Nat) (xe:Option Addr) (ye ze:Nat) (af:Option Addr) (bf cf:Nat) df,(∀bq∈[b,b1,b2,id],bq<df.heap.size)->de [I c4,.bool he,I ie,.string je,I ke,I me,I oe,I pe,I qe,I re,I se,I te,S ue ve we,S xe ye ze,S af bf cf] df->
 Ix mg ng k1/\
 (∃ef ff gf,
 zaa [b,b1,b2,id] df mg (Int.toNat k1*14+13) [S ef ff gf]/\
 ((decide (c4<(ff:Int)))=true->
 Ix mg ng k1/\
 (∃hf jf kf,
 zaa [b,b1,b2,id] df mg (Int.toNat k1*14+13) [S hf jf kf]/\
 Ix hf jf c4/\
 (∃lf mf nf pf qf,
 zaa [b,b1,b2,id] df hf (Int.toNat c4*5) [I lf,.bool mf,I nf,I pf,I qf]/\
 (∀rf,df.heap.size<=rf->
 (some (zaw,([.bool he,I ie,.string je,I ke,I me,I oe,I pe,I qe,I re,I se,I te,S ue ve we,S xe ye ze,S af bf cf]:List Value))=some (zaw,([.bool he,I ie,.string je,I ke,I me,I oe,I pe,I qe,I re,I se,I te,S ue ve we,S xe ye ze,S af bf cf]:List Value)))/\
 (∀sf,ExtX [b,b1,b2,id] df sf->(∀bq∈[b,b1,b2,id,rf],bq<sf.heap.size)->sf.heap[rf]? = some (Obj.cells ([I lf,.bool mf,I nf,I pf,I qf]:List Value).toArray zbv (0,0))->
 (∃tf uf vf,
 ∃wf,(builtin .append #[za8,za8] za8 #[false,false] #[S af bf cf,S (some (Addr.mk rf 0 none)) 1 1]).run Tryz.prog sf = .ok (.value (S tf uf vf)) wf/\Kept [b,b1,b2,id,rf] sf wf/\
 InR .i64 (c4+1)/\
 (∀xf,ExtX [b,b1,b2,id,rf] wf xf->(∀bq∈[b,b1,b2,id,rf],bq<xf.heap.size)->de [I (c4+1),.bool he,I ie,.string je,I ke,I me,I oe,I pe,I qe,I re,I se,I te,S ue ve we,S xe ye ze,S tf uf vf] xf/\ee [I (c4+1),.bool he,I ie,.string je,I ke,I me,I oe,I pe,I qe,I re,I se,I te,S ue ve we,S xe ye ze,S tf uf vf] xf<ee [I c4,.bool he,I ie,.string je,I ke,I me,I oe,I pe,I qe,I re,I se,I te,S ue ve we,S xe ye ze,S af bf cf] df)))))))/\
 ((decide (c4<(ff:Int)))=false->
 (∀yf,df.heap.size<=yf->
 (∀zf,ExtX [b,b1,b2,id] df zf->(∀bq∈[b,b1,b2,id,yf],bq<zf.heap.size)->zf.heap[yf]? = some (Obj.cells ([.bool he,I ie,.string je,I ke,I me,I oe,I pe,I qe,I re,I se,I te,S ue ve we,S xe ye ze,S af bf cf]:List Value).toArray zaw (0,0))->
 (∃ag bg cg,
 ∃dg,(builtin .append #[zal,zal] zal #[false,false] #[S kc lc mc,S (some (Addr.mk yf 0 none)) 1 1]).run Tryz.prog zf = .ok (.value (S ag bg cg)) dg/\Kept [b,b1,b2,id,yf] zf dg/\
 InR .i64 (k1+1)/\
 (∀eg,ExtX [b,b1,b2,id,yf] dg eg->(∀bq∈[b,b1,b2,id,yf],bq<eg.heap.size)->ac [I (k1+1),I dc,S ec fc gc,S hc ic jc,S ag bg cg] eg/\bc [I (k1+1),I dc,S ec fc gc,S hc ic jc,S ag bg cg] eg<bc [I k1,I dc,S ec fc gc,S hc ic jc,S kc lc mc] nc)))))))))))))/\
 ((decide (k1<(ng:Int)))=false->
 (∀fg,ExtX [b,b1,b2] nc fg->R (.agg #[I dc,S ec fc gc,S hc ic jc,S kc lc mc]) fg))))))))))
theorem z5l (w0 w1O w1L w1C w2O w2L w2C w3O w3L w3C):EfV (z47 w0 w1O w1L w1C w2O w2L w2C w3O w3L w3C) zjb #[.agg #[.int .i64 w0,.slice w1O w1L w1C,.slice w2O w2L w2C,.slice w3O w3L w3C]]:=eV [] false [(3,⟨[(4,.int .i64)],[(2,[.int .i64,.slice,.slice,.slice])],[1,2,3],[],[]⟩),(7,⟨[(5,.int .i64)],[(2,[.int .i64,.slice,.slice,.slice])],[1,2,3],[],[]⟩),(11,⟨[(6,.int .i64)],[(2,[.int .i64,.slice,.slice,.slice])],[1,2,3],[],[]⟩),(17,⟨[(8,.int .i64)],[(3,[.bool,.int .i64,.str,.int .i64,.int .i64,.int .i64,.int .i64,.int .i64,.int .i64,.int .i64,.int .i64,.slice,.slice,.slice])],[1,2,3,6,7],[],[]⟩)] Tryz.func27 (by kernel_rfl) (by kernel_rfl)
def z2j (n:Int) (w:World) (R:Value->World->Prop):Prop:=
 R (.bool (decide (n<=50000000000000000))) w
theorem z4k (n):PuV (z2j n) zbt #[.int .i64 n]:=pV [] false [] Tryz.func72 (by kernel_rfl) (by kernel_rfl)
def ztz (w0:Int) (db:Option Addr) (eb fb:Nat) (gb:Option Addr) (hb ib:Nat) (jb:Option Addr) (kb lb:Nat) (w:World) (R:Value->World->Prop):Prop:=
 (∀b,w.heap.size<=b->
 (∃aa,
 zad [] Tryz.prog zfh #[.agg #[I w0,S db eb fb,S gb hb ib,S jb kb lb]] w (.bool aa)/\
 (∃ba,
 ((!aa)=false->zad [] Tryz.prog zbt #[I w0] w (.bool ba))/\
 (((!aa)||(!ba))=true->
 R (.bool false) w)/\
 (((!aa)||(!ba))=false->
 (∃(ca:List Value->Prop) (mu:List Value->Nat),ca [I 0]/\
 ∀(c:Int),ca [I c]->
 ((decide (c<(eb:Int)))=true->
 Ix db eb c/\
 (∃da,
 zaa [] w db (Int.toNat c*5+3) [I da]/\
 (∃ea,
 zad [] Tryz.prog zbt #[I da] w (.bool ea)/\
 ((!ea)=false->Ix db eb c)/\
 (∃fa,
 ((!ea)=false->zaa [] w db (Int.toNat c*5+4) [I fa])/\
 (∃ga,
 ((!ea)=false->zad [] Tryz.prog zbt #[I fa] w (.bool ga))/\
 (((!ea)||(!ga))=true->
 R (.bool false) w)/\
 (((!ea)||(!ga))=false->
 InR .i64 (c+1)/\
 ca [I (c+1)]/\mu [I (c+1)]<mu [I c]))))))/\
 ((decide (c<(eb:Int)))=false->
 (∃(ha:List Value->Prop) (ia:List Value->Nat),ha [I 0]/\
 ∀(t:Int),ha [I t]->
 ((decide (t<(hb:Int)))=true->
 Ix gb hb t/\
 (∃v,
 zaa [] w gb (Int.toNat t*9+5) [I v]/\
 (∃ja,
 zad [] Tryz.prog zbt #[I v] w (.bool ja)/\
 ((!ja)=false->Ix gb hb t)/\
 (∃ka,
 ((!ja)=false->zaa [] w gb (Int.toNat t*9+6) [I ka])/\
 (∃la,
 ((!ja)=false->zad [] Tryz.prog zbt #[I ka] w (.bool la))/\
 (((!ja)||(!la))=false->Ix gb hb t)/\
 (∃ma,
 (((!ja)||(!la))=false->zaa [] w gb (Int.toNat t*9+7) [I ma])/\
 (∃na,
 (((!ja)||(!la))=false->zad [] Tryz.prog zbt #[I ma] w (.bool na))/\
 ((((!ja)||(!la))||(!na))=true->
 R (.bool false) w)/\
 ((((!ja)||(!la))||(!na))=false->
 InR .i64 (t+1)/\
 ha [I (t+1)]/\ia [I (t+1)]<ia [I t]))))))))/\
 ((decide (t<(hb:Int)))=false->
 (∃(oa:List Value->Prop) (pa:List Value->Nat),oa [I 0]/\
 ∀(k:Int),oa [I k]->
 ((decide (k<(kb:Int)))=true->
 Ix jb kb k/\
 (∃qa,
 zaa [] w jb (Int.toNat k*14+7) [I qa]/\
 (∃ra,
 zad [] Tryz.prog zbt #[I qa] w (.bool ra)/\
 ((!ra)=true->
 R (.bool false) w)/\
 ((!ra)=false->
 (∃(sa:List Value->Prop) (ta:List Value->Nat),sa [I 0]/\
 ∀(c1:Int),sa [I c1]->
 Ix jb kb k/\
 (∃ua va wa,
 zaa [] w jb (Int.toNat k*14+13) [S ua va wa]/\
 ((decide (c1<(va:Int)))=true->
 Ix jb kb k/\
 (∃xa ya za,
 zaa [] w jb (Int.toNat k*14+13) [S xa ya za]/\
 Ix xa ya c1/\
 (∃x0 x1 x2 x3 x4,
 zaa [] w xa (Int.toNat c1*5) [I x0,.bool x1,I x2,I x3,I x4]/\
 (∀b1,w.heap.size<=b1->
 (∃ab,
 zad [] Tryz.prog zbt #[I x0] w (.bool ab)/\
 (∃bb,
 ((!ab)=false->zad [] Tryz.prog zbt #[I x2] w (.bool bb))/\
 (∃cb,
 (((!ab)||(!bb))=false->zad [] Tryz.prog zbt #[I x4] w (.bool cb))/\
 ((((!ab)||(!bb))||(!cb))=true->
 R (.bool false) w)/\
 ((((!ab)||(!bb))||(!cb))=false->
 InR .i64 (c1+1)/\
 sa [I (c1+1)]/\ta [I (c1+1)]<ta [I c1]))))))))/\
 ((decide (c1<(va:Int)))=false->
 InR .i64 (k+1)/\
 oa [I (k+1)]/\pa [I (k+1)]<pa [I k])))))))/\
 ((decide (k<(kb:Int)))=false->
 R (.bool true) w))))))))))
theorem zuk (w0 w1O w1L w1C w2O w2L w2C w3O w3L w3C):PuV (ztz w0 w1O w1L w1C w2O w2L w2C w3O w3L w3C) zft #[.agg #[.int .i64 w0,.slice w1O w1L w1C,.slice w2O w2L w2C,.slice w3O w3L w3C]]:=pV [] false [(4,⟨[(3,.int .i64)],[],[1],[],[]⟩),(9,⟨[(4,.int .i64)],[],[1],[],[]⟩),(14,⟨[(5,.int .i64)],[],[1],[],[]⟩),(19,⟨[(6,.int .i64)],[],[1,5],[],[]⟩)] Tryz.func29 (by kernel_rfl) (by kernel_rfl)
def z46 (w0:Int) (aa:Option Addr) (ba ca:Nat) (da:Option Addr) (ea fa:Nat) (ga:Option Addr) (ha ia:Nat) (c:Int) (w:World) (R:Value->World->Prop):Prop:=
 (∀b,w.heap.size<=b->
 (∀b1,w.heap.size<=b1->
 Ix aa ba c/\
 WrX [] w aa (Int.toNat c*5+1) 1/\
 Ix aa ba c/\
 WrX [] (sto w aa (Int.toNat c*5+1) [I (-1)]) aa (Int.toNat c*5+2) 1/\
 (∀wr,ExtX [] (sto (sto w aa (Int.toNat c*5+1) [I (-1)]) aa (Int.toNat c*5+2) [I 0]) wr->R (.agg #[I w0,S aa ba ca,S da ea fa,S ga ha ia]) wr)))
theorem z5k (w0 w1O w1L w1C w2O w2L w2C w3O w3L w3C c):EfV (z46 w0 w1O w1L w1C w2O w2L w2C w3O w3L w3C c) zdw #[.agg #[.int .i64 w0,.slice w1O w1L w1C,.slice w2O w2L w2C,.slice w3O w3L w3C],.int .i64 c]:=eV [] false [] Tryz.func30 (by kernel_rfl) (by kernel_rfl)
def zv1 (w0:Int) (na:Option Addr) (oa pa:Nat) (qa:Option Addr) (ra sa:Nat) (ta:Option Addr) (ua va:Nat) (t:Int) (w:World) (R:Value->World->Prop):Prop:=
 (∀b,w.heap.size<=b->
 Ix qa ra t/\
 (∃aa,
 zaa [] w qa (Int.toNat t*9+1) [I aa]/\
 (∀b1 wb,ExtX [] w wb->w.heap.size<=b1->wb.heap[b1]? = some (Obj.cells ([I aa]:List Value).toArray zao (0,0))->b1∉([b]:List Nat)->
 (∃(ba:List Value->World->Prop) (mu:List Value->World->Nat),(∀wr,ExtX [b] wb wr->(∀bq∈[b],bq<wr.heap.size)->ba [I aa,S (some (Addr.mk b1 0 none)) 1 1] wr)/\
 ∀(g:Int) (ca:Option Addr) (da ea:Nat) wv,(∀bq∈[b],bq<wv.heap.size)->ba [I g,S ca da ea] wv->
 ((g != 0)=true->
 Ix ta ua g/\
 (∃fa,
 zaa [b] wv ta (Int.toNat g*14+1) [I fa]/\
 (∀b2,wv.heap.size<=b2->
 (∀ga,ExtX [b] wv ga->(∀bq∈[b,b2],bq<ga.heap.size)->ga.heap[b2]? = some (Obj.cells ([I fa]:List Value).toArray zao (0,0))->
 (∃ha ia ja,
 ∃ka,(builtin .append #[zee,zee] zee #[false,false] #[S ca da ea,S (some (Addr.mk b2 0 none)) 1 1]).run Tryz.prog ga = .ok (.value (S ha ia ja)) ka/\Kept [b,b2] ga ka/\
 (∀la,ExtX [b,b2] ka la->(∀bq∈[b,b2],bq<la.heap.size)->ba [I fa,S ha ia ja] la/\mu [I fa,S ha ia ja] la<mu [I g,S ca da ea] wv))))))/\
 ((g != 0)=false->
 (∀ma,ExtX [b] wv ma->R (S ca da ea) ma))))))
theorem zwt (w0 w1O w1L w1C w2O w2L w2C w3O w3L w3C t):EfV (zv1 w0 w1O w1L w1C w2O w2L w2C w3O w3L w3C t) zi2 #[.agg #[.int .i64 w0,.slice w1O w1L w1C,.slice w2O w2L w2C,.slice w3O w3L w3C],.int .i64 t]:=eV [14] false [(3,⟨[(5,.int .i64),(6,.slice)],[],[2],[],[]⟩)] Tryz.func31 (by kernel_rfl) (by kernel_rfl)
def z42 (a b:Int) (w:World) (R:Value->World->Prop):Prop:=
 ((decide (a<b))=true->
 R (I a) w)/\
 ((decide (a<b))=false->
 R (I b) w)
theorem z6k (a b):PuV (z42 a b) zg5 #[.int .i64 a,.int .i64 b]:=pV [] false [] Tryz.func78 (by kernel_rfl) (by kernel_rfl)
def z44 (b0 b1 b2:Int) (da:Option Addr) (ea fa:Nat) (ga:Option Addr) (ha ia:Nat) (w:World) (R:Value->World->Prop):Prop:=
 (∀b,w.heap.size<=b->
 (∀b5,w.heap.size<=b5->
 (∃(aa:List Value->World->Prop) (mu:List Value->World->Nat),(∀wr,ExtX [] w wr->(∀bq∈[b,b5],bq<wr.heap.size)->aa [I 0] wr)/\
 ∀(c:Int) wv,(∀bq∈[b,b5],bq<wv.heap.size)->aa [I c] wv->
 ((decide (c<(ha:Int)))=true->
 Ix ga ha c/\
 WrX [b,b5] wv ga (Int.toNat c*1) 1/\
 InR .i64 (c+1)/\
 (∀ba,ExtX [b,b5] (sto wv ga (Int.toNat c*1) [.bool false]) ba->(∀bq∈[b,b5],bq<ba.heap.size)->aa [I (c+1)] ba/\mu [I (c+1)] ba<mu [I c] wv))/\
 ((decide (c<(ha:Int)))=false->
 (∀ca,ExtX [b,b5] wv ca->R (.agg #[I b0,I b1,I b2,S da ea fa,S ga ha ia]) ca)))))
theorem z5j (b0 b1 b2 b3O b3L b3C b4O b4L b4C):EfV (z44 b0 b1 b2 b3O b3L b3C b4O b4L b4C) zi9 #[.agg #[.int .i64 b0,.int .i64 b1,.int .i64 b2,.slice b3O b3L b3C,.slice b4O b4L b4C]]:=eV [] false [(2,⟨[(3,.int .i64)],[],[1,2],[],[]⟩)] Tryz.func128 (by kernel_rfl) (by kernel_rfl)
def z19 (b0 b1 b2:Int) (yb:Option Addr) (zb ac:Nat) (bc:Option Addr) (cc dc:Nat) (ec fc gc:Int) (w:World) (R:Value->World->Prop):Prop:=
 (∀b,w.heap.size<=b->
 (∀b5,w.heap.size<=b5->
 (∀b6,w.heap.size<=b6->
 (∃aa,
 zad [] Tryz.prog zh4 #[.agg #[I b0,I b1,I b2,S yb zb ac,S bc cc dc]] w (.bool aa)/\
 ((!aa)=true->
 (∀wr,ExtX [] w wr->R (.tuple #[.agg #[I 0,I 0,I 0,S none 0 0,S none 0 0],I 1]) wr))/\
 ((!aa)=false->
 (∀ba,ExtX [] w ba->(∀bq∈[b,b5,b6],bq<ba.heap.size)->
 Calls Tryz.prog zi8 #[.agg #[I b0,I b1,I b2,S yb zb ac,S bc cc dc]] ba fun e wv=>
 (∃ca da ea fa ga ha ia ja ka,
 e = .returned (.agg #[I ca,I da,I ea,S fa ga ha,S ia ja ka])/\Kept [b,b5,b6] ba wv/\
 ((ec==4)=true->
 (∀la,ExtX [b,b5,b6] wv la->(∀bq∈[b,b5,b6],bq<la.heap.size)->
 (∃ma na oa,
 ∃pa,((Instr.makeSlice zee (I (ja:Int)) (I (ja:Int))):Sem Value).run Tryz.prog la = .ok (S ma na oa) pa/\Kept [b,b5,b6] la pa/\
 (∀qa,ExtX [b,b5,b6] pa qa->(∀bq∈[b,b5,b6],bq<qa.heap.size)->
 Calls Tryz.prog zi9 #[.agg #[I ca,I ca,I 0,S ma na oa,S ia ja ka]] qa fun e1 ra=>
 (∃sa ta ua va wa xa ya za ab,
 e1 = .returned (.agg #[I sa,I ta,I ua,S va wa xa,S ya za ab])/\Kept [b,b5,b6] qa ra/\
 (∀bb,ExtX [b,b5,b6] ra bb->R (.tuple #[.agg #[I sa,I ta,I ua,S va wa xa,S ya za ab],I 0]) bb))))))/\
 ((ec==4)=false->
 InR .i64 ((ga:Int) - 1)/\
 (∃cb,
 zad [b,b5,b6] Tryz.prog zaq #[I fc,I 0,I ((ga:Int) - 1)] wv (.bool cb)/\
 ((!cb)=true->
 (∀db,ExtX [b,b5,b6] wv db->R (.tuple #[.agg #[I ca,I da,I ea,S fa ga ha,S ia ja ka],I 1]) db))/\
 ((!cb)=false->
 ((ec==1)=true->
 Ix fa ga fc/\
 (∃x,
 zaa [b,b5,b6] wv fa (Int.toNat fc*1) [I x]/\
 ((decide (x>0))=true->
 (∀eb,ExtX [b,b5,b6] wv eb->R (.tuple #[.agg #[I ca,I da,I ea,S fa ga ha,S ia ja ka],I 0]) eb))/\
 ((decide (x>0))=false->
 (∃fb,
 zad [b,b5,b6] Tryz.prog zg5 #[I 20,I da] wv (I fb)/\
 InR .i64 (da - fb)/\
 Ix fa ga fc/\
 WrX [b,b5,b6] wv fa (Int.toNat fc*1) 1/\
 Ix ia ja fc/\
 WrX [b,b5,b6] (sto wv fa (Int.toNat fc*1) [I fb]) ia (Int.toNat fc*1) 1/\
 ((fb==0)=true->
 (∀gb,ExtX [b,b5,b6] (sto (sto wv fa (Int.toNat fc*1) [I fb]) ia (Int.toNat fc*1) [.bool (fb==0)]) gb->R (.tuple #[.agg #[I ca,I (da - fb),I ea,S fa ga ha,S ia ja ka],I 2]) gb))/\
 ((fb==0)=false->
 (∀hb,ExtX [b,b5,b6] (sto (sto wv fa (Int.toNat fc*1) [I fb]) ia (Int.toNat fc*1) [.bool (fb==0)]) hb->R (.tuple #[.agg #[I ca,I (da - fb),I ea,S fa ga ha,S ia ja ka],I 0]) hb))))))/\
 ((ec==1)=false->
 ((ec==2)=true->
 ((decide (gc<1))=false->Ix fa ga fc)/\
 (∃x1,
 ((decide (gc<1))=false->zaa [b,b5,b6] wv fa (Int.toNat fc*1) [I x1])/\
 (((decide (gc<1))||(decide (gc>x1)))=true->
 (∀ib,ExtX [b,b5,b6] wv ib->R (.tuple #[.agg #[I ca,I da,I ea,S fa ga ha,S ia ja ka],I 3]) ib))/\
 (((decide (gc<1))||(decide (gc>x1)))=false->
 Ix fa ga fc/\
 (∃x2,
 zaa [b,b5,b6] wv fa (Int.toNat fc*1) [I x2]/\
 InR .i64 (x2 - gc)/\
 Ix fa ga fc/\
 WrX [b,b5,b6] wv fa (Int.toNat fc*1) 1/\
 InR .i64 (ea+gc)/\
 (∀jb,ExtX [b,b5,b6] (sto wv fa (Int.toNat fc*1) [I (x2 - gc)]) jb->R (.tuple #[.agg #[I ca,I da,I (ea+gc),S fa ga ha,S ia ja ka],I 0]) jb)))))/\
 ((ec==2)=false->
 ((ec==3)=true->
 Ix fa ga fc/\
 (∃x3,
 zaa [b,b5,b6] wv fa (Int.toNat fc*1) [I x3]/\
 InR .i64 (da+x3)/\
 Ix fa ga fc/\
 WrX [b,b5,b6] wv fa (Int.toNat fc*1) 1/\
 ((decide (da+x3>0))=true->
 (∀kb,ExtX [b,b5,b6] (sto wv fa (Int.toNat fc*1) [I 0]) kb->(∀bq∈[b,b5,b6],bq<kb.heap.size)->
 Calls Tryz.prog zi9 #[.agg #[I ca,I (da+x3),I ea,S fa ga ha,S ia ja ka]] kb fun e2 lb=>
 (∃mb nb ob pb qb rb sb tb ub,
 e2 = .returned (.agg #[I mb,I nb,I ob,S pb qb rb,S sb tb ub])/\Kept [b,b5,b6] kb lb/\
 (∀vb,ExtX [b,b5,b6] lb vb->R (.tuple #[.agg #[I mb,I nb,I ob,S pb qb rb,S sb tb ub],I 0]) vb))))/\
 ((decide (da+x3>0))=false->
 (∀wb,ExtX [b,b5,b6] (sto wv fa (Int.toNat fc*1) [I 0]) wb->R (.tuple #[.agg #[I ca,I (da+x3),I ea,S fa ga ha,S ia ja ka],I 0]) wb))))/\
 ((ec==3)=false->
 (∀xb,ExtX [b,b5,b6] wv xb->R (.tuple #[.agg #[I ca,I da,I ea,S fa ga ha,S ia ja ka],I 1]) xb))))))))))))))
theorem z21 (b0 b1 b2 b3O b3L b3C b4O b4L b4C op0 op1 op2):EfV (z19 b0 b1 b2 b3O b3L b3C b4O b4L b4C op0 op1 op2) zez #[.agg #[.int .i64 b0,.int .i64 b1,.int .i64 b2,.slice b3O b3L b3C,.slice b4O b4L b4C],.agg #[.int .i64 op0,.int .i64 op1,.int .i64 op2]]:=eV [] false [] Tryz.func73 (by kernel_rfl) (by kernel_rfl)
def z2o (w0:Int) (zb:Option Addr) (ac bc:Nat) (cc:Option Addr) (dc ec:Nat) (fc:Option Addr) (gc hc:Nat) (ic:Option Addr) (jc kc:Nat) (c:Int) (w:World) (R:Value->World->Prop):Prop:=
 (∀b,w.heap.size<=b->
 (∀b1,w.heap.size<=b1->
 (∃(aa:List Value->World->Prop) (ba:List Value->World->Nat),(∀ca,ExtX [] w ca->(∀bq∈[b,b1],bq<ca.heap.size)->aa [I 0,I 0,S none 0 0,S none 0 0,S none 0 0] ca)/\
 ∀(i1 l:Int) (da:Option Addr) (ea fa:Nat) (ga:Option Addr) (ha ia:Nat) (ja:Option Addr) (ka la:Nat) ma,(∀bq∈[b,b1],bq<ma.heap.size)->aa [I i1,I l,S da ea fa,S ga ha ia,S ja ka la] ma->
 ((decide (i1<(jc:Int)))=true->
 Ix ic jc i1/\
 (∃na,
 zaa [b,b1] ma ic (Int.toNat i1*1) [I na]/\
 Ix fc gc na/\
 (∃(oa:Bool) (pa:Int) (qa:ByteArray) (ra sa ta ua va wa xa ya:Int) (za:Option Addr) (ab bb:Nat) (cb:Option Addr) (db eb:Nat) (fb:Option Addr) (gb hb:Nat),
 zaa [b,b1] ma fc (Int.toNat na*14) [.bool oa,I pa,.string qa,I ra,I sa,I ta,I ua,I va,I wa,I xa,I ya,S za ab bb,S cb db eb,S fb gb hb]/\
 (∀b4,ma.heap.size<=b4->
 zaa [b,b1] ma fc (Int.toNat na*14) [.bool oa,I pa,.string qa,I ra,I sa,I ta,I ua,I va,I wa,I xa,I ya,S za ab bb,S cb db eb,S fb gb hb]/\
 zaa [b,b1] ma ic (Int.toNat i1*1) [I na]/\
 (some (zab,([I w0,S zb ac bc,S cc dc ec,S fc gc hc]:List Value))=some (zab,([I w0,S zb ac bc,S cc dc ec,S fc gc hc]:List Value)))/\
 ((wa==0)=true->
 InR .i64 (i1+1)/\
 (∀ib,ExtX [b,b1] ma ib->(∀bq∈[b,b1,b4],bq<ib.heap.size)->aa [I (i1+1),I l,S da ea fa,S ga ha ia,S ja ka la] ib/\ba [I (i1+1),I l,S da ea fa,S ga ha ia,S ja ka la] ib<ba [I i1,I l,S da ea fa,S ga ha ia,S ja ka la] ma))/\
 ((wa==0)=false->
 (∀jb,ExtX [b,b1] ma jb->(∀bq∈[b,b1,b4],bq<jb.heap.size)->
 Calls Tryz.prog zez #[.agg #[I wa,I xa,I ya,S za ab bb,S cb db eb],.agg #[I 1,I c,I 0]] jb fun e1 kb=>
 (∃lb mb nb ob pb qb rb sb tb ub,
 e1 = .returned (.tuple #[.agg #[I lb,I mb,I nb,S ob pb qb,S rb sb tb],I ub])/\Kept [b,b1,b4] jb kb/\
 (∀b5,kb.heap.size<=b5->
 Ix ic jc i1/\
 (∃vb,
 zaa [b,b1,b4] kb ic (Int.toNat i1*1) [I vb]/\
 Ix fc gc vb/\
 WrX [b,b1,b4] kb fc (Int.toNat vb*14+8) 5/\
 ((ub==2)=true->
 (∀wb,ExtX [b,b1,b4] (sto kb fc (Int.toNat vb*14+8) [I lb,I mb,I nb,S ob pb qb,S rb sb tb]) wb->R (.tuple #[.agg #[I w0,S zb ac bc,S cc dc ec,S fc gc hc],.bool false]) wb))/\
 ((ub==2)=false->
 InR .i64 (i1+1)/\
 (∀xb,ExtX [b,b1,b4] (sto kb fc (Int.toNat vb*14+8) [I lb,I mb,I nb,S ob pb qb,S rb sb tb]) xb->(∀bq∈[b,b1,b4,b5],bq<xb.heap.size)->aa [I (i1+1),I l,S da ea fa,S ga ha ia,S ja ka la] xb/\ba [I (i1+1),I l,S da ea fa,S ga ha ia,S ja ka la] xb<ba [I i1,I l,S da ea fa,S ga ha ia,S ja ka la] ma)))))))))))/\
 ((decide (i1<(jc:Int)))=false->
 (∀yb,ExtX [b,b1] ma yb->R (.tuple #[.agg #[I w0,S zb ac bc,S cc dc ec,S fc gc hc],.bool true]) yb)))))
theorem z23 (w0 w1O w1L w1C w2O w2L w2C w3O w3L w3C pathO pathL pathC c):EfV (z2o w0 w1O w1L w1C w2O w2L w2C w3O w3L w3C pathO pathL pathC c) zk2 #[.agg #[.int .i64 w0,.slice w1O w1L w1C,.slice w2O w2L w2C,.slice w3O w3L w3C],.slice pathO pathL pathC,.int .i64 c]:=eV [] false [(2,⟨[(8,.int .i64)],[(1,[.int .i64,.slice,.slice,.slice])],[1,2,3,6],[],[]⟩)] Tryz.func32 (by kernel_rfl) (by kernel_rfl)
def z41 (a b:Int) (w:World) (R:Value->World->Prop):Prop:=
 ((decide (a>b))=true->
 R (I a) w)/\
 ((decide (a>b))=false->
 R (I b) w)
theorem z6j (a b):PuV (z41 a b) zlu #[.int .i64 a,.int .i64 b]:=pV [] false [] Tryz.func129 (by kernel_rfl) (by kernel_rfl)
def z2b (ea fa:Int) (w:World) (R:Value->World->Prop):Prop:=
 (∃aa,
 zad [] Tryz.prog zcz #[I fa] w (.bool aa)/\
 ((!aa)=true->
 R (I 0) w)/\
 ((!aa)=false->
 (∃ba,
 zad [] Tryz.prog zlu #[I ea,I 0] w (I ba)/\
 (∃ca,
 zad [] Tryz.prog zg4 #[I fa] w (I ca)/\
 (∃da,
 zad [] Tryz.prog zg5 #[I ba,I ca] w (I da)/\
 R (I da) w)))))
theorem z4d (lag weight):PuV (z2b lag weight) zh5 #[.int .i64 lag,.int .i64 weight]:=pV [] false [] Tryz.func82 (by kernel_rfl) (by kernel_rfl)
def zzg (w0:Int) (db:Option Addr) (eb fb:Nat) (gb:Option Addr) (hb ib:Nat) (jb:Option Addr) (kb lb:Nat) (c:Int) (w:World) (R:Value->World->Prop):Prop:=
 (∀b,w.heap.size<=b->
 (∀b1,w.heap.size<=b1->
 (∃(aa:List Value->World->Prop) (mu:List Value->World->Nat),(∀wr,ExtX [] w wr->(∀bq∈[b,b1],bq<wr.heap.size)->aa [I 3] wr)/\
 ∀(d:Int) wv,(∀bq∈[b,b1],bq<wv.heap.size)->aa [I d] wv->
 ((decide (d>0))=true->
 (∃(ba:List Value->World->Prop) (ca:List Value->World->Nat),(∀da,ExtX [b,b1] wv da->(∀bq∈[b,b1],bq<da.heap.size)->ba [I 1] da)/\
 ∀(k:Int) ea,(∀bq∈[b,b1],bq<ea.heap.size)->ba [I k] ea->
 ((decide (k<(kb:Int)))=true->
 Ix jb kb k/\
 (∃fa,
 zaa [b,b1] ea jb (Int.toNat k*14+0) [.bool fa]/\
 (∃ga,
 ((!fa)=false->zad [b,b1] Tryz.prog zfi #[S jb kb lb,I k] ea (I ga))/\
 (((!fa)||(ga != d))=true->
 InR .i64 (k+1)/\
 (∀ha,ExtX [b,b1] ea ha->(∀bq∈[b,b1],bq<ha.heap.size)->ba [I (k+1)] ha/\ca [I (k+1)] ha<ca [I k] ea))/\
 (((!fa)||(ga != d))=false->
 Ix jb kb k/\
 (∃ia ja ka,
 zaa [b,b1] ea jb (Int.toNat k*14+13) [S ia ja ka]/\
 Ix ia ja c/\
 (∃x0 x1 x2 x3 x4,
 zaa [b,b1] ea ia (Int.toNat c*5) [I x0,.bool x1,I x2,I x3,I x4]/\
 (∀b2,ea.heap.size<=b2->
 (∃la,
 zad [b,b1] Tryz.prog zeu #[.agg #[I w0,S db eb fb,S gb hb ib,S jb kb lb],I k,I c] ea (.bool la)/\
 (∃ma,
 (la=true->zad [b,b1] Tryz.prog zja #[.agg #[I w0,S db eb fb,S gb hb ib,S jb kb lb],I k,I c] ea (.bool ma))/\
 (((la&&(!ma))&&(!x1))=true->
 Ix jb kb k/\
 (∃na,
 zaa [b,b1] ea jb (Int.toNat k*14+1) [I na]/\
 Ix jb kb na/\
 (∃oa pa qa,
 zaa [b,b1] ea jb (Int.toNat na*14+13) [S oa pa qa]/\
 Ix oa pa c/\
 (∃ra,
 zaa [b,b1] ea oa (Int.toNat c*5+0) [I ra]/\
 InR .i64 (x2 - ra)/\
 (∃sa,
 zad [b,b1] Tryz.prog zh5 #[I (x2 - ra),I x3] ea (I sa)/\
 InR .i64 (ra+sa)/\
 Ix jb kb k/\
 (∃ta ua va,
 zaa [b,b1] ea jb (Int.toNat k*14+13) [S ta ua va]/\
 Ix ta ua c/\
 WrX [b,b1] ea ta (Int.toNat c*5) 5/\
 InR .i64 (k+1)/\
 (∀wa,ExtX [b,b1] (sto ea ta (Int.toNat c*5) [I x0,.bool (la&&(!ma)),I (ra+sa),I x3,I x4]) wa->(∀bq∈[b,b1,b2],bq<wa.heap.size)->ba [I (k+1)] wa/\ca [I (k+1)] wa<ca [I k] ea)))))))/\
 (((la&&(!ma))&&(!x1))=false->
 Ix jb kb k/\
 (∃xa ya za,
 zaa [b,b1] ea jb (Int.toNat k*14+13) [S xa ya za]/\
 Ix xa ya c/\
 WrX [b,b1] ea xa (Int.toNat c*5) 5/\
 InR .i64 (k+1)/\
 (∀ab,ExtX [b,b1] (sto ea xa (Int.toNat c*5) [I x0,.bool (la&&(!ma)),I x2,I x3,I x4]) ab->(∀bq∈[b,b1,b2],bq<ab.heap.size)->ba [I (k+1)] ab/\ca [I (k+1)] ab<ca [I k] ea))))))))))))/\
 ((decide (k<(kb:Int)))=false->
 InR .i64 (d - 1)/\
 (∀bb,ExtX [b,b1] ea bb->(∀bq∈[b,b1],bq<bb.heap.size)->aa [I (d - 1)] bb/\mu [I (d - 1)] bb<mu [I d] wv))))/\
 ((decide (d>0))=false->
 (∀cb,ExtX [b,b1] wv cb->R (.agg #[I w0,S db eb fb,S gb hb ib,S jb kb lb]) cb)))))
theorem zzp (w0 w1O w1L w1C w2O w2L w2C w3O w3L w3C c):EfV (zzg w0 w1O w1L w1C w2O w2L w2C w3O w3L w3C c) zg8 #[.agg #[.int .i64 w0,.slice w1O w1L w1C,.slice w2O w2L w2C,.slice w3O w3L w3C],.int .i64 c]:=eV [] false [(2,⟨[(5,.int .i64)],[],[1,2,4],[],[]⟩),(5,⟨[(6,.int .i64)],[],[1,2,4,5],[],[]⟩)] Tryz.func74 (by kernel_rfl) (by kernel_rfl)
def z2i (w0:Int) (lb:Option Addr) (mb nb:Nat) (ob:Option Addr) (pb qb:Nat) (rb:Option Addr) (sb tb:Nat) (w:World) (R:Value->World->Prop):Prop:=
 (∀b,w.heap.size<=b->
 (∀b1,w.heap.size<=b1->
 (∃(aa:List Value->World->Prop) (mu:List Value->World->Nat),(∀wr,ExtX [] w wr->(∀bq∈[b,b1],bq<wr.heap.size)->aa [I 0] wr)/\
 ∀(k:Int) wv,(∀bq∈[b,b1],bq<wv.heap.size)->aa [I k] wv->
 ((decide (k<(sb:Int)))=true->
 Ix rb sb k/\
 (∃ba,
 zaa [b,b1] wv rb (Int.toNat k*14+0) [.bool ba]/\
 ((!ba)=false->Ix rb sb k)/\
 (∃ca,
 ((!ba)=false->zaa [b,b1] wv rb (Int.toNat k*14+8+0) [I ca])/\
 (((!ba)||(ca==0))=true->
 InR .i64 (k+1)/\
 (∀da,ExtX [b,b1] wv da->(∀bq∈[b,b1],bq<da.heap.size)->aa [I (k+1)] da/\mu [I (k+1)] da<mu [I k] wv))/\
 (((!ba)||(ca==0))=false->
 (∃(ea:List Value->World->Prop) (fa:List Value->World->Nat),(∀ga,ExtX [b,b1] wv ga->(∀bq∈[b,b1],bq<ga.heap.size)->ea [I 0] ga)/\
 ∀(c:Int) ha,(∀bq∈[b,b1],bq<ha.heap.size)->ea [I c] ha->
 ((decide (c<(mb:Int)))=true->
 Ix rb sb k/\
 (∃ia ja ka,
 zaa [b,b1] ha rb (Int.toNat k*14+8+3) [S ia ja ka]/\
 Ix ia ja c/\
 (∃x,
 zaa [b,b1] ha ia (Int.toNat c*1) [I x]/\
 (∃la,
 ((decide (x>0))=true->zad [b,b1] Tryz.prog zeu #[.agg #[I w0,S lb mb nb,S ob pb qb,S rb sb tb],I k,I c] ha (.bool la))/\
 (((decide (x>0))&&(!la))=true->
 Ix rb sb k/\
 (∃ma na oa pa qa ra sa ta ua,
 zaa [b,b1] ha rb (Int.toNat k*14+8) [I ma,I na,I oa,S pa qa ra,S sa ta ua]/\
 (∀va,ExtX [b,b1] ha va->(∀bq∈[b,b1],bq<va.heap.size)->
 Calls Tryz.prog zez #[.agg #[I ma,I na,I oa,S pa qa ra,S sa ta ua],.agg #[I 3,I c,I 0]] va fun e wa=>
 (∃xa ya za ab bb cb db eb fb gb,
 e = .returned (.tuple #[.agg #[I xa,I ya,I za,S ab bb cb,S db eb fb],I gb])/\Kept [b,b1] va wa/\
 (∀b2,wa.heap.size<=b2->
 Ix rb sb k/\
 WrX [b,b1] wa rb (Int.toNat k*14+8) 5/\
 InR .i64 (c+1)/\
 (∀hb,ExtX [b,b1] (sto wa rb (Int.toNat k*14+8) [I xa,I ya,I za,S ab bb cb,S db eb fb]) hb->(∀bq∈[b,b1,b2],bq<hb.heap.size)->ea [I (c+1)] hb/\fa [I (c+1)] hb<fa [I c] ha))))))/\
 (((decide (x>0))&&(!la))=false->
 InR .i64 (c+1)/\
 (∀ib,ExtX [b,b1] ha ib->(∀bq∈[b,b1],bq<ib.heap.size)->ea [I (c+1)] ib/\fa [I (c+1)] ib<fa [I c] ha))))))/\
 ((decide (c<(mb:Int)))=false->
 InR .i64 (k+1)/\
 (∀jb,ExtX [b,b1] ha jb->(∀bq∈[b,b1],bq<jb.heap.size)->aa [I (k+1)] jb/\mu [I (k+1)] jb<mu [I k] wv)))))))/\
 ((decide (k<(sb:Int)))=false->
 (∀kb,ExtX [b,b1] wv kb->R (.agg #[I w0,S lb mb nb,S ob pb qb,S rb sb tb]) kb)))))
theorem z22 (w0 w1O w1L w1C w2O w2L w2C w3O w3L w3C):EfV (z2i w0 w1O w1L w1C w2O w2L w2C w3O w3L w3C) zky #[.agg #[.int .i64 w0,.slice w1O w1L w1C,.slice w2O w2L w2C,.slice w3O w3L w3C]]:=eV [] false [(2,⟨[(3,.int .i64)],[],[1,2],[],[]⟩),(6,⟨[(4,.int .i64)],[],[1,2,3],[],[]⟩)] Tryz.func75 (by kernel_rfl) (by kernel_rfl)
def zvt (w0:Int) (pa:Option Addr) (qa ra:Nat) (sa:Option Addr) (ta ua:Nat) (va:Option Addr) (wa xa:Nat) (c:Int) (w:World) (R:Value->World->Prop):Prop:=
 (∀b,w.heap.size<=b->
 (∀b1,w.heap.size<=b1->
 (∃(aa:List Value->World->Prop) (mu:List Value->World->Nat),(∀wr,ExtX [] w wr->(∀bq∈[b,b1],bq<wr.heap.size)->aa [I 0] wr)/\
 ∀(k:Int) wv,(∀bq∈[b,b1],bq<wv.heap.size)->aa [I k] wv->
 ((decide (k<(wa:Int)))=true->
 Ix va wa k/\
 (∃ba,
 zaa [b,b1] wv va (Int.toNat k*14+0) [.bool ba]/\
 ((!ba)=true->
 InR .i64 (k+1)/\
 (∀ca,ExtX [b,b1] wv ca->(∀bq∈[b,b1],bq<ca.heap.size)->aa [I (k+1)] ca/\mu [I (k+1)] ca<mu [I k] wv))/\
 ((!ba)=false->
 (∃da ea,
 zad [b,b1] Tryz.prog zg7 #[.agg #[I w0,S pa qa ra,S sa ta ua,S va wa xa],I k,I c] wv (.tuple #[I da,.bool ea])/\
 (ea=true->Ix va wa k)/\
 (∃fa ga ha,
 (ea=true->zaa [b,b1] wv va (Int.toNat k*14+13) [S fa ga ha])/\
 (ea=true->Ix fa ga c)/\
 (∃ia,
 (ea=true->zaa [b,b1] wv fa (Int.toNat c*5+0) [I ia])/\
 ((ea&&(decide (da>ia)))=true->
 Ix va wa k/\
 (∃ja ka la,
 zaa [b,b1] wv va (Int.toNat k*14+13) [S ja ka la]/\
 Ix ja ka c/\
 WrX [b,b1] wv ja (Int.toNat c*5+0) 1/\
 InR .i64 (k+1)/\
 (∀ma,ExtX [b,b1] (sto wv ja (Int.toNat c*5+0) [I da]) ma->(∀bq∈[b,b1],bq<ma.heap.size)->aa [I (k+1)] ma/\mu [I (k+1)] ma<mu [I k] wv)))/\
 ((ea&&(decide (da>ia)))=false->
 InR .i64 (k+1)/\
 (∀na,ExtX [b,b1] wv na->(∀bq∈[b,b1],bq<na.heap.size)->aa [I (k+1)] na/\mu [I (k+1)] na<mu [I k] wv))))))))/\
 ((decide (k<(wa:Int)))=false->
 (∀oa,ExtX [b,b1] wv oa->R (.agg #[I w0,S pa qa ra,S sa ta ua,S va wa xa]) oa)))))
theorem zwq (w0 w1O w1L w1C w2O w2L w2C w3O w3L w3C c):EfV (zvt w0 w1O w1L w1C w2O w2L w2C w3O w3L w3C c) ziy #[.agg #[.int .i64 w0,.slice w1O w1L w1C,.slice w2O w2L w2C,.slice w3O w3L w3C],.int .i64 c]:=eV [] false [(2,⟨[(5,.int .i64)],[],[1,2,4],[],[]⟩)] Tryz.func76 (by kernel_rfl) (by kernel_rfl)
def zvx (w0:Int) (pd:Option Addr) (qd rd:Nat) (sd:Option Addr) (td ud:Nat) (vd:Option Addr) (wd xd:Nat) (w:World) (R:Value->World->Prop):Prop:=
 (∀b,w.heap.size<=b->
 (∀b1,w.heap.size<=b1->
 (∃(aa:List Value->World->Prop) (ba:List Value->World->Nat),(∀ca,ExtX [] w ca->(∀bq∈[b,b1],bq<ca.heap.size)->aa [I 0,I w0,S pd qd rd,S sd td ud,S vd wd xd] ca)/\
 ∀(c1 l:Int) (da:Option Addr) (ea fa:Nat) (ga:Option Addr) (ha ia:Nat) (ja:Option Addr) (ka la:Nat) ma,(∀bq∈[b,b1],bq<ma.heap.size)->aa [I c1,I l,S da ea fa,S ga ha ia,S ja ka la] ma->
 ((decide (c1<(ea:Int)))=true->
 (∀na,ExtX [b,b1] ma na->(∀bq∈[b,b1],bq<na.heap.size)->
 Calls Tryz.prog zg8 #[.agg #[I l,S da ea fa,S ga ha ia,S ja ka la],I c1] na fun e1 oa=>
 (∃pa qa ra sa ta ua va wa xa ya,
 e1 = .returned (.agg #[I pa,S qa ra sa,S ta ua va,S wa xa ya])/\Kept [b,b1] na oa/\
 InR .i64 (c1+1)/\
 (∀za,ExtX [b,b1] oa za->(∀bq∈[b,b1],bq<za.heap.size)->aa [I (c1+1),I pa,S qa ra sa,S ta ua va,S wa xa ya] za/\ba [I (c1+1),I pa,S qa ra sa,S ta ua va,S wa xa ya] za<ba [I c1,I l,S da ea fa,S ga ha ia,S ja ka la] ma))))/\
 ((decide (c1<(ea:Int)))=false->
 (∀ab,ExtX [b,b1] ma ab->(∀bq∈[b,b1],bq<ab.heap.size)->
 Calls Tryz.prog zky #[.agg #[I l,S da ea fa,S ga ha ia,S ja ka la]] ab fun e2 bb=>
 (∃cb db eb fb gb hb ib jb kb lb,
 e2 = .returned (.agg #[I cb,S db eb fb,S gb hb ib,S jb kb lb])/\Kept [b,b1] ab bb/\
 (∃(mb:List Value->World->Prop) (nb:List Value->World->Nat),(∀ob,ExtX [b,b1] bb ob->(∀bq∈[b,b1],bq<ob.heap.size)->mb [I 0,I cb,S db eb fb,S gb hb ib,S jb kb lb] ob)/\
 ∀(c3 l4:Int) (pb:Option Addr) (qb rb:Nat) (sb:Option Addr) (tb ub:Nat) (vb:Option Addr) (wb xb:Nat) yb,(∀bq∈[b,b1],bq<yb.heap.size)->mb [I c3,I l4,S pb qb rb,S sb tb ub,S vb wb xb] yb->
 ((decide (c3<(qb:Int)))=true->
 (∀zb,ExtX [b,b1] yb zb->(∀bq∈[b,b1],bq<zb.heap.size)->
 Calls Tryz.prog zg8 #[.agg #[I l4,S pb qb rb,S sb tb ub,S vb wb xb],I c3] zb fun e4 ac=>
 (∃bc cc dc ec fc gc hc ic jc kc,
 e4 = .returned (.agg #[I bc,S cc dc ec,S fc gc hc,S ic jc kc])/\Kept [b,b1] zb ac/\
 (∀lc,ExtX [b,b1] ac lc->(∀bq∈[b,b1],bq<lc.heap.size)->
 Calls Tryz.prog ziy #[.agg #[I bc,S cc dc ec,S fc gc hc,S ic jc kc],I c3] lc fun e5 mc=>
 (∃nc oc pc qc rc sc tc uc vc wc,
 e5 = .returned (.agg #[I nc,S oc pc qc,S rc sc tc,S uc vc wc])/\Kept [b,b1] lc mc/\
 Ix oc pc c3/\
 (∃xc,
 zaa [b,b1] mc oc (Int.toNat c3*5+1) [I xc]/\
 ((decide (xc>=0))=true->Ix rc sc xc)/\
 (∃yc,
 ((decide (xc>=0))=true->zaa [b,b1] mc rc (Int.toNat xc*9+2) [I yc])/\
 (∃zc,
 ((yc != c3)=false->((decide (xc>=0))=true->zad [b,b1] Tryz.prog zev #[.agg #[I nc,S oc pc qc,S rc sc tc,S uc vc wc],I xc] mc (.bool zc)))/\
 (((decide (xc>=0))&&((yc != c3)||(!zc)))=true->
 (∀ad,ExtX [b,b1] mc ad->(∀bq∈[b,b1],bq<ad.heap.size)->
 Calls Tryz.prog zdw #[.agg #[I nc,S oc pc qc,S rc sc tc,S uc vc wc],I c3] ad fun e6 bd=>
 (∃cd dd ed fd gd hd id jd kd ld,
 e6 = .returned (.agg #[I cd,S dd ed fd,S gd hd id,S jd kd ld])/\Kept [b,b1] ad bd/\
 InR .i64 (c3+1)/\
 (∀md,ExtX [b,b1] bd md->(∀bq∈[b,b1],bq<md.heap.size)->mb [I (c3+1),I cd,S dd ed fd,S gd hd id,S jd kd ld] md/\nb [I (c3+1),I cd,S dd ed fd,S gd hd id,S jd kd ld] md<nb [I c3,I l4,S pb qb rb,S sb tb ub,S vb wb xb] yb))))/\
 (((decide (xc>=0))&&((yc != c3)||(!zc)))=false->
 InR .i64 (c3+1)/\
 (∀nd,ExtX [b,b1] mc nd->(∀bq∈[b,b1],bq<nd.heap.size)->mb [I (c3+1),I nc,S oc pc qc,S rc sc tc,S uc vc wc] nd/\nb [I (c3+1),I nc,S oc pc qc,S rc sc tc,S uc vc wc] nd<nb [I c3,I l4,S pb qb rb,S sb tb ub,S vb wb xb] yb))))))))))/\
 ((decide (c3<(qb:Int)))=false->
 (∀od,ExtX [b,b1] yb od->R (.agg #[I l4,S pb qb rb,S sb tb ub,S vb wb xb]) od)))))))))
theorem zwr (w0 w1O w1L w1C w2O w2L w2C w3O w3L w3C):EfV (zvx w0 w1O w1L w1C w2O w2L w2C w3O w3L w3C) zc0 #[.agg #[.int .i64 w0,.slice w1O w1L w1C,.slice w2O w2L w2C,.slice w3O w3L w3C]]:=eV [] false [(2,⟨[(3,.int .i64)],[(0,[.int .i64,.slice,.slice,.slice])],[1,2],[],[]⟩),(7,⟨[(4,.int .i64)],[(0,[.int .i64,.slice,.slice,.slice])],[1,2],[],[]⟩)] Tryz.func33 (by kernel_rfl) (by kernel_rfl)
def z2l (w0:Int) (la:Option Addr) (ma na:Nat) (oa:Option Addr) (pa qa:Nat) (ra:Option Addr) (sa ta:Nat) (ua:Option Addr) (va wa:Nat) (c n:Int) (w:World) (R:Value->World->Prop):Prop:=
 (∀b,w.heap.size<=b->
 (∃(aa:List Value->Prop) (mu:List Value->Nat),aa [I n,I 0]/\
 ∀(n1 i:Int),aa [I n1,I i]->
 ((decide (i<(va:Int)))=true->
 Ix ua va i/\
 (∃x,
 zaa [] w ua (Int.toNat i*1) [I x]/\
 Ix ra sa x/\
 (∃ba ca da ea fa ga ha ia ja,
 zaa [] w ra (Int.toNat x*14+8) [I ba,I ca,I da,S ea fa ga,S ha ia ja]/\
 (∀b1,w.heap.size<=b1->
 zaa [] w ra (Int.toNat x*14+8) [I ba,I ca,I da,S ea fa ga,S ha ia ja]/\
 zaa [] w ua (Int.toNat i*1) [I x]/\
 (some (zab,([I w0,S la ma na,S oa pa qa,S ra sa ta]:List Value))=some (zab,([I w0,S la ma na,S oa pa qa,S ra sa ta]:List Value)))/\
 ((decide (ba>0))=true->
 Ix ea fa c/\
 (∃x1,
 zaa [] w ea (Int.toNat c*1) [I x1]/\
 (∃ka,
 zad [] Tryz.prog zg5 #[I n1,I x1] w (I ka)/\
 InR .i64 (i+1)/\
 aa [I ka,I (i+1)]/\mu [I ka,I (i+1)]<mu [I n1,I i])))/\
 ((decide (ba>0))=false->
 InR .i64 (i+1)/\
 aa [I n1,I (i+1)]/\mu [I n1,I (i+1)]<mu [I n1,I i])))))/\
 ((decide (i<(va:Int)))=false->
 R (I n1) w)))
theorem z4m (w0 w1O w1L w1C w2O w2L w2C w3O w3L w3C pathO pathL pathC c n):PuV (z2l w0 w1O w1L w1C w2O w2L w2C w3O w3L w3C pathO pathL pathC c n) zk0 #[.agg #[.int .i64 w0,.slice w1O w1L w1C,.slice w2O w2L w2C,.slice w3O w3L w3C],.slice pathO pathL pathC,.int .i64 c,.int .i64 n]:=pV [] false [(2,⟨[(3,.int .i64),(9,.int .i64)],[],[1,2,4],[],[]⟩)] Tryz.func34 (by kernel_rfl) (by kernel_rfl)
def zv0 (w0:Int) (gd:Option Addr) (hd id:Nat) (jd:Option Addr) (kd ld:Nat) (md:Option Addr) (nd od:Nat) (t:Int) (pd:Option Addr) (qd rd:Nat) (c n:Int) (w:World) (R:Value->World->Prop):Prop:=
 (∀b,w.heap.size<=b->
 (∀b1,w.heap.size<=b1->
 Ix jd kd t/\
 (∃x0 x1 x2 x3 x4 x5 x6 x7 x8,
 zaa [] w jd (Int.toNat t*9) [I x0,I x1,I x2,I x3,I x4,I x5,I x6,I x7,I x8]/\
 (∀b2,w.heap.size<=b2->
 (∃aa,
 zad [] Tryz.prog zcy #[I x3] w (I aa)/\
 (∃ba,
 zad [] Tryz.prog zca #[I n,I aa] w (I ba)/\
 InR .i64 (x5+ba)/\
 InR .i64 (x6+n)/\
 InR .i64 (x7+n)/\
 Ix jd kd t/\
 WrX [] w jd (Int.toNat t*9) 9/\
 (∃(ca:List Value->World->Prop) (mu:List Value->World->Nat),(∀wr,ExtX [] (sto w jd (Int.toNat t*9) [I x0,I x1,I x2,I x3,I x4,I (x5+ba),I (x6+n),I (x7+n),I x8]) wr->(∀bq∈[b,b1,b2],bq<wr.heap.size)->ca [I 0] wr)/\
 ∀(i:Int) wv,(∀bq∈[b,b1,b2],bq<wv.heap.size)->ca [I i] wv->
 ((decide (i<(qd:Int)))=true->
 Ix pd qd i/\
 (∃x,
 zaa [b,b1,b2] wv pd (Int.toNat i*1) [I x]/\
 Ix md nd x/\
 (∃(da:Bool) (ea:Int) (fa:ByteArray) (ga ha ia ja ka la x9 ma:Int) (na:Option Addr) (oa pa:Nat) (qa:Option Addr) (ra sa:Nat) (ta:Option Addr) (ua va:Nat),
 zaa [b,b1,b2] wv md (Int.toNat x*14) [.bool da,I ea,.string fa,I ga,I ha,I ia,I ja,I ka,I la,I x9,I ma,S na oa pa,S qa ra sa,S ta ua va]/\
 (∀b3,wv.heap.size<=b3->
 zaa [b,b1,b2] wv md (Int.toNat x*14) [.bool da,I ea,.string fa,I ga,I ha,I ia,I ja,I ka,I la,I x9,I ma,S na oa pa,S qa ra sa,S ta ua va]/\
 zaa [b,b1,b2] wv pd (Int.toNat i*1) [I x]/\
 (some (zab,([I w0,S gd hd id,S jd kd ld,S md nd od]:List Value))=some (zab,([I w0,S gd hd id,S jd kd ld,S md nd od]:List Value)))/\
 Ix ta ua c/\
 (∃wa xa ya za ab,
 zaa [b,b1,b2] wv ta (Int.toNat c*5) [I wa,.bool xa,I ya,I za,I ab]/\
 (∀b4,wv.heap.size<=b4->
 Ix pd qd i/\
 (∃bb,
 zaa [b,b1,b2] wv pd (Int.toNat i*1) [I bb]/\
 ((bb != 0)=true->
 (∃cb,
 zad [b,b1,b2] Tryz.prog zca #[I n,I za] wv (I cb)/\
 InR .i64 (ya+cb)/\
 InR .i64 (ab+n)/\
 Ix pd qd i/\
 (∃db,
 zaa [b,b1,b2] wv pd (Int.toNat i*1) [I db]/\
 Ix md nd db/\
 (∃eb fb gb,
 zaa [b,b1,b2] wv md (Int.toNat db*14+13) [S eb fb gb]/\
 Ix eb fb c/\
 WrX [b,b1,b2] wv eb (Int.toNat c*5) 5/\
 Ix pd qd i/\
 (∃hb,
 zaa [b,b1,b2] (sto wv eb (Int.toNat c*5) [I wa,.bool xa,I (ya+cb),I za,I (ab+n)]) pd (Int.toNat i*1) [I hb]/\
 InR .i64 (ka+n)/\
 Ix md nd hb/\
 WrX [b,b1,b2] (sto wv eb (Int.toNat c*5) [I wa,.bool xa,I (ya+cb),I za,I (ab+n)]) md (Int.toNat hb*14+7) 1/\
 ((decide (la>0))=true->
 (∀ib,ExtX [b,b1,b2] (sto (sto wv eb (Int.toNat c*5) [I wa,.bool xa,I (ya+cb),I za,I (ab+n)]) md (Int.toNat hb*14+7) [I (ka+n)]) ib->(∀bq∈[b,b1,b2,b3,b4],bq<ib.heap.size)->
 Calls Tryz.prog zez #[.agg #[I la,I x9,I ma,S na oa pa,S qa ra sa],.agg #[I 2,I c,I n]] ib fun e jb=>
 (∃kb lb mb nb ob pb qb rb sb tb,
 e = .returned (.tuple #[.agg #[I kb,I lb,I mb,S nb ob pb,S qb rb sb],I tb])/\Kept [b,b1,b2,b3,b4] ib jb/\
 (∀b5,jb.heap.size<=b5->
 Ix pd qd i/\
 (∃ub,
 zaa [b,b1,b2,b3,b4] jb pd (Int.toNat i*1) [I ub]/\
 Ix md nd ub/\
 WrX [b,b1,b2,b3,b4] jb md (Int.toNat ub*14+8) 5/\
 InR .i64 (i+1)/\
 (∀vb,ExtX [b,b1,b2,b3,b4] (sto jb md (Int.toNat ub*14+8) [I kb,I lb,I mb,S nb ob pb,S qb rb sb]) vb->(∀bq∈[b,b1,b2,b3,b4,b5],bq<vb.heap.size)->ca [I (i+1)] vb/\mu [I (i+1)] vb<mu [I i] wv))))))/\
 ((decide (la>0))=false->
 InR .i64 (i+1)/\
 (∀wb,ExtX [b,b1,b2] (sto (sto wv eb (Int.toNat c*5) [I wa,.bool xa,I (ya+cb),I za,I (ab+n)]) md (Int.toNat hb*14+7) [I (ka+n)]) wb->(∀bq∈[b,b1,b2,b3,b4],bq<wb.heap.size)->ca [I (i+1)] wb/\mu [I (i+1)] wb<mu [I i] wv)))))))/\
 ((bb != 0)=false->
 InR .i64 (ab+n)/\
 Ix pd qd i/\
 (∃xb,
 zaa [b,b1,b2] wv pd (Int.toNat i*1) [I xb]/\
 Ix md nd xb/\
 (∃yb zb ac,
 zaa [b,b1,b2] wv md (Int.toNat xb*14+13) [S yb zb ac]/\
 Ix yb zb c/\
 WrX [b,b1,b2] wv yb (Int.toNat c*5) 5/\
 Ix pd qd i/\
 (∃bc,
 zaa [b,b1,b2] (sto wv yb (Int.toNat c*5) [I wa,.bool xa,I ya,I za,I (ab+n)]) pd (Int.toNat i*1) [I bc]/\
 InR .i64 (ka+n)/\
 Ix md nd bc/\
 WrX [b,b1,b2] (sto wv yb (Int.toNat c*5) [I wa,.bool xa,I ya,I za,I (ab+n)]) md (Int.toNat bc*14+7) 1/\
 ((decide (la>0))=true->
 (∀cc,ExtX [b,b1,b2] (sto (sto wv yb (Int.toNat c*5) [I wa,.bool xa,I ya,I za,I (ab+n)]) md (Int.toNat bc*14+7) [I (ka+n)]) cc->(∀bq∈[b,b1,b2,b3,b4],bq<cc.heap.size)->
 Calls Tryz.prog zez #[.agg #[I la,I x9,I ma,S na oa pa,S qa ra sa],.agg #[I 2,I c,I n]] cc fun e1 dc=>
 (∃ec fc gc hc ic jc kc lc mc nc,
 e1 = .returned (.tuple #[.agg #[I ec,I fc,I gc,S hc ic jc,S kc lc mc],I nc])/\Kept [b,b1,b2,b3,b4] cc dc/\
 (∀b6,dc.heap.size<=b6->
 Ix pd qd i/\
 (∃oc,
 zaa [b,b1,b2,b3,b4] dc pd (Int.toNat i*1) [I oc]/\
 Ix md nd oc/\
 WrX [b,b1,b2,b3,b4] dc md (Int.toNat oc*14+8) 5/\
 InR .i64 (i+1)/\
 (∀pc,ExtX [b,b1,b2,b3,b4] (sto dc md (Int.toNat oc*14+8) [I ec,I fc,I gc,S hc ic jc,S kc lc mc]) pc->(∀bq∈[b,b1,b2,b3,b4,b6],bq<pc.heap.size)->ca [I (i+1)] pc/\mu [I (i+1)] pc<mu [I i] wv))))))/\
 ((decide (la>0))=false->
 InR .i64 (i+1)/\
 (∀qc,ExtX [b,b1,b2] (sto (sto wv yb (Int.toNat c*5) [I wa,.bool xa,I ya,I za,I (ab+n)]) md (Int.toNat bc*14+7) [I (ka+n)]) qc->(∀bq∈[b,b1,b2,b3,b4],bq<qc.heap.size)->ca [I (i+1)] qc/\mu [I (i+1)] qc<mu [I i] wv)))))))))))))/\
 ((decide (i<(qd:Int)))=false->
 Ix gd hd c/\
 (∃rc,
 zaa [b,b1,b2] wv gd (Int.toNat c*5+3) [I rc]/\
 InR .i64 (rc+n)/\
 Ix gd hd c/\
 WrX [b,b1,b2] wv gd (Int.toNat c*5+3) 1/\
 Ix gd hd c/\
 (∃sc,
 zaa [b,b1,b2] (sto wv gd (Int.toNat c*5+3) [I (rc+n)]) gd (Int.toNat c*5+2) [I sc]/\
 InR .i64 (sc+n)/\
 Ix gd hd c/\
 WrX [b,b1,b2] (sto wv gd (Int.toNat c*5+3) [I (rc+n)]) gd (Int.toNat c*5+2) 1/\
 (∀tc,ExtX [b,b1,b2] (sto (sto wv gd (Int.toNat c*5+3) [I (rc+n)]) gd (Int.toNat c*5+2) [I (sc+n)]) tc->(∀bq∈[b,b1,b2],bq<tc.heap.size)->
 Calls Tryz.prog zc0 #[.agg #[I w0,S gd hd id,S jd kd ld,S md nd od]] tc fun e2 uc=>
 (∃vc wc xc yc zc ad bd cd dd ed,
 e2 = .returned (.agg #[I vc,S wc xc yc,S zc ad bd,S cd dd ed])/\Kept [b,b1,b2] tc uc/\
 (∀fd,ExtX [b,b1,b2] uc fd->R (.agg #[I vc,S wc xc yc,S zc ad bd,S cd dd ed]) fd)))))))))))))
theorem zws (w0 w1O w1L w1C w2O w2L w2C w3O w3L w3C t pathO pathL pathC c n):EfV (zv0 w0 w1O w1L w1C w2O w2L w2C w3O w3L w3C t pathO pathL pathC c n) zi1 #[.agg #[.int .i64 w0,.slice w1O w1L w1C,.slice w2O w2L w2C,.slice w3O w3L w3C],.int .i64 t,.slice pathO pathL pathC,.int .i64 c,.int .i64 n]:=eV [] false [(7,⟨[(12,.int .i64)],[],[2,3,4,5,10],[],[]⟩)] Tryz.func35 (by kernel_rfl) (by kernel_rfl)
def zvk (w0:Int) (jf:Option Addr) (kf lf:Nat) (mf:Option Addr) (nf pf:Nat) (qf:Option Addr) (rf sf:Nat) (tf n:Int) (w:World) (R:Value->World->Prop):Prop:=
 (∀b,w.heap.size<=b->
 (∀b1,w.heap.size<=b1->
 (∃aa,
 zad [] Tryz.prog zfh #[.agg #[I w0,S jf kf lf,S mf nf pf,S qf rf sf]] w (.bool aa)/\
 ((!aa)=true->
 (∀wr,ExtX [] w wr->R (.tuple #[.agg #[I 0,S none 0 0,S none 0 0,S none 0 0],I 1]) wr))/\
 ((!aa)=false->
 (∀ba,ExtX [] w ba->(∀bq∈[b,b1],bq<ba.heap.size)->
 Calls Tryz.prog zjb #[.agg #[I w0,S jf kf lf,S mf nf pf,S qf rf sf]] ba fun e wv=>
 (∃ca da ea fa ga ha ia ja ka la,
 e = .returned (.agg #[I ca,S da ea fa,S ga ha ia,S ja ka la])/\Kept [b,b1] ba wv/\
 (∃ma,
 zad [b,b1] Tryz.prog zaq #[I n,I 1,I 100] wv (.bool ma)/\
 ((!ma)=false->InR .i64 ((ea:Int) - 1))/\
 (∃na,
 ((!ma)=false->zad [b,b1] Tryz.prog zaq #[I tf,I 0,I ((ea:Int) - 1)] wv (.bool na))/\
 (((!ma)||(!na))=true->
 (∀oa,ExtX [b,b1] wv oa->R (.tuple #[.agg #[I ca,S da ea fa,S ga ha ia,S ja ka la],I 1]) oa))/\
 (((!ma)||(!na))=false->
 Ix da ea tf/\
 (∃up,
 zaa [b,b1] wv da (Int.toNat tf*5+0) [.bool up]/\
 ((!up)=true->
 (∀pa,ExtX [b,b1] wv pa->R (.tuple #[.agg #[I ca,S da ea fa,S ga ha ia,S ja ka la],I 6]) pa))/\
 ((!up)=false->
 (∃qa,
 zad [b,b1] Tryz.prog zft #[.agg #[I ca,S da ea fa,S ga ha ia,S ja ka la]] wv (.bool qa)/\
 ((!qa)=true->
 (∀ra,ExtX [b,b1] wv ra->R (.tuple #[.agg #[I ca,S da ea fa,S ga ha ia,S ja ka la],I 10]) ra))/\
 ((!qa)=false->
 (∃(sa:List Value->List Nat->World->Prop),
 ((∃(ta:List Value->World->Prop) (ua:List Value->World->Nat),(∀va,ExtX [b,b1] wv va->(∀bq∈[b,b1],bq<va.heap.size)->ta [I n,I ca,S da ea fa,S ga ha ia,S ja ka la] va)/\
 ∀(wa l:Int) (xa:Option Addr) (ya za:Nat) (ab:Option Addr) (bb cb:Nat) (db:Option Addr) (eb fb:Nat) gb,(∀bq∈[b,b1],bq<gb.heap.size)->ta [I wa,I l,S xa ya za,S ab bb cb,S db eb fb] gb->
 ((decide (wa>0))=true->
 (∃hb,
 zad [b,b1] Tryz.prog zk1 #[.agg #[I l,S xa ya za,S ab bb cb,S db eb fb],I tf] gb (I hb)/\
 ((decide (hb<0))=true->
 Ix xa ya tf/\
 (∃ib,
 zaa [b,b1] gb xa (Int.toNat tf*5+4) [I ib]/\
 InR .i64 (ib+wa)/\
 Ix xa ya tf/\
 WrX [b,b1] gb xa (Int.toNat tf*5+4) 1/\
 (∀jb,ExtX [b,b1] (sto gb xa (Int.toNat tf*5+4) [I (ib+wa)]) jb->(∀bq∈[b,b1],bq<jb.heap.size)->
 Calls Tryz.prog zdw #[.agg #[I l,S xa ya za,S ab bb cb,S db eb fb],I tf] jb fun e2 kb=>
 (∃lb mb nb ob pb qb rb sb tb ub,
 e2 = .returned (.agg #[I lb,S mb nb ob,S pb qb rb,S sb tb ub])/\Kept [b,b1] jb kb/\
 (∀vb,ExtX [b,b1] kb vb->(∀bq∈[b,b1],bq<vb.heap.size)->sa [I lb,S mb nb ob,S pb qb rb,S sb tb ub] [] vb)))))/\
 ((decide (hb<0))=false->
 (∃(wb:List Value->List Nat->World->Prop),
 (Ix xa ya tf/\
 (∃xb,
 zaa [b,b1] gb xa (Int.toNat tf*5+1) [I xb]/\
 ((hb != xb)=false->Ix xa ya tf)/\
 (∃yb,
 ((hb != xb)=false->zaa [b,b1] gb xa (Int.toNat tf*5+2) [I yb])/\
 (((hb != xb)||(decide (yb>=50)))=true->
 Ix xa ya tf/\
 WrX [b,b1] gb xa (Int.toNat tf*5+1) 1/\
 Ix xa ya tf/\
 WrX [b,b1] (sto gb xa (Int.toNat tf*5+1) [I hb]) xa (Int.toNat tf*5+2) 1/\
 (∀zb,ExtX [b,b1] (sto (sto gb xa (Int.toNat tf*5+1) [I hb]) xa (Int.toNat tf*5+2) [I 0]) zb->(∀bq∈[b,b1],bq<zb.heap.size)->wb [] [] zb))/\
 (((hb != xb)||(decide (yb>=50)))=false->
 (∀ac,ExtX [b,b1] gb ac->(∀bq∈[b,b1],bq<ac.heap.size)->wb [] [] ac)))))/\
 (∀(bc:World),(∀bq∈[b,b1],bq<bc.heap.size)->wb [] [] bc->
 (∀cc,ExtX [b,b1] bc cc->(∀bq∈[b,b1],bq<cc.heap.size)->
 Calls Tryz.prog zi2 #[.agg #[I l,S xa ya za,S ab bb cb,S db eb fb],I hb] cc fun e3 dc=>
 (∃ec fc gc,
 e3 = .returned (S ec fc gc)/\Kept [b,b1] cc dc/\
 (∀hc,ExtX [b,b1] dc hc->(∀bq∈[b,b1],bq<hc.heap.size)->
 Calls Tryz.prog zk2 #[.agg #[I l,S xa ya za,S ab bb cb,S db eb fb],S ec fc gc,I tf] hc fun e4 ic=>
 (∃jc kc lc mc nc oc pc qc rc sc tc,
 e4 = .returned (.tuple #[.agg #[I jc,S kc lc mc,S nc oc pc,S qc rc sc],.bool tc])/\Kept [b,b1] hc ic/\
 ((!tc)=true->
 (∀uc,ExtX [b,b1] ic uc->(∀bq∈[b,b1],bq<uc.heap.size)->
 Calls Tryz.prog zdw #[.agg #[I jc,S kc lc mc,S nc oc pc,S qc rc sc],I tf] uc fun e5 vc=>
 (∃wc xc yc zc ad bd cd dd ed fd,
 e5 = .returned (.agg #[I wc,S xc yc zc,S ad bd cd,S dd ed fd])/\Kept [b,b1] uc vc/\
 (∀gd,ExtX [b,b1] vc gd->(∀bq∈[b,b1],bq<gd.heap.size)->
 Calls Tryz.prog zc0 #[.agg #[I wc,S xc yc zc,S ad bd cd,S dd ed fd]] gd fun e6 hd=>
 (∃id jd kd ld md nd od pd qd rd,
 e6 = .returned (.agg #[I id,S jd kd ld,S md nd od,S pd qd rd])/\Kept [b,b1] gd hd/\
 (∀sd,ExtX [b,b1] hd sd->(∀bq∈[b,b1],bq<sd.heap.size)->ta [I wa,I id,S jd kd ld,S md nd od,S pd qd rd] sd/\ua [I wa,I id,S jd kd ld,S md nd od,S pd qd rd] sd<ua [I wa,I l,S xa ya za,S ab bb cb,S db eb fb] gb))))))/\
 ((!tc)=false->
 (∃td,
 zad [b,b1] Tryz.prog zk0 #[.agg #[I jc,S kc lc mc,S nc oc pc,S qc rc sc],S ec fc gc,I tf,I wa] ic (I td)/\
 (∀ud,ExtX [b,b1] ic ud->(∀bq∈[b,b1],bq<ud.heap.size)->
 Calls Tryz.prog zi1 #[.agg #[I jc,S kc lc mc,S nc oc pc,S qc rc sc],I hb,S ec fc gc,I tf,I td] ud fun e7 vd=>
 (∃wd xd yd zd ae be ce de ee fe,
 e7 = .returned (.agg #[I wd,S xd yd zd,S ae be ce,S de ee fe])/\Kept [b,b1] ud vd/\
 InR .i64 (wa - td)/\
 (∀he,ExtX [b,b1] vd he->(∀bq∈[b,b1],bq<he.heap.size)->ta [I (wa - td),I wd,S xd yd zd,S ae be ce,S de ee fe] he/\ua [I (wa - td),I wd,S xd yd zd,S ae be ce,S de ee fe] he<ua [I wa,I l,S xa ya za,S ab bb cb,S db eb fb] gb))))))))))))))/\
 ((decide (wa>0))=false->
 (∀ie,ExtX [b,b1] gb ie->(∀bq∈[b,b1],bq<ie.heap.size)->sa [I l,S xa ya za,S ab bb cb,S db eb fb] [] ie))))/\
 (∀(l4:Int) (je:Option Addr) (ke me:Nat) (oe:Option Addr) (pe qe:Nat) (re:Option Addr) (se te:Nat) (ue:World),(∀bq∈[b,b1],bq<ue.heap.size)->sa [I l4,S je ke me,S oe pe qe,S re se te] [] ue->
 (∀ve,ExtX [b,b1] ue ve->(∀bq∈[b,b1],bq<ve.heap.size)->
 Calls Tryz.prog zc0 #[.agg #[I l4,S je ke me,S oe pe qe,S re se te]] ve fun e8 we=>
 (∃xe ye ze af bf cf df ef ff gf,
 e8 = .returned (.agg #[I xe,S ye ze af,S bf cf df,S ef ff gf])/\Kept [b,b1] ve we/\
 (∀hf,ExtX [b,b1] we hf->R (.tuple #[.agg #[I xe,S ye ze af,S bf cf df,S ef ff gf],I 0]) hf))))))))))))))))))
theorem zwn (w0 w1O w1L w1C w2O w2L w2C w3O w3L w3C cpu n):EfV (zvk w0 w1O w1L w1C w2O w2L w2C w3O w3L w3C cpu n) zdn #[.agg #[.int .i64 w0,.slice w1O w1L w1C,.slice w2O w2L w2C,.slice w3O w3L w3C],.int .i64 cpu,.int .i64 n]:=eV [] false [(1000027,⟨[],[(0,[.int .i64,.slice,.slice,.slice])],[3,6],[],[]⟩),(11,⟨[(8,.int .i64)],[(0,[.int .i64,.slice,.slice,.slice])],[1,3,6],[],[]⟩),(1000019,⟨[],[],[1,3,6,8,9],[],[]⟩)] Tryz.func10 (by kernel_rfl) (by kernel_rfl)
def zzb (ca:Option Addr) (da ea:Nat) (w:World) (R:Value->World->Prop):Prop:=
 ((decide ((da:Int)>2000))=true->
 (0<=(0:Int)/\(0:Int)<=2000/\2000<=(ea:Int))/\
 (∀b wb,ExtX [] w wb->w.heap.size<=b->wb.heap[b]? = some (Obj.cells ([S (if ea=Int.toNat 0 then ca else ca.map (·.add (Int.toNat 0*1))) (Int.toNat 2000 - Int.toNat 0) (ea - Int.toNat 0),I 0]:List Value).toArray zjf (0,0))->b∉([]:List Nat)->
 (∀wr,ExtX [] wb wr->R (.pointer ((some (Addr.mk b 0 none)).map (·.add 0))) wr)))/\
 ((decide ((da:Int)>2000))=false->
 (∀b1 aa,ExtX [] w aa->w.heap.size<=b1->aa.heap[b1]? = some (Obj.cells ([S ca da ea,I 0]:List Value).toArray zjf (0,0))->b1∉([]:List Nat)->
 (∀ba,ExtX [] aa ba->R (.pointer ((some (Addr.mk b1 0 none)).map (·.add 0))) ba)))
theorem zzn (codeO codeL codeC):EfV (zzb codeO codeL codeC) zju #[.slice codeO codeL codeC]:=eV [10] false [] Tryz.func12 (by kernel_rfl) (by kernel_rfl)
def zze (va wa:Int) (xa:ByteArray) (w:World) (R:Value->World->Prop):Prop:=
 (∀b,w.heap.size<=b->
 (∀b1,w.heap.size<=b1->
 (∃(aa:List Value->World->Prop) (ba:List Value->World->Nat),(∀ca,ExtX [] w ca->(∀bq∈[b,b1],bq<ca.heap.size)->aa [I 0,.bool true,I wa,.string xa,I 10,I 15,I 0,I 0,I 0,I 0,I 0,I 0,S none 0 0,S none 0 0,S none 0 0] ca)/\
 ∀(c1:Int) (l:Bool) (l1:Int) (l2:ByteArray) (l3 l4 l5 l6 l7 l8 l9 da:Int) (ea:Option Addr) (fa ga:Nat) (ha:Option Addr) (ia ja:Nat) (ka:Option Addr) (la ma:Nat) na,(∀bq∈[b,b1],bq<na.heap.size)->aa [I c1,.bool l,I l1,.string l2,I l3,I l4,I l5,I l6,I l7,I l8,I l9,I da,S ea fa ga,S ha ia ja,S ka la ma] na->
 ((decide (c1<va))=true->
 (∀b3,na.heap.size<=b3->
 (∀oa,ExtX [b,b1] na oa->(∀bq∈[b,b1,b3],bq<oa.heap.size)->oa.heap[b3]? = some (Obj.cells ([I 0,.bool false,I 0,I 10,I 0]:List Value).toArray zbv (0,0))->
 (∃pa qa ra,
 ∃sa,(builtin .append #[za8,za8] za8 #[false,false] #[S ka la ma,S (some (Addr.mk b3 0 none)) 1 1]).run Tryz.prog oa = .ok (.value (S pa qa ra)) sa/\Kept [b,b1,b3] oa sa/\
 InR .i64 (c1+1)/\
 (∀ta,ExtX [b,b1,b3] sa ta->(∀bq∈[b,b1,b3],bq<ta.heap.size)->aa [I (c1+1),.bool l,I l1,.string l2,I l3,I l4,I l5,I l6,I l7,I l8,I l9,I da,S ea fa ga,S ha ia ja,S pa qa ra] ta/\ba [I (c1+1),.bool l,I l1,.string l2,I l3,I l4,I l5,I l6,I l7,I l8,I l9,I da,S ea fa ga,S ha ia ja,S pa qa ra] ta<ba [I c1,.bool l,I l1,.string l2,I l3,I l4,I l5,I l6,I l7,I l8,I l9,I da,S ea fa ga,S ha ia ja,S ka la ma] na)))))/\
 ((decide (c1<va))=false->
 (∀ua,ExtX [b,b1] na ua->R (.agg #[.bool l,I l1,.string l2,I l3,I l4,I l5,I l6,I l7,I l8,I l9,I da,S ea fa ga,S ha ia ja,S ka la ma]) ua)))))
theorem zzo (cpus parent name):EfV (zze cpus parent name) zg6 #[.int .i64 cpus,.int .i64 parent,.string name]:=eV [] false [(3,⟨[(8,.int .i64)],[(1,[.bool,.int .i64,.str,.int .i64,.int .i64,.int .i64,.int .i64,.int .i64,.int .i64,.int .i64,.int .i64,.slice,.slice,.slice])],[0,6,7],[],[]⟩)] Tryz.func37 (by kernel_rfl) (by kernel_rfl)
end Go.Proofs.YtclpmgfpjeaibaaGreatDoor
