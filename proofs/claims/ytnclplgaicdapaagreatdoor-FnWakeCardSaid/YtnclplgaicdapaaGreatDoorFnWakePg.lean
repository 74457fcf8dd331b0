/- Part 7 of what the law FnWake needs. -/
import Derived.Test.YtnclplgaicdapaaGreatDoorFnWakePf
set_option linter.unusedVariables false
set_option linter.unusedSimpArgs false
set_option maxRecDepth 100000
set_option maxHeartbeats 8000000
namespace Go.Proofs.YtnclplgaicdapaaGreatDoor
open Go.RowKit
def zcg(B:Int)(x:OA)(y s:Nat)(p:OA)(u A:Nat)(t:OA)(z r:Nat)(w:Wo)(R:RT):=∀e f,Q0 [] w f->w.heap.size<=e->f.heap[e]? = some (Obj.cells ([I B,S x y s,S p u A,S t z r]:LV).toArray Q5 (0,0))->e∉([]:List Nat)->NB f λb=>∃(g:LQ) (m:LM),(AX [] [b] f λv=>g [.bool true,I 0] v)/\∀(c:Bool) (a:Int) d,(∀bq∈[b],bq<d.heap.size)->g [.bool c,I a] d->Bf (decide (a<5)) (∃(l:Fn) (n:Array Va) (k:Array Va),(0<=a/\a<(5:Int)/\(#[.func (.func XS) #[] #[],.func (.func Xy) #[] #[],.func (.func XT) #[] #[],.func (.func Xj) #[] #[],.func (.func Ja) #[] #[]]:Array Va)[Int.toNat a]? = some (.func l n k))/\AY [b] d λo=>Km Tryz.prog (.func l n k) [.pointer ((some (Addr.mk e 0 none)).map (·.add 0))] o λq i=>∃h,q=.returned (.bool h)/\Q9 [b] o i/\Bf (!h) (AR [b] i R (.bool false)) (Qz (a+1)/\AY [b] i λj=>g [.bool c,I (a+1)] j/\m [.bool c,I (a+1)] j<m [.bool c,I a] d)) (AR [b] d R (.bool c))
theorem zdc(a b c d e f g h i j):Jp (zcg a b c d e f g h i j) PR #[Wv a b c d e f g h i j]:=eV [1] false [(4,⟨[(4,.bool),(9,Ri)],[],[1,8],[],[]⟩)] Tryz.func21 Qk Qk
def Cd(y v x:Int)(s:OA)(m t:Nat)(A:OA)(l B:Nat)(w:Wo)(R:RT):=NB w λb=>NB w λa=>AX [] [b,a] w λq=>∃j f h,∃n,((Instr.makeSlice YW (I (m:Int)) (I (m:Int))):Sem Va).run Tryz.prog q=.ok (S j f h) n/\Q9 [b,a] q n/\AY [b,a] n λr=>∃z,∃g,(builtin .copy #[YW,YW] Qa #[false,false] #[S j f h,S s m t]).run Tryz.prog r=.ok (.value (I z)) g/\Q9 [b,a] r g/\AY [b,a] g λo=>∃d k i,∃c,((Instr.makeSlice Jv (I (l:Int)) (I (l:Int))):Sem Va).run Tryz.prog o=.ok (S d k i) c/\Q9 [b,a] o c/\AY [b,a] c λp=>∃u,∃e,(builtin .copy #[Jv,Jv] Qa #[false,false] #[S d k i,S A l B]).run Tryz.prog p=.ok (.value (I u)) e/\Q9 [b,a] p e/\AR [b,a] e R (.agg #[I y,I v,I x,S j f h,S d k i])
theorem CX(a b c d e f g h i):Jp (Cd a b c d e f g h i) OF #[.agg #[I a,I b,I c,S d e f,S g h i]]:=eV [] false [] Tryz.func242 Qk Qk
def Nn(p:Int)(c0:OA)(c1 b5:Nat)(a8:OA)(b7 c2:Nat)(v:OA)(Y b0:Nat)(w:Wo)(R:RT):=NB w λc=>NB w λa=>NB w λb=>AX [] [c,a,b] w λP=>∃k l m,∃x,(builtin .append #[Zt,Zt] Zt #[false,false] #[S none 0 0,S c0 c1 b5]).run Tryz.prog P=.ok (.value (S k l m)) x/\Q9 [c,a,b] P x/\AY [c,a,b] x λa4=>∃i n o,∃u,(builtin .append #[Z5,Z5] Z5 #[false,false] #[S none 0 0,S a8 b7 c2]).run Tryz.prog a4=.ok (.value (S i n o)) u/\Q9 [c,a,b] a4 u/\AY [c,a,b] u λA=>∃e f j,∃r,(builtin .append #[QD,QD] QD #[false,false] #[S none 0 0,S v Y b0]).run Tryz.prog A=.ok (.value (S e f j)) r/\Q9 [c,a,b] A r/\∃(t:LQ) (K:LM),(AY [c,a,b] r λb3=>t [I 0] b3)/\∀(d:Int) h,(∀bq∈[c,a,b],bq<h.heap.size)->t [I d] h->Bf (decide (d<(f:Int))) (Ix v Y d/\∃(b2:Bool) (b9:Int) (b8:ByteArray) (c4 b6 b4 c3 b1 O M E:Int) (a2:OA) (z a7:Nat) (F:OA) (H X:Nat) (a1:OA) (y Q:Nat),Q1 [c,a,b] h v (d.toNat*14) [.bool b2,I b9,.string b8,I c4,I b6,I b4,I c3,I b1,I O,I M,I E,S a2 z a7,S F H X,S a1 y Q]/\NB h λg=>AX [c,a,b] [c,a,b,g] h λa3=>Cz OF #[.agg #[I O,I M,I E,S a2 z a7,S F H X]] a3 λa9 s=>∃a5 T a0 U Z G a6 B D,a9=.returned (.agg #[I a5,I T,I a0,S U Z G,S a6 B D])/\Q9 [c,a,b,g] a3 s/\(some (Q5,([I p,S k l m,S i n o,S e f j]:LV))=some (Q5,([I p,S k l m,S i n o,S e f j]:LV)))/\Ix e f d/\YK [c,a,b,g] s e (d.toNat*14+8) 5/\AY [c,a,b,g] (R5 s e (d.toNat*14+8) [I a5,I T,I a0,S U Z G,S a6 B D]) λV=>∃N L C,∃q,(builtin .append #[Zb,Zb] Zb #[true,false] #[S none 0 0,S a1 y Q]).run Tryz.prog V=.ok (.value (S N L C)) q/\Q9 [c,a,b,g] V q/\(some (Q5,([I p,S k l m,S i n o,S e f j]:LV))=some (Q5,([I p,S k l m,S i n o,S e f j]:LV)))/\Ix e f d/\YK [c,a,b,g] q e (d.toNat*14+13) 1/\Qz (d+1)/\AY [c,a,b,g] (R5 q e (d.toNat*14+13) [S N L C]) λJ=>t [I (d+1)] J/\K [I (d+1)] J<K [I d] h) (AR [c,a,b] h R (Wv p k l m i n o e f j))
theorem NO(a b c d e f g h i j):Jp (Nn a b c d e f g h i j) Ut #[Wv a b c d e f g h i j]:=eV [] false [(6,⟨[(30,Ri)],[],[1,2,3,29],[],[]⟩)] Tryz.func172 Qk Qk
def zch(u:Int)(p:OA)(q l:Nat)(h:OA)(o s:Nat)(n:OA)(r i:Nat)(a8:Fn)(a9:Array Va)(a5:Array Va)(w:Wo)(R:RT):=NB w λb=>NB w λa=>∃t,PX [] PR #[Wv u p q l h o s n r i] w (.bool t)/\Bf (!t) (AR [] w R (.tuple #[Wv 0 none 0 0 none 0 0 none 0 0,I 1])) (CWx [] [b,a] Ut #[Wv u p q l h o s n r i] w λM N A v V T L B K P O=>∀c f,Q0 [b,a] O f->O.heap.size<=c->f.heap[c]? = some (Obj.cells ([I 0,S none 0 0,S none 0 0,S none 0 0]:LV).toArray Q5 (0,0))->c∉([b,a]:List Nat)->YK [b,a] f (some (Addr.mk c 0 none)) 0 4/\∀d m,Q0 [b,a] (R5 f (some (Addr.mk c 0 none)) 0 [I M,S N A v,S V T L,S B K P]) m->(R5 f (some (Addr.mk c 0 none)) 0 [I M,S N A v,S V T L,S B K P]).heap.size<=d->m.heap[d]? = some (Obj.cells ([I 0]:LV).toArray Qi (0,0))->d∉([b,a]:List Nat)->AY [b,a] m λx=>Km Tryz.prog (.func a8 a9 a5) [.pointer ((some (Addr.mk c 0 none)).map (·.add 0))] x λb2 D=>∃(z:Va),b2=.returned z/\Q9 [b,a] x D/\AY [b,a] D λJ=>Cz LI #[z,.iface Jn (.pointer ((some (Addr.mk d 0 none)).map (·.add 0)))] J λa6 e=>∃k,a6=.returned (.bool k)/\Q9 [b,a] J e/\Bf k (∃g,Q1 [b,a] e (some (Addr.mk d 0 none)) (0+0) [I g]/\CW [b,a] Ut #[Wv u p q l h o s n r i] e λb3 b1 Z a3 a2 a4 a0 a7 a1 b0 j=>Q1 [b,a] j (some (Addr.mk d 0 none)) (0+0) [I g]/\Q1 [b,a] j (some (Addr.mk d 0 none)) (0+0) [I g]/\AR [b,a] j R (.tuple #[Wv b3 b1 Z a3 a2 a4 a0 a7 a1 b0,I g])) (∃F H U Y E Q y C X G,Q1 [b,a] e (some (Addr.mk c 0 none)) 0 [I F,S H U Y,S E Q y,S C X G]/\AR [b,a] e R (.tuple #[Wv F H U Y E Q y C X G,I 0])))
theorem zdd(a b c d e f g h i j k l m):Jp (zch a b c d e f g h i j k l m) Yc #[Wv a b c d e f g h i j,.func k l m]:=eV [6,7] false [] Tryz.func76 Qk Qk
def Cf(b:OA)(d:Int)(w:Wo)(R:RT):=NB w λe=>b.isSome=true/\∃a c f,Q1 [] w b (0+1) [S a c f]/\Ix a c d/\R (.pointer (a.map (·.add (d.toNat*5)))) w
theorem zaw(a b):YX (Cf a b) YM #[.agg #[.pointer a,I b]]:=pV [] false [] Tryz.func64 Qk Qk
def GV(d:OA)(c:Int)(w:Wo)(R:RT):=NB w λe=>∃a,PX [] YM #[.agg #[.pointer d,I c]] w (.pointer a)/\∃b,PX [] YM #[.agg #[.pointer d,I c]] w (.pointer b)/\a.isSome=true/\YK [] w a (0+1) 1/\b.isSome=true/\YK [] (R5 w a (0+1) [I (-1)]) b (0+2) 1/\AR [] (R5 (R5 w a (0+1) [I (-1)]) b (0+2) [I 0]) R (.tuple #[])
theorem H6(a b):Jp (GV a b) Ze #[.agg #[.pointer a,I b]]:=eV [] false [] Tryz.func65 Qk Qk
def Et(b:OA)(d:Int)(w:Wo)(R:RT):=b.isSome=true/\∃c j o,Q1 [] w b (0+2) [S c j o]/\Ix c j d/\∃l f e s n m r k p,Q1 [] w c (d.toNat*9) [I l,I f,I e,I s,I n,I m,I r,I k,I p]/\NB w λq=>∃i h,PX [] QN #[.pointer b,I e] w (.agg #[.pointer i,I h])/\∃a,PX [] QA #[.agg #[.pointer i,I h],I f] w (.pointer a)/\a.isSome=true/\∃g,Q1 [] w a (0+0) [I g]/\R (I g) w
theorem F9(a b):YX (Et a b) Xt #[.pointer a,I b]:=pV [] false [] Tryz.func126 Qk Qk
def zgh(b c:Int)(w:Wo)(R:RT):=∃a,PX [] U8 #[I c] w (I a)/\R (I (if (if a<b then a else b)>0 then (if a<b then a else b) else 0)) w
theorem zh6(a b):YX (zgh a b) UN #[I a,I b]:=pV [] false [] Tryz.func127 Qk Qk
def DA(d:OA)(b:Int)(w:Wo)(R:RT):=d.isSome=true/\∃a f g,Q1 [] w d (0+2) [S a f g]/\Ix a f b/\∃e,Q1 [] w a (b.toNat*9+3) [I e]/\∃c,PX [] JE #[I e] w (I c)/\R (I c) w
theorem DT(a b):YX (DA a b) Jb #[.pointer a,I b]:=pV [] false [] Tryz.func128 Qk Qk
def Ni(e:OA)(a c d:Int)(w:Wo)(R:RT):=e.isSome=true/\∃b p r,Q1 [] w e (0+2) [S b p r]/\Ix b p a/\∃j,Q1 [] w b (a.toNat*9+5) [I j]/\∃i,PX [] Xt #[.pointer e,I a] w (I i)/\Qz (j-i)/\∃m,PX [] Jb #[.pointer e,I a] w (I m)/\∃g,PX [] UN #[I (j-i),I m] w (I g)/\YK [] w b (a.toNat*9+1) 1/\YK [] (R5 w b (a.toNat*9+1) [I c]) b (a.toNat*9+2) 1/\∃f,PX [] Xt #[.pointer e,I a] (R5 (R5 w b (a.toNat*9+1) [I c]) b (a.toNat*9+2) [I d]) (I f)/\Qz (f+g)/\YK [] (R5 (R5 w b (a.toNat*9+1) [I c]) b (a.toNat*9+2) [I d]) b (a.toNat*9+5) 1/\∃h,Q1 [] (R5 (R5 (R5 w b (a.toNat*9+1) [I c]) b (a.toNat*9+2) [I d]) b (a.toNat*9+5) [I (f+g)]) b (a.toNat*9+0) [I h]/\Bf (h==1) (∃n o,PX [] QN #[.pointer e,I d] (R5 (R5 (R5 w b (a.toNat*9+1) [I c]) b (a.toNat*9+2) [I d]) b (a.toNat*9+5) [I (f+g)]) (.agg #[.pointer n,I o])/\AY [] (R5 (R5 (R5 w b (a.toNat*9+1) [I c]) b (a.toNat*9+2) [I d]) b (a.toNat*9+5) [I (f+g)]) λk=>Cz Ze #[.agg #[.pointer n,I o]] k λq l=>q=.returned (.tuple #[])/\Q9 [] k l/\AR [] l R (.tuple #[])) (AR [] (R5 (R5 (R5 w b (a.toNat*9+1) [I c]) b (a.toNat*9+2) [I d]) b (a.toNat*9+5) [I (f+g)]) R (.tuple #[]))
theorem NM(a b c d):Jp (Ni a b c d) Y3 #[.pointer a,I b,I c,I d]:=eV [] false [] Tryz.func108 Qk Qk
def Gq(i:OA)(w:Wo)(R:RT):=i.isSome=true/\∃r j A,Q1 [] w i (0+2) [S r j A]/\∃(e:LQ) (d:LM),(AY [] w λB=>e [I 0] B)/\∀(a:Int) b,(∀bq∈([]:List Nat),bq<b.heap.size)->e [I a] b->Bf (decide (a<(j:Int))) (Ix r j a/\∃f h g s o l q k p,Q1 [] b r (a.toNat*9) [I f,I h,I g,I s,I o,I l,I q,I k,I p]/\NB b λc=>Bf (f==0) (Qz (a+1)/\AX [] [c] b λy=>e [I (a+1)] y/\d [I (a+1)] y<d [I a] b) (∃n,PX [] YF #[.pointer i,I a] b (I n)/\∃m,PX [] Ua #[I n,I g] b (.bool m)/\Bf (!m) (CIx [] [c] TB #[I n] b λC z=>(some (QS,([I f,I h,I g,I s,I o,I l,I q,I k,I p]:LV))=some (QS,([I f,I h,I g,I s,I o,I l,I q,I k,I p]:LV)))/\AY [c] z λu=>Cz Y3 #[.pointer i,I a,I h,I C] u λD t=>D=.returned (.tuple #[])/\Q9 [c] u t/\Qz (a+1)/\AY [c] t λx=>e [I (a+1)] x/\d [I (a+1)] x<d [I a] b) (Qz (a+1)/\AX [] [c] b λv=>e [I (a+1)] v/\d [I (a+1)] v<d [I a] b))) (AR [] b R (.tuple #[]))
theorem Gu(a):Jp (Gq a) U0 #[.pointer a]:=eV [] false [(1,⟨[(10,Ri)],[],[0,8,9],[],[]⟩)] Tryz.func66 Qk Qk
def Es(g:OA)(i:Int)(w:Wo)(R:RT):=∃(c:LP) (h:LN),c [I i,I 0]/\∀(a b:Int),c [I a,I b]->Bf (a != 0) (Qz (b+1)/\g.isSome=true/\∃e f j,Q1 [] w g (0+3) [S e f j]/\Ix e f a/\∃d,Q1 [] w e (a.toNat*14+1) [I d]/\c [I d,I (b+1)]/\h [I d,I (b+1)]<h [I a,I b]) (R (I b) w)
theorem F8(a b):YX (Es a b) Vo #[.pointer a,I b]:=pV [] false [(2,⟨[(1,Ri),(5,Ri)],[],[0],[],[]⟩)] Tryz.func234 Qk Qk
def KB(e:OA)(n:Int)(w:Wo)(R:RT):=NB w λa=>∃(p:LQ) (D:LM),(AX [] [a] w λK=>p [I 3] K)/\∀(f:Int) k,(∀bq∈[a],bq<k.heap.size)->p [I f] k->Bf (decide (f>=1)) (e.isSome=true/\∃J u L,Q1 [a] k e (0+3) [S J u L]/\∃(l:LQ) (i:LM),(AY [a] k λM=>l [I 0] M)/\∀(c:Int) b,(∀bq∈[a],bq<b.heap.size)->l [I c] b->Bf (decide (c<(u:Int))) (e.isSome=true/\∃x F N,Q1 [a] b e (0+3) [S x F N]/\Ix x F c/\∃m,Q1 [a] b x (c.toNat*14+0) [.bool m]/\∃q,((!m)=false->PX [a] Vo #[.pointer e,I c] b (I q))/\Bf ((!m)||(q != f)) (Qz (c+1)/\AY [a] b λz=>l [I (c+1)] z/\i [I (c+1)] z<i [I c] b) (∃d,PX [a] QA #[.agg #[.pointer e,I n],I c] b (.pointer d)/\∃g,PX [a] Xu #[.agg #[.pointer e,I n],I c] b (.bool g)/\∃h,(g=true->PX [a] V3 #[.agg #[.pointer e,I n],I c] b (.bool h))/\((g&&(!h))=true->d.isSome=true)/\∃t,((g&&(!h))=true->Q1 [a] b d (0+1) [.bool t])/\Bf ((g&&(!h))&&(!t)) (e.isSome=true/\∃v A H,Q1 [a] b e (0+3) [S v A H]/\Ix v A c/\∃C,Q1 [a] b v (c.toNat*14+1) [I C]/\∃s,PX [a] QA #[.agg #[.pointer e,I n],I C] b (.pointer s)/\s.isSome=true/\∃j,Q1 [a] b s (0+0) [I j]/\d.isSome=true/\∃r,Q1 [a] b d (0+2) [I r]/\Qz (r-j)/\d.isSome=true/\∃y,Q1 [a] b d (0+3) [I y]/\∃o,PX [a] UN #[I (r-j),I y] b (I o)/\Qz (j+o)/\d.isSome=true/\YK [a] b d (0+2) 1/\d.isSome=true/\YK [a] (R5 b d (0+2) [I (j+o)]) d (0+1) 1/\Qz (c+1)/\AY [a] (R5 (R5 b d (0+2) [I (j+o)]) d (0+1) [.bool (g&&(!h))]) λB=>l [I (c+1)] B/\i [I (c+1)] B<i [I c] b) (d.isSome=true/\YK [a] b d (0+1) 1/\Qz (c+1)/\AY [a] (R5 b d (0+1) [.bool (g&&(!h))]) λG=>l [I (c+1)] G/\i [I (c+1)] G<i [I c] b))) (Qz (f-1)/\AY [a] b λE=>p [I (f-1)] E/\D [I (f-1)] E<D [I f] k)) (AR [a] k R (.tuple #[]))
theorem KF(a b):Jp (KB a b) YD #[.agg #[.pointer a,I b]]:=eV [] false [(2,⟨[(2,Ri)],[],[1],[],[]⟩),(5,⟨[(17,Ri)],[],[1,2,16],[],[]⟩)] Tryz.func164 Qk Qk
def C5(c:OA)(w:Wo)(R:RT):=c.isSome=true/\∃m f l,Q1 [] w c (0+4) [S m f l]/\∃(e:LQ) (i:LM),(AY [] w λj=>e [I 0] j)/\∀(a:Int) b,(∀bq∈([]:List Nat),bq<b.heap.size)->e [I a] b->Bf (decide (a<(f:Int))) (c.isSome=true/\∃d g k,Q1 [] b c (0+4) [S d g k]/\Ix d g a/\YK [] b d (a.toNat*1) 1/\Qz (a+1)/\AY [] (R5 b d (a.toNat*1) [.bool false]) λh=>e [I (a+1)] h/\i [I (a+1)] h<i [I a] b) (AR [] b R (.tuple #[]))
theorem CQ(a):Jp (C5 a) V1 #[.pointer a]:=eV [] false [(1,⟨[(8,Ri)],[],[0,7],[],[]⟩)] Tryz.func262 Qk Qk
def Dt(a:OA)(w:Wo)(R:RT):=a.isSome=true/\∃e,Q1 [] w a (0+0) [I e]/\a.isSome=true/\YK [] w a (0+1) 1/\a.isSome=true/\YK [] (R5 w a (0+1) [I e]) a (0+2) 1/\a.isSome=true/\∃n g p,Q1 [] (R5 (R5 w a (0+1) [I e]) a (0+2) [I 0]) a (0+3) [S n g p]/\∃(f:LQ) (l:LM),(AY [] (R5 (R5 w a (0+1) [I e]) a (0+2) [I 0]) λm=>f [I 0] m)/\∀(b:Int) c,(∀bq∈([]:List Nat),bq<c.heap.size)->f [I b] c->Bf (decide (b<(g:Int))) (a.isSome=true/\∃d k q,Q1 [] c a (0+3) [S d k q]/\Ix d k b/\YK [] c d (b.toNat*1) 1/\Qz (b+1)/\AY [] (R5 c d (b.toNat*1) [I 0]) λj=>f [I (b+1)] j/\l [I (b+1)] j<l [I b] c) (AY [] c λh=>Cz V1 #[.pointer a] h λo i=>o=.returned (.tuple #[])/\Q9 [] h i/\AR [] i R (I 0))
theorem DE(a):Jp (Dt a) UL #[.pointer a]:=eV [] false [(3,⟨[(19,Ri)],[],[0,18],[],[]⟩)] Tryz.func237 Qk Qk
def Fw(a:OA)(c:Int)(w:Wo)(R:RT):=a.isSome=true/\∃g i m,Q1 [] w a (0+3) [S g i m]/\Ix g i c/\∃h,Q1 [] w g (c.toNat*1) [I h]/\Bf (decide (h>0)) (AR [] w R (I 0)) (a.isSome=true/\∃b,Q1 [] w a (0+1) [I b]/\Bf ((if b<20 then b else 20)==0) (a.isSome=true/\∃f k l,Q1 [] w a (0+4) [S f k l]/\Ix f k c/\YK [] w f (c.toNat*1) 1/\AR [] (R5 w f (c.toNat*1) [.bool true]) R (I 2)) (a.isSome=true/\∃d,Q1 [] w a (0+1) [I d]/\Qz (d-(if b<20 then b else 20))/\a.isSome=true/\YK [] w a (0+1) 1/\a.isSome=true/\∃e j n,Q1 [] (R5 w a (0+1) [I (d-(if b<20 then b else 20))]) a (0+3) [S e j n]/\Ix e j c/\YK [] (R5 w a (0+1) [I (d-(if b<20 then b else 20))]) e (c.toNat*1) 1/\AR [] (R5 (R5 w a (0+1) [I (d-(if b<20 then b else 20))]) e (c.toNat*1) [I (if b<20 then b else 20)]) R (I 0)))
theorem B0(a b):Jp (Fw a b) T1 #[.pointer a,I b]:=eV [] false [] Tryz.func238 Qk Qk
def Eo(b:OA)(c a:Int)(w:Wo)(R:RT):=((decide (a<1))=false->b.isSome=true)/\∃f j k,((decide (a<1))=false->Q1 [] w b (0+3) [S f j k])/\((decide (a<1))=false->Ix f j c)/\∃h,((decide (a<1))=false->Q1 [] w f (c.toNat*1) [I h])/\Bf ((decide (a<1))||(decide (a>h))) (AR [] w R (I 3)) (b.isSome=true/\∃d i l,Q1 [] w b (0+3) [S d i l]/\Ix d i c/\∃e,Q1 [] w d (c.toNat*1) [I e]/\Qz (e-a)/\Ix d i c/\YK [] w d (c.toNat*1) 1/\b.isSome=true/\∃g,Q1 [] (R5 w d (c.toNat*1) [I (e-a)]) b (0+2) [I g]/\Qz (g+a)/\b.isSome=true/\YK [] (R5 w d (c.toNat*1) [I (e-a)]) b (0+2) 1/\AR [] (R5 (R5 w d (c.toNat*1) [I (e-a)]) b (0+2) [I (g+a)]) R (I 0))
theorem EI(a b c):Jp (Eo a b c) Vn #[.pointer a,I b,I c]:=eV [] false [] Tryz.func239 Qk Qk
def Du(a:OA)(b:Int)(w:Wo)(R:RT):=a.isSome=true/\∃c,Q1 [] w a (0+1) [I c]/\a.isSome=true/\∃f i m,Q1 [] w a (0+3) [S f i m]/\Ix f i b/\∃d,Q1 [] w f (b.toNat*1) [I d]/\Qz (c+d)/\a.isSome=true/\YK [] w a (0+1) 1/\a.isSome=true/\∃e k n,Q1 [] (R5 w a (0+1) [I (c+d)]) a (0+3) [S e k n]/\Ix e k b/\YK [] (R5 w a (0+1) [I (c+d)]) e (b.toNat*1) 1/\a.isSome=true/\∃g,Q1 [] (R5 (R5 w a (0+1) [I (c+d)]) e (b.toNat*1) [I 0]) a (0+1) [I g]/\Bf (decide (g>0)) (AY [] (R5 (R5 w a (0+1) [I (c+d)]) e (b.toNat*1) [I 0]) λh=>Cz V1 #[.pointer a] h λl j=>l=.returned (.tuple #[])/\Q9 [] h j/\AR [] j R (I 0)) (AR [] (R5 (R5 w a (0+1) [I (c+d)]) e (b.toNat*1) [I 0]) R (I 0))
theorem DF(a b):Jp (Du a b) UM #[.pointer a,I b]:=eV [] false [] Tryz.func240 Qk Qk
def zcb(c:OA)(b d j:Int)(w:Wo)(R:RT):=NB w λa=>Bf (b==4) (CIx [] [a] UL #[.pointer c] w λk m=>AR [a] m R (I k)) (c.isSome=true/\∃i f o,Q1 [] w c (0+3) [S i f o]/\Qz ((f:Int)-1)/\∃e,PX [] QC #[I d,I 0,I ((f:Int)-1)] w (.bool e)/\Bf (!e) (AR [] w R (I 1)) (Bf (b==1) (CIx [] [a] T1 #[.pointer c,I d] w λl h=>AR [a] h R (I l)) (Bf (b==2) (CIx [] [a] Vn #[.pointer c,I d,I j] w λp g=>AR [a] g R (I p)) (Bf (b==3) (CIx [] [a] UM #[.pointer c,I d] w λq n=>AR [a] n R (I q)) (AR [] w R (I 1))))))
theorem zda(a b c d):Jp (zcb a b c d) PO #[.pointer a,.agg #[I b,I c,I d]]:=eV [] false [] Tryz.func166 Qk Qk
def Nm(g:OA)(o:Int)(w:Wo)(R:RT):=NB w λa=>g.isSome=true/\∃Z B a2,Q1 [] w g (0+3) [S Z B a2]/\∃(l:LQ) (k:LM),(AX [] [a] w λa1=>l [I 0] a1)/\∀(b:Int) i,(∀bq∈[a],bq<i.heap.size)->l [I b] i->Bf (decide (b<(B:Int))) (g.isSome=true/\∃F L a7,Q1 [a] i g (0+3) [S F L a7]/\Ix F L b/\∃y,Q1 [a] i F (b.toNat*14+0) [.bool y]/\Bf (!y) (Qz (b+1)/\AY [a] i λO=>l [I (b+1)] O/\k [I (b+1)] O<k [I b] i) (g.isSome=true/\∃G u Y,Q1 [a] i g (0+2) [S G u Y]/\∃(r:LQ) (t:LM),(AY [a] i λQ=>r [I 100000000000000001,I 0] Q)/\∀(j d:Int) h,(∀bq∈[a],bq<h.heap.size)->r [I j,I d] h->Bf (decide (d<(u:Int))) (Ix G u d/\∃U a8 a3 a9 X n a6 T a0,Q1 [a] h G (d.toNat*9) [I U,I a8,I a3,I a9,I X,I n,I a6,I T,I a0]/\NB h λD=>∃x,PX [a] JB #[.agg #[.pointer g,I o],I d,I b] h (.bool x)/\Bf x (Qz (d+1)/\AX [a] [a,D] h λH=>r [I (if n<j then n else j),I (d+1)] H/\t [I (if n<j then n else j),I (d+1)] H<t [I j,I d] h) (Qz (d+1)/\AX [a] [a,D] h λM=>r [I j,I (d+1)] M/\t [I j,I (d+1)] M<t [I j,I d] h)) (g.isSome=true/\∃a5 v V,Q1 [a] h g (0+3) [S a5 v V]/\∃(p:LQ) (s:LM),(AY [a] h λa4=>p [I j,I 0] a4)/\∀(e f:Int) c,(∀bq∈[a],bq<c.heap.size)->p [I e,I f] c->Bf (decide (f<(v:Int))) (∃A,PX [a] U2 #[.agg #[.pointer g,I o],I f,I b] c (.bool A)/\Bf A (∃z,PX [a] QA #[.agg #[.pointer g,I o],I f] c (.pointer z)/\z.isSome=true/\∃m,Q1 [a] c z (0+2) [I m]/\Qz (f+1)/\AY [a] c λJ=>p [I (if m<e then m else e),I (f+1)] J/\s [I (if m<e then m else e),I (f+1)] J<s [I e,I f] c) (Qz (f+1)/\AY [a] c λP=>p [I e,I (f+1)] P/\s [I e,I (f+1)] P<s [I e,I f] c)) (Bf (decide (e<=100000000000000000)) (∃q,PX [a] QA #[.agg #[.pointer g,I o],I b] c (.pointer q)/\∃E,PX [a] QA #[.agg #[.pointer g,I o],I b] c (.pointer E)/\E.isSome=true/\∃C,Q1 [a] c E (0+0) [I C]/\q.isSome=true/\YK [a] c q (0+0) 1/\Qz (b+1)/\AY [a] (R5 c q (0+0) [I (if e>C then e else C)]) λK=>l [I (b+1)] K/\k [I (b+1)] K<k [I b] i) (Qz (b+1)/\AY [a] c λN=>l [I (b+1)] N/\k [I (b+1)] N<k [I b] i))))) (AR [a] i R (.tuple #[]))
theorem NN(a b):Jp (Nm a b) TE #[.agg #[.pointer a,I b]]:=eV [] false [(2,⟨[(13,Ri)],[],[1,12],[],[]⟩),(7,⟨[(3,Ri),(32,Ri)],[],[1,2,12,13,30,31],[],[]⟩),(13,⟨[(3,Ri),(52,Ri)],[],[1,2,12,13,51],[],[]⟩)] Tryz.func167 Qk Qk
def Dz(e:OA)(w:Wo)(R:RT):=e.isSome=true/\∃b0 v a5,Q1 [] w e (0+1) [S b0 v a5]/\∃(x:LQ) (P:LM),(AY [] w λb6=>x [I 0] b6)/\∀(j:Int) k,(∀bq∈([]:List Nat),bq<k.heap.size)->x [I j] k->Bf (decide (j<(v:Int))) (∃a3 a1,PX [] QN #[.pointer e,I j] k (.agg #[.pointer a3,I a1])/\AY [] k λa0=>Cz YD #[.agg #[.pointer a3,I a1]] a0 λa7 G=>a7=.returned (.tuple #[])/\Q9 [] a0 G/\Qz (j+1)/\AY [] G λH=>x [I (j+1)] H/\P [I (j+1)] H<P [I j] k) (e.isSome=true/\∃b4 D b7,Q1 [] k e (0+3) [S b4 D b7]/\∃(y:LQ) (T:LM),(AY [] k λb2=>y [I 0] b2)/\∀(d:Int) g,(∀bq∈([]:List Nat),bq<g.heap.size)->y [I d] g->Bf (decide (d<(D:Int))) (e.isSome=true/\∃u X c1,Q1 [] g e (0+3) [S u X c1]/\Ix u X d/\∃C r b3,Q1 [] g u (d.toNat*14+8+3) [S C r b3]/\∃(q:LQ) (s:LM),(AY [] g λb9=>q [I 0] b9)/\∀(a:Int) f,(∀bq∈([]:List Nat),bq<f.heap.size)->q [I a] f->Bf (decide (a<(r:Int))) (Ix C r a/\∃o,Q1 [] f C (a.toNat*1) [I o]/\∃Q U,((decide (o>0))=true->PX [] QN #[.pointer e,I a] f (.agg #[.pointer Q,I U]))/\∃z,((decide (o>0))=true->PX [] Xu #[.agg #[.pointer Q,I U],I d] f (.bool z))/\Bf ((decide (o>0))&&(!z)) (CI [] PO #[.pointer (u.map (·.add (d.toNat*14+8))),.agg #[I 3,I a,I 0]] f λc2 a9=>Qz (a+1)/\AY [] a9 λN=>q [I (a+1)] N/\s [I (a+1)] N<s [I a] f) (Qz (a+1)/\AY [] f λa2=>q [I (a+1)] a2/\s [I (a+1)] a2<s [I a] f)) (Qz (d+1)/\AY [] f λO=>y [I (d+1)] O/\T [I (d+1)] O<T [I d] g)) (e.isSome=true/\∃a6 A b8,Q1 [] g e (0+1) [S a6 A b8]/\∃(t:LQ) (p:LM),(AY [] g λc0=>t [I 0] c0)/\∀(c:Int) h,(∀bq∈([]:List Nat),bq<h.heap.size)->t [I c] h->Bf (decide (c<(A:Int))) (∃l m,PX [] QN #[.pointer e,I c] h (.agg #[.pointer l,I m])/\NB h λb=>AX [] [b] h λL=>Cz YD #[.agg #[.pointer l,I m]] L λb5 a4=>b5=.returned (.tuple #[])/\Q9 [b] L a4/\AY [b] a4 λM=>Cz TE #[.agg #[.pointer l,I m]] M λb1 i=>b1=.returned (.tuple #[])/\Q9 [b] M i/\∃F,PX [b] YM #[.agg #[.pointer l,I m]] i (.pointer F)/\F.isSome=true/\∃n,Q1 [b] i F (0+1) [I n]/\∃B,((n != (-1))=true->PX [b] YM #[.agg #[.pointer l,I m]] i (.pointer B))/\((n != (-1))=true->B.isSome=true)/\∃K,((n != (-1))=true->Q1 [b] i B (0+1) [I K])/\∃E,((n != (-1))=true->PX [b] JA #[.agg #[.pointer l,I m],I K] i (.bool E))/\Bf ((n != (-1))&&(!E)) (AY [b] i λV=>Cz Ze #[.agg #[.pointer l,I m]] V λa8 Z=>a8=.returned (.tuple #[])/\Q9 [b] V Z/\Qz (c+1)/\AY [b] Z λJ=>t [I (c+1)] J/\p [I (c+1)] J<p [I c] h) (Qz (c+1)/\AY [b] i λY=>t [I (c+1)] Y/\p [I (c+1)] Y<p [I c] h)) (AR [] h R (.tuple #[]))))
theorem DH(a):Jp (Dz a) Z2 #[.pointer a]:=eV [] false [(1,⟨[(14,Ri)],[],[0,13],[],[]⟩),(6,⟨[(27,Ri)],[],[0,26],[],[]⟩),(10,⟨[(42,Ri)],[],[0,3,4,26,27,40,41],[],[]⟩),(17,⟨[(68,Ri)],[],[0,67],[],[]⟩)] Tryz.func67 Qk Qk
def FB(A:Int)(s:OA)(t m:Nat)(f:OA)(p x:Nat)(o:OA)(v h:Nat)(z:Int)(w:Wo)(R:RT):=NB w λa=>∀b c,Q0 [] w c->w.heap.size<=b->c.heap[b]? = some (Obj.cells ([I z]:LV).toArray Qa (0,0))->b∉([a]:List Nat)->NB c λd=>CVx [a] [a,d] Yc #[Wv A s t m f p x o v h,.func (.func J9) #[] #[.pointer ((some (Addr.mk b 0 none)).map (·.add 0))]] c λi q k j g r n e B l y u=>AR [a,d] u R (.tuple #[Wv i q k j g r n e B l,I y])
theorem B5(a b c d e f g h i j k):Jp (FB a b c d e f g h i j k) ML #[Wv a b c d e f g h i j,I k]:=eV [3] false [] Tryz.func17 Qk Qk
def Nq(s:OA)(r n:Nat)(w:Wo)(R:RT):=NB w λa=>AX [] [a] w λb=>Cz VN #[S s r n] b λf d=>∃c,f=.returned (.pointer c)/\Q9 [a] b d/\CW [a] Vq #[.pointer c] d λo i l p e h g m q j k=>AR [a] k R (Wv o i l p e h g m q j)
theorem NP(a b c):Jp (Nq a b c) TJ #[S a b c]:=eV [] false [] Tryz.func26 Qk Qk
def zgq(d:OA)(c e:Nat)(a:Int)(w:Wo)(R:RT):=Bf (decide (a<(c:Int))) (Ix d c a/\∃b,Q1 [] w d (a.toNat*1) [.int .u8 b]/\Qz b/\R (I b) w) (Qz (a*37)/\(251:Int)≠0/\R (I (Int.tmod (a*37) 251)) w)
theorem zic(a b c d):YX (zgq a b c d) TG #[S a b c,I d]:=pV [] false [] Tryz.func27 Qk Qk
def C9(A:Int)(t:OA)(u n:Nat)(f:OA)(q y:Nat)(p:OA)(x h:Nat)(l:Int)(w:Wo)(R:RT):=NB w λa=>∀b c,Q0 [] w c->w.heap.size<=b->c.heap[b]? = some (Obj.cells ([I l]:LV).toArray Qa (0,0))->b∉([a]:List Nat)->NB c λd=>CVx [a] [a,d] Yc #[Wv A t u n f q y p x h,.func (.func JY) #[] #[.pointer ((some (Addr.mk b 0 none)).map (·.add 0))]] c λi r k j g s o e B m z v=>AR [a,d] v R (.tuple #[Wv i r k j g s o e B m,I z])
theorem CU(a b c d e f g h i j k):Jp (C9 a b c d e f g h i j k) OE #[Wv a b c d e f g h i j,I k]:=eV [3] false [] Tryz.func30 Qk Qk
def C7(D:Int)(x:OA)(y q:Nat)(h:OA)(t B:Nat)(s:OA)(A j:Nat)(n o:Int)(w:Wo)(R:RT):=NB w λa=>∀c e,Q0 [] w e->w.heap.size<=c->e.heap[c]? = some (Obj.cells ([I n]:LV).toArray Qa (0,0))->c∉([a]:List Nat)->∀d b,Q0 [a] e b->e.heap.size<=d->b.heap[d]? = some (Obj.cells ([I o]:LV).toArray Qa (0,0))->d∉([a]:List Nat)->NB b λf=>CVx [a] [a,f] Yc #[Wv D x y q h t B s A j,.func (.func JW) #[] #[.pointer ((some (Addr.mk c 0 none)).map (·.add 0)),.pointer ((some (Addr.mk d 0 none)).map (·.add 0))]] b λk u m l i v r g E p C z=>AR [a,f] z R (.tuple #[Wv k u m l i v r g E p,I C])
theorem CS(a b c d e f g h i j k l):Jp (C7 a b c d e f g h i j k l) OC #[Wv a b c d e f g h i j,I k,I l]:=eV [4,5] false [] Tryz.func32 Qk Qk
def zcf(D:Int)(v:OA)(x p:Nat)(h:OA)(s A:Nat)(r:OA)(z j:Nat)(n C:Int)(w:Wo)(R:RT):=NB w λa=>∀c e,Q0 [] w e->w.heap.size<=c->e.heap[c]? = some (Obj.cells ([I n]:LV).toArray Qa (0,0))->c∉([a]:List Nat)->∀d b,Q0 [a] e b->e.heap.size<=d->b.heap[d]? = some (Obj.cells ([I C]:LV).toArray Qa (0,0))->d∉([a]:List Nat)->NB b λf=>CVx [a] [a,f] Yc #[Wv D v x p h s A r z j,.func (.func Ur) #[] #[.pointer ((some (Addr.mk d 0 none)).map (·.add 0)),.pointer ((some (Addr.mk c 0 none)).map (·.add 0))]] b λk t m l i u q g E o B y=>AR [a,f] y R (.tuple #[Wv k t m l i u q g E o,I B])
theorem zdb(a b c d e f g h i j k l):Jp (zcf a b c d e f g h i j k l) PP #[Wv a b c d e f g h i j,I k,I l]:=eV [4,5] false [] Tryz.func34 Qk Qk
def C8(C:Int)(v:OA)(x p:Nat)(h:OA)(s A:Nat)(r:OA)(z j:Nat)(n E:Int)(w:Wo)(R:RT):=NB w λa=>∀c e,Q0 [] w e->w.heap.size<=c->e.heap[c]? = some (Obj.cells ([I n]:LV).toArray Qa (0,0))->c∉([a]:List Nat)->∀d b,Q0 [a] e b->e.heap.size<=d->b.heap[d]? = some (Obj.cells ([I E]:LV).toArray Qa (0,0))->d∉([a]:List Nat)->NB b λf=>CVx [a] [a,f] Yc #[Wv C v x p h s A r z j,.func (.func JX) #[] #[.pointer ((some (Addr.mk d 0 none)).map (·.add 0)),.pointer ((some (Addr.mk c 0 none)).map (·.add 0))]] b λk t m l i u q g D o B y=>AR [a,f] y R (.tuple #[Wv k t m l i u q g D o,I B])
theorem CT(a b c d e f g h i j k l):Jp (C8 a b c d e f g h i j k l) OD #[Wv a b c d e f g h i j,I k,I l]:=eV [4,5] false [] Tryz.func36 Qk Qk
def C6(K:Int)(C:OA)(D v:Nat)(n:OA)(z G:Nat)(y:OA)(E p:Nat)(t M J:Int)(w:Wo)(R:RT):=NB w λa=>∀f j,Q0 [] w j->w.heap.size<=f->j.heap[f]? = some (Obj.cells ([I t]:LV).toArray Qa (0,0))->f∉([a]:List Nat)->∀h e,Q0 [a] j e->j.heap.size<=h->e.heap[h]? = some (Obj.cells ([I M]:LV).toArray Qa (0,0))->h∉([a]:List Nat)->∀i d,Q0 [a] e d->e.heap.size<=i->d.heap[i]? = some (Obj.cells ([I J]:LV).toArray Qa (0,0))->i∉([a]:List Nat)->NB d λc=>∀b k,Q0 [a] d k->d.heap.size<=b->k.heap[b]? = some (Obj.cells ([I 0]:LV).toArray Qa (0,0))->b∉([a,c]:List Nat)->YK [a,c] k (some (Addr.mk b 0 none)) 0 1/\CV [a,c] Yc #[Wv K C D v n z G y E p,.func (.func JV) #[] #[.pointer ((some (Addr.mk h 0 none)).map (·.add 0)),.pointer ((some (Addr.mk i 0 none)).map (·.add 0)),.pointer ((some (Addr.mk f 0 none)).map (·.add 0)),.pointer ((some (Addr.mk b 0 none)).map (·.add 0))]] (R5 k (some (Addr.mk b 0 none)) 0 [I (-1)]) λq A s r o B x m L u H g=>NB g λF=>∃l,Q1 [a,c] g (some (Addr.mk b 0 none)) 0 [I l]/\Q1 [a,c] g (some (Addr.mk b 0 none)) 0 [I l]/\AR [a,c] g R (.tuple #[Wv q A s r o B x m L u,I l,I H])
theorem CR(a b c d e f g h i j k l m):Jp (C6 a b c d e f g h i j k l m) OB #[Wv a b c d e f g h i j,I k,I l,I m]:=eV [5,6,7,11] false [] Tryz.func38 Qk Qk
def zgp(g0:OA)(H h7:Nat)(Q:OA)(C Y:Nat)(w:Wo)(R:RT):=Bf ((decide ((H:Int)>1048576))||(decide ((C:Int)>1048576))) (AR [] w R (.bool true)) (CW [] TJ #[S g0 H h7] w λo j p m q n i k l h B=>NB B λa=>∃Z,PX [] TG #[S Q C Y,I 0] B (I Z)/\(6:Int)≠0/\∃e,PX [] TG #[S Q C Y,I 1] B (I e)/\(20:Int)≠0/\∃(A:LQ) (v:LM),(AX [] [a] B λg4=>A [I (Int.tmod Z 6),I 0] g4)/\∀(f d:Int) u,(∀bq∈[a],bq<u.heap.size)->A [I f,I d] u->Bf (decide (d<5)) (CV [a] OE #[Wv o j p m q n i k l h,I f] u λg8 e4 c5 k8 f9 k3 l3 f0 l4 h3 f7 b2=>NB b2 λb=>CVx [a] [a,b] V7 #[Wv o j p m q n i k l h,I f] b2 λp0 m3 p9 m8 p1 p6 m6 n2 q1 m1 e7 y=>NB y λc=>∃(x:List Va->List Nat->Wo->Prop),(Bf (d==1) ((4:Int)≠0/\CVx [a,b] [a,b,c] OC #[Wv o j p m q n i k l h,I f,I (Int.tmod (Int.tmod e 20) 4)] y λj2 d5 e9 c1 d0 h0 k2 c2 d3 g1 c7 e1=>(4:Int)≠0/\CV [a,b,c] V4 #[Wv o j p m q n i k l h,I f,I (Int.tmod (Int.tmod e 20) 4)] e1 λn0 n4 q4 n9 n6 p3 n8 n5 l7 n7 k0 k1=>AY [a,b,c] k1 λl5=>x [I f,I c7,I k0,I j2,S d5 e9 c1,S d0 h0 k2,S c2 d3 g1] [] l5) (Bf (d==2) ((15:Int)≠0/\Qz (1+(Int.tmod (Int.tmod e 20) 15))/\CVx [a,b] [a,b,c] PP #[Wv o j p m q n i k l h,I f,I (1+(Int.tmod (Int.tmod e 20) 15))] y λf3 l2 e3 d1 d7 h6 d6 d4 j8 l0 k7 h4=>(15:Int)≠0/\Qz (1+(Int.tmod (Int.tmod e 20) 15))/\CV [a,b,c] VL #[Wv o j p m q n i k l h,I f,I (1+(Int.tmod (Int.tmod e 20) 15))] h4 λl9 m0 m9 p8 p4 l6 q2 p2 q5 q3 f8 d9=>AY [a,b,c] d9 λk4=>x [I f,I k7,I f8,I f3,S l2 e3 d1,S d7 h6 d6,S d4 j8 l0] [] k4) (Bf (d==3) (Qz ((Int.tmod e 20)-10)/\CVx [a,b] [a,b,c] OD #[Wv o j p m q n i k l h,I f,I ((Int.tmod e 20)-10)] y λj7 e2 e8 e5 g5 g7 k9 h1 h5 d8 c0 c8=>Qz ((Int.tmod e 20)-10)/\CV [a,b,c] V6 #[Wv o j p m q n i k l h,I f,I ((Int.tmod e 20)-10)] c8 λp7 m5 m4 l8 p5 q0 m2 n1 n3 m7 g6 j1=>AY [a,b,c] j1 λc3=>x [I f,I c0,I g6,I j7,S e2 e8 e5,S g5 g7 k9,S h1 h5 d8] [] c3) (Bf (d==4) ((4:Int)≠0/\Qz ((Int.tmod e 20)-10)/\AX [a,b] [a,b,c] y λa0=>Cz OB #[Wv o j p m q n i k l h,I (Int.tmod (Int.tmod e 20) 4),I ((Int.tmod e 20)-10),I 15] a0 λj9 a7=>∃b0 b4 a4 a2 a9 a8 a3 P a5 T a6 X,j9=.returned (.tuple #[Wv b0 b4 a4 a2 a9 a8 a3 P a5 T,I a6,I X])/\Q9 [a,b,c] a0 a7/\(4:Int)≠0/\Qz ((Int.tmod e 20)-10)/\AY [a,b,c] a7 λb9=>Cz YO #[Wv o j p m q n i k l h,I (Int.tmod (Int.tmod e 20) 4),I ((Int.tmod e 20)-10),I 15] b9 λj6 b3=>∃d2 k5 l1 e6 j4 f4 h2 h8 k6 f5 j3 a1,j6=.returned (.tuple #[Wv d2 k5 l1 e6 j4 f4 h2 h8 k6 f5,I j3,I a1])/\Q9 [a,b,c] b9 b3/\AY [a,b,c] b3 λj5=>x [I a6,I X,I a1,I b0,S b4 a4 a2,S a9 a8 a3,S P a5 T] [] j5) (AX [a,b] [a,b,c] y λg2=>x [I f,I f7,I e7,I g8,S e4 c5 k8,S f9 k3 l3,S f0 l4 h3] [] g2)))))/\∀(r z E f2:Int) (h9:OA) (c4 e0:Nat) (D:OA) (b7 g9:Nat) (F:OA) (b8 j0:Nat) (g:Wo),(∀bq∈[a,b,c],bq<g.heap.size)->x [I r,I z,I E,I f2,S h9 c4 e0,S D b7 g9,S F b8 j0] [] g->Bf (z != E) (AR [a,b,c] g R (.bool false)) (Bf (z != 0) (Qz (d+1)/\AY [a,b,c] g λb6=>A [I r,I (d+1)] b6/\v [I r,I (d+1)] b6<v [I f,I d] u) (Ix D b7 r/\∃K J L b1 c9 t f6 c6 f1,Q1 [a,b,c] g D (r.toNat*9) [I K,I J,I L,I b1,I c9,I t,I f6,I c6,I f1]/\NB g λM=>Bf (K != 1) (Qz (d+1)/\AX [a,b,c] [a,b,c,M] g λb5=>A [I r,I (d+1)] b5/\v [I r,I (d+1)] b5<v [I f,I d] u) (Ix F b8 J/\∃G U g3,Q1 [a,b,c] g F (Int.toNat J*14+13) [S G U g3]/\Ix G U L/\∃s,Q1 [a,b,c] g G (Int.toNat L*5+0) [I s]/\Qz (t-s)/\∃O,((decide (t-s<0))=false->PX [a,b,c] Za #[I b1] g (I O))/\∃N,((decide (t-s<0))=false->PX [a,b,c] U8 #[I O] g (I N))/\Bf ((decide (t-s<0))||(decide (t-s>N))) (AR [a,b,c] g R (.bool false)) (Qz (d+1)/\AX [a,b,c] [a,b,c,M] g λV=>A [I r,I (d+1)] V/\v [I r,I (d+1)] V<v [I f,I d] u))))) (AR [a] u R (.bool true)))
theorem zhh(a b c d e f):Jp (zgp a b c d e f) H9 #[S a b c,S d e f]:=eV [] false [(7,⟨[(6,Ri),(8,Ri)],[],[5,7],[],[]⟩),(1000024,⟨[(6,Ri),(10,Ri),(12,Ri)],[(1,[Ri,Rs,Rs,Rs])],[5,7,8,9],[],[]⟩)] Tryz.func7 Qk Qk
def Gn(c:OA)(e:Int)(w:Wo)(R:RT):=c.isSome=true/\∃f a d,Q1 [] w c (0+1) [S f a d]/\Qz ((a:Int)-1)/\∃b,PX [] QC #[I e,I 0,I ((a:Int)-1)] w (.bool b)/\R (.bool b) w
theorem GC(a b):YX (Gn a b) JZ #[.pointer a,I b]:=pV [] false [] Tryz.func78 Qk Qk
def Dw(a d:OA)(w:Wo)(R:RT):=∃l,Q1 [] w d 0 [I l]/\∃f,PX [] JZ #[.pointer a,I l] w (.bool f)/\Bf (!f) (AR [] w R (.iface Qi (.agg #[I 1]))) (a.isSome=true/\∃e g n,Q1 [] w a (0+1) [S e g n]/\∃b,Q1 [] w d 0 [I b]/\Ix e g b/\∃c,Q1 [] w e (Int.toNat b*5+1) [I c]/\Bf (c==(-1)) (AR [] w R (.iface Qi (.agg #[I 6]))) (∃h,Q1 [] w d 0 [I h]/\∃j m,PX [] QN #[.pointer a,I h] w (.agg #[.pointer j,I m])/\AY [] w λi=>Cz Ze #[.agg #[.pointer j,I m]] i λo k=>o=.returned (.tuple #[])/\Q9 [] i k/\AR [] k R .nilIface))
theorem DG(a b):Jp (Dw a b) J9 #[.pointer a,.pointer b]:=eV [] false [] Tryz.func77 Qk Qk
def zki(e:OA)(b g:Nat)(w:Wo)(R:RT):=∃(c:LP) (f:LN),c [I 0]/\∀(a:Int),c [I a]->Bf (decide (a<(b:Int))) (Ix e b a/\∃d,Q1 [] w e (a.toNat*1) [I d]/\Bf (decide (d>50000000000000000)) (R (.bool false) w) (Qz (a+1)/\c [I (a+1)]/\f [I (a+1)]<f [I a])) (R (.bool true) w)
theorem zmc(a b c):YX (zki a b c) ZT #[S a b c]:=pV [] false [(2,⟨[(7,Ri)],[],[5,6],[],[]⟩)] Tryz.func196 Qk Qk
def FF(j:OA)(w:Wo)(R:RT):=j.isSome=true/\∃Z,Q1 [] w j (0+0) [I Z]/\NB w λP=>∃b2,(∀Q,Q0 [] w Q->Q.heap[P]? = some (Obj.cells ([I Z]:LV).toArray Qa (0,0))->PX [] ZT #[S (some (Addr.mk P 0 none)) 1 1] Q (.bool b2))/\j.isSome=true/\∃B r c9,Q1 [] w j (0+1) [S B r c9]/\∃(t:LP) (n:LN),t [.bool b2,I 0]/\∀(h:Bool) (c:Int),t [.bool h,I c]->Bf (decide (c<(r:Int))) (Ix B r c/\∃e0 d5 e4 b1 a0,Q1 [] w B (c.toNat*5) [.bool e0,I d5,I e4,I b1,I a0]/\NB w λe5=>(h=true->NB w λN=>∃H,(h=true->∀D,Q0 [] w D->D.heap[N]? = some (Obj.cells ([I b1,I a0]:LV).toArray Qa (0,0))->PX [] ZT #[S (some (Addr.mk N 0 none)) 2 2] D (.bool H))/\Qz (c+1)/\t [.bool (h&&H),I (c+1)]/\n [.bool (h&&H),I (c+1)]<n [.bool h,I c])/\((h=true->False)->Qz (c+1)/\t [.bool false,I (c+1)]/\n [.bool false,I (c+1)]<n [.bool h,I c])) (j.isSome=true/\∃E v c2,Q1 [] w j (0+2) [S E v c2]/\∃(z:LP) (u:LN),z [.bool h,I 0]/\∀(i:Bool) (d:Int),z [.bool i,I d]->Bf (decide (d<(v:Int))) (Ix E v d/\∃c5 b7 b6 e8 b5 a4 a6 Y c3,Q1 [] w E (d.toNat*9) [I c5,I b7,I b6,I e8,I b5,I a4,I a6,I Y,I c3]/\NB w λe7=>(i=true->NB w λT=>∃X,(i=true->∀K,Q0 [] w K->K.heap[T]? = some (Obj.cells ([I a4,I a6,I Y]:LV).toArray Qa (0,0))->PX [] ZT #[S (some (Addr.mk T 0 none)) 3 3] K (.bool X))/\Qz (d+1)/\z [.bool (i&&X),I (d+1)]/\u [.bool (i&&X),I (d+1)]<u [.bool i,I d])/\((i=true->False)->Qz (d+1)/\z [.bool false,I (d+1)]/\u [.bool false,I (d+1)]<u [.bool i,I d])) (j.isSome=true/\∃L p e3,Q1 [] w j (0+3) [S L p e3]/\∃(y:LP) (o:LN),y [.bool i,I 0]/\∀(k:Bool) (a:Int),y [.bool k,I a]->Bf (decide (a<(p:Int))) (Ix L p a/\∃(d7:Bool) (d8:Int) (c7:ByteArray) (d2 d1 e9 b3 a5 d4 d3 c0:Int) (d6:OA) (b8 f0:Nat) (e2:OA) (d0 e6:Nat) (m:OA) (l c4:Nat),Q1 [] w L (a.toNat*14) [.bool d7,I d8,.string c7,I d2,I d1,I e9,I b3,I a5,I d4,I d3,I c0,S d6 b8 f0,S e2 d0 e6,S m l c4]/\NB w λd9=>(k=true->NB w λO=>∃a7,(k=true->∀V,Q0 [] w V->V.heap[O]? = some (Obj.cells ([I a5]:LV).toArray Qa (0,0))->PX [] ZT #[S (some (Addr.mk O 0 none)) 1 1] V (.bool a7))/\∃(q:LP) (x:LN),q [.bool (k&&a7),I 0]/\∀(g:Bool) (b:Int),q [.bool g,I b]->Bf (decide (b<(l:Int))) (Ix m l b/\∃a1 b4 a9 c1 a3,Q1 [] w m (b.toNat*5) [I a1,.bool b4,I a9,I c1,I a3]/\NB w λc8=>(g=true->NB w λF=>∃U,(g=true->∀J,Q0 [] w J->J.heap[F]? = some (Obj.cells ([I a1,I a9,I a3]:LV).toArray Qa (0,0))->PX [] ZT #[S (some (Addr.mk F 0 none)) 3 3] J (.bool U))/\Qz (b+1)/\q [.bool (g&&U),I (b+1)]/\x [.bool (g&&U),I (b+1)]<x [.bool g,I b])/\((g=true->False)->Qz (b+1)/\q [.bool false,I (b+1)]/\x [.bool false,I (b+1)]<x [.bool g,I b])) (Qz (a+1)/\y [.bool g,I (a+1)]/\o [.bool g,I (a+1)]<o [.bool k,I a]))/\((k=true->False)->∃(A:LP) (s:LN),A [.bool false,I 0]/\∀(f:Bool) (e:Int),A [.bool f,I e]->Bf (decide (e<(l:Int))) (Ix m l e/\∃a2 e1 a8 b9 b0,Q1 [] w m (e.toNat*5) [I a2,.bool e1,I a8,I b9,I b0]/\NB w λc6=>(f=true->NB w λG=>∃C,(f=true->∀M,Q0 [] w M->M.heap[G]? = some (Obj.cells ([I a2,I a8,I b0]:LV).toArray Qa (0,0))->PX [] ZT #[S (some (Addr.mk G 0 none)) 3 3] M (.bool C))/\Qz (e+1)/\A [.bool (f&&C),I (e+1)]/\s [.bool (f&&C),I (e+1)]<s [.bool f,I e])/\((f=true->False)->Qz (e+1)/\A [.bool false,I (e+1)]/\s [.bool false,I (e+1)]<s [.bool f,I e])) (Qz (a+1)/\y [.bool f,I (a+1)]/\o [.bool f,I (a+1)]<o [.bool k,I a]))) (R (.bool k) w)))
theorem BJ(a):YX (FF a) Yj #[.pointer a]:=pV [] false [(3,⟨[(3,.bool),(23,Ri)],[],[0,21,22],[],[]⟩),(8,⟨[(3,.bool),(42,Ri)],[],[0,40,41],[],[]⟩),(13,⟨[(3,.bool),(63,Ri)],[],[61,62],[],[]⟩),(17,⟨[(3,.bool),(77,Ri)],[],[61,62,63,75,76],[],[]⟩)] Tryz.func96 Qk Qk
def Er(k:OA)(l:Int)(w:Wo)(R:RT):=k.isSome=true/\∃j g p,Q1 [] w k (0+2) [S j g p]/\∃(d:LP) (e:LN),d [I 0,I 0,I 0]/\∀(c b a:Int),d [I c,I b,I a]->Bf (decide (a<(g:Int))) (Ix j g a/\∃h q i t o n s m f,Q1 [] w j (a.toNat*9) [I h,I q,I i,I t,I o,I n,I s,I m,I f]/\NB w λr=>Bf ((h==1)&&(i==l)) (Qz (c+f)/\Qz (b+1)/\Qz (a+1)/\d [I (c+f),I (b+1),I (a+1)]/\e [I (c+f),I (b+1),I (a+1)]<e [I c,I b,I a]) (Qz (a+1)/\d [I c,I b,I (a+1)]/\e [I c,I b,I (a+1)]<e [I c,I b,I a])) (R (.tuple #[I c,I b]) w)
theorem F7(a b):YX (Er a b) Xs #[.pointer a,I b]:=pV [] false [(3,⟨[(6,Ri),(7,Ri),(15,Ri)],[],[1,13,14],[],[]⟩)] Tryz.func105 Qk Qk
def GQ(m:OA)(o:Int)(w:Wo)(R:RT):=∀a b,Q0 [] w b->w.heap.size<=a->b.heap[a]? = some (Obj.cells ([.pointer m]:LV).toArray zbg (0,0))->a∉([]:List Nat)->AY [] b λe=>Cz Yw #[I o] e λl f=>∃(h:Fn) (c:Array Va) (j:Array Va),l=.returned (.func h c j)/\Q9 [] e f/\AY [] f λi=>Cz L4 #[.func h c j,.func (.func Yp) #[] #[.pointer ((some (Addr.mk a 0 none)).map (·.add 0))]] i λn d=>∃(g:Int) (k:Bool),n=.returned (.tuple #[I g,.bool k])/\Q9 [] i d/\AR [] d R (I g)
theorem H5(a b):Jp (GQ a b) XQ #[.pointer a,I b]:=eV [2] false [] Tryz.func106 Qk Qk
def FA(a d:OA)(w:Wo)(R:RT):=∃B,Q1 [] w d 0 [I B]/\∃l,PX [] Zp #[.pointer a,I B] w (.bool l)/\Bf (!l) (AR [] w R (.iface Qi (.agg #[I 2]))) (a.isSome=true/\∃c J N,Q1 [] w a (0+2) [S c J N]/\∃b,Q1 [] w d 0 [I b]/\Ix c J b/\∃i,Q1 [] w c (Int.toNat b*9+0) [I i]/\Bf (i != 2) (AR [] w R (.iface Qi (.agg #[I 6]))) (∃k,PX [] Yj #[.pointer a] w (.bool k)/\Bf (!k) (AR [] w R (.iface Qi (.agg #[I 10]))) (∃g,Q1 [] w c (Int.toNat b*9+2) [I g]/\∃P h,PX [] Xs #[.pointer a,I g] w (.tuple #[I P,I h])/\Bf (decide (h>0)) (∃z,Q1 [] w d 0 [I z]/\∃t,PX [] YF #[.pointer a,I z] w (I t)/\CI [] XQ #[.pointer a,I t] w λC j=>∃G,Q1 [] j d 0 [I G]/\∃o,Q1 [] j c (Int.toNat b*9+1) [I o]/\AY [] j λD=>Cz Y3 #[.pointer a,I G,I o,I C] D λT e=>T=.returned (.tuple #[])/\Q9 [] D e/\YK [] e c (Int.toNat b*9+0) 1/\∃H F,PX [] QN #[.pointer a,I C] (R5 e c (Int.toNat b*9+0) [I 1]) (.agg #[.pointer H,I F])/\AY [] (R5 e c (Int.toNat b*9+0) [I 1]) λA=>Cz Ze #[.agg #[.pointer H,I F]] A λO n=>O=.returned (.tuple #[])/\Q9 [] A n/\AY [] n λq=>Cz Z2 #[.pointer a] q λM m=>M=.returned (.tuple #[])/\Q9 [] q m/\AR [] m R .nilIface) (∃u,Q1 [] w d 0 [I u]/\∃v,Q1 [] w c (Int.toNat b*9+1) [I v]/\AY [] w λr=>Cz Y3 #[.pointer a,I u,I v,I g] r λL f=>L=.returned (.tuple #[])/\Q9 [] r f/\YK [] f c (Int.toNat b*9+0) 1/\∃x y,PX [] QN #[.pointer a,I g] (R5 f c (Int.toNat b*9+0) [I 1]) (.agg #[.pointer x,I y])/\AY [] (R5 f c (Int.toNat b*9+0) [I 1]) λE=>Cz Ze #[.agg #[.pointer x,I y]] E λU s=>U=.returned (.tuple #[])/\Q9 [] E s/\AY [] s λp=>Cz Z2 #[.pointer a] p λQ K=>Q=.returned (.tuple #[])/\Q9 [] p K/\AR [] K R .nilIface))))
theorem B4(a b):Jp (FA a b) JY #[.pointer a,.pointer b]:=eV [] false [] Tryz.func103 Qk Qk
def Eu(e:OA)(b:Int)(w:Wo)(R:RT):=e.isSome=true/\∃c l n,Q1 [] w e (0+2) [S c l n]/\Ix c l b/\∃k,Q1 [] w c (b.toNat*9+2) [I k]/\∃h g,PX [] QN #[.pointer e,I k] w (.agg #[.pointer h,I g])/\NB w λa=>∃f,PX [] YM #[.agg #[.pointer h,I g]] w (.pointer f)/\f.isSome=true/\∃d,Q1 [] w f (0+1) [I d]/\Bf (d==b) (AX [] [a] w λi=>Cz Ze #[.agg #[.pointer h,I g]] i λm j=>m=.returned (.tuple #[])/\Q9 [a] i j/\AR [a] j R (.tuple #[])) (AR [] w R (.tuple #[]))
theorem EJ(a b):Jp (Eu a b) Jz #[.pointer a,I b]:=eV [] false [] Tryz.func116 Qk Qk
def Fy(b e g:OA)(w:Wo)(R:RT):=∃Q,Q1 [] w e 0 [I Q]/\∃d,PX [] Zp #[.pointer b,I Q] w (.bool d)/\((!d)=false->b.isSome=true)/\∃J N L,((!d)=false->Q1 [] w b (0+3) [S J N L])/\∃O,((!d)=false->Q1 [] w g 0 [I O])/\∃l,((!d)=false->PX [] Xk #[S J N L,I O] w (.bool l))/\Bf ((!d)||(!l)) (AR [] w R (.iface Qi (.agg #[I 2]))) (∃q,PX [] Yj #[.pointer b] w (.bool q)/\Bf (!q) (AR [] w R (.iface Qi (.agg #[I 10]))) (b.isSome=true/\∃h r H,Q1 [] w b (0+2) [S h r H]/\∃f,Q1 [] w e 0 [I f]/\Ix h r f/\∃B j i X o E T A K,Q1 [] w h (Int.toNat f*9) [I B,I j,I i,I X,I o,I E,I T,I A,I K]/\NB w λa=>Q1 [] w h (Int.toNat f*9) [I B,I j,I i,I X,I o,I E,I T,I A,I K]/\Q1 [] w e 0 [I f]/\Q1 [] w b (0+2) [S h r H]/\∃p,Q1 [] w g 0 [I p]/\Bf (j==p) (AR [] w R .nilIface) (∃x,Q1 [] w e 0 [I x]/\AX [] [a] w λC=>Cz Jz #[.pointer b,I x] C λY c=>Y=.returned (.tuple #[])/\Q9 [a] C c/\∃u,Q1 [a] c g 0 [I u]/\∃n,PX [a] Yo #[.pointer b,I o,I u] c (I n)/\∃m,PX [a] Ua #[I n,I i] c (.bool m)/\Bf (!m) (CI [a] TB #[I n] c λa2 k=>∃M,Q1 [a] k e 0 [I M]/\∃z,Q1 [a] k g 0 [I z]/\AY [a] k λP=>Cz Y3 #[.pointer b,I M,I z,I a2] P λa1 v=>a1=.returned (.tuple #[])/\Q9 [a] P v/\AY [a] v λD=>Cz Z2 #[.pointer b] D λa0 s=>a0=.returned (.tuple #[])/\Q9 [a] D s/\AR [a] s R .nilIface) (∃t,Q1 [a] c e 0 [I t]/\∃U,Q1 [a] c g 0 [I U]/\AY [a] c λF=>Cz Y3 #[.pointer b,I t,I U,I i] F λZ y=>Z=.returned (.tuple #[])/\Q9 [a] F y/\AY [a] y λV=>Cz Z2 #[.pointer b] V λa3 G=>a3=.returned (.tuple #[])/\Q9 [a] V G/\AR [a] G R .nilIface))))
theorem B2(a b c):Jp (Fy a b c) JW #[.pointer a,.pointer b,.pointer c]:=eV [] false [] Tryz.func114 Qk Qk
def Nh(a h m:OA)(w:Wo)(R:RT):=∃l,Q1 [] w h 0 [I l]/\∃d,PX [] YN #[I l] w (.bool d)/\Bf (!d) (AR [] w R (.iface Qi (.agg #[I 1]))) (∃k,Q1 [] w m 0 [I k]/\∃f,PX [] Zp #[.pointer a,I k] w (.bool f)/\Bf (!f) (AR [] w R (.iface Qi (.agg #[I 2]))) (∃e,PX [] Yj #[.pointer a] w (.bool e)/\Bf (!e) (AR [] w R (.iface Qi (.agg #[I 10]))) (a.isSome=true/\∃c p r,Q1 [] w a (0+2) [S c p r]/\∃b,Q1 [] w m 0 [I b]/\∃o,Q1 [] w h 0 [I o]/\Ix c p b/\YK [] w c (Int.toNat b*9+4) 1/\AY [] (R5 w c (Int.toNat b*9+4) [I o]) λj=>Cz U0 #[.pointer a] j λq i=>q=.returned (.tuple #[])/\Q9 [] j i/\AY [] i λn=>Cz Z2 #[.pointer a] n λs g=>s=.returned (.tuple #[])/\Q9 [] n g/\AR [] g R .nilIface)))
theorem NL(a b c):Jp (Nh a b c) Ur #[.pointer a,.pointer b,.pointer c]:=eV [] false [] Tryz.func121 Qk Qk
def Fz(d o f:OA)(w:Wo)(R:RT):=∃x,Q1 [] w o 0 [I x]/\∃j,PX [] JF #[I x] w (.bool j)/\Bf (!j) (AR [] w R (.iface Qi (.agg #[I 1]))) (∃v,Q1 [] w f 0 [I v]/\∃l,PX [] Zp #[.pointer d,I v] w (.bool l)/\Bf (!l) (AR [] w R (.iface Qi (.agg #[I 2]))) (∃k,PX [] Yj #[.pointer d] w (.bool k)/\Bf (!k) (AR [] w R (.iface Qi (.agg #[I 10]))) (d.isSome=true/\∃b A C,Q1 [] w d (0+2) [S b A C]/\∃a,Q1 [] w f 0 [I a]/\Ix b A a/\∃c,Q1 [] w o 0 [I c]/\YK [] w b (Int.toNat a*9+3) 1/\∃i,Q1 [] (R5 w b (Int.toNat a*9+3) [I c]) b (Int.toNat a*9+0) [I i]/\Bf (i==1) (∃u,Q1 [] (R5 w b (Int.toNat a*9+3) [I c]) f 0 [I u]/\∃e,PX [] Xt #[.pointer d,I u] (R5 w b (Int.toNat a*9+3) [I c]) (I e)/\∃h,Q1 [] (R5 w b (Int.toNat a*9+3) [I c]) b (Int.toNat a*9+5) [I h]/\Qz (h-e)/\∃t,Q1 [] (R5 w b (Int.toNat a*9+3) [I c]) f 0 [I t]/\∃n,PX [] Jb #[.pointer d,I t] (R5 w b (Int.toNat a*9+3) [I c]) (I n)/\∃g,PX [] UN #[I (h-e),I n] (R5 w b (Int.toNat a*9+3) [I c]) (I g)/\Qz (e+g)/\YK [] (R5 w b (Int.toNat a*9+3) [I c]) b (Int.toNat a*9+5) 1/\∃y,Q1 [] (R5 (R5 w b (Int.toNat a*9+3) [I c]) b (Int.toNat a*9+5) [I (e+g)]) f 0 [I y]/\AY [] (R5 (R5 w b (Int.toNat a*9+3) [I c]) b (Int.toNat a*9+5) [I (e+g)]) λr=>Cz Jz #[.pointer d,I y] r λB q=>B=.returned (.tuple #[])/\Q9 [] r q/\AY [] q λz=>Cz Z2 #[.pointer d] z λE m=>E=.returned (.tuple #[])/\Q9 [] z m/\AR [] m R .nilIface) (AY [] (R5 w b (Int.toNat a*9+3) [I c]) λs=>Cz Z2 #[.pointer d] s λD p=>D=.returned (.tuple #[])/\Q9 [] s p/\AR [] p R .nilIface))))
theorem B3(a b c):Jp (Fz a b c) JX #[.pointer a,.pointer b,.pointer c]:=eV [] false [] Tryz.func124 Qk Qk
def Dv(b i h e c f j d g:Int)(w:Wo)(R:RT):=NB w λa=>R (.bool (b==0)) w
theorem DQ(a b c d e f g h i):YX (Dv a b c d e f g h i) X9 #[.agg #[I a,I b,I c,I d,I e,I f,I g,I h,I i]]:=pV [] false [] Tryz.func132 Qk Qk
def Fx(b q n h H:OA)(w:Wo)(R:RT):=∃J,Q1 [] w q 0 [I J]/\∃f,PX [] JF #[I J] w (.bool f)/\∃E,((!f)=false->Q1 [] w n 0 [I E])/\∃l,((!f)=false->PX [] YN #[I E] w (.bool l))/\Bf ((!f)||(!l)) (AR [] w R (.iface Qi (.agg #[I 1]))) (b.isSome=true/\∃z F C,Q1 [] w b (0+3) [S z F C]/\∃D,Q1 [] w h 0 [I D]/\∃j,PX [] Xk #[S z F C,I D] w (.bool j)/\Bf (!j) (AR [] w R (.iface Qi (.agg #[I 2]))) (b.isSome=true/\∃M P y,Q1 [] w b (0+2) [S M P y]/\CI [] ZJ #[S M P y,.func (.func X9) #[] #[]] w λe c=>Bf (decide (e<0)) (AR [] c R (.iface Qi (.agg #[I 3]))) (∃m,PX [] Yj #[.pointer b] c (.bool m)/\Bf (!m) (AR [] c R (.iface Qi (.agg #[I 10]))) (∃O,Q1 [] c n 0 [I O]/\∃x,Q1 [] c h 0 [I x]/\∃v,PX [] Yo #[.pointer b,I O,I x] c (I v)/\CI [] XQ #[.pointer b,I v] c λK a=>∃p o,PX [] QN #[.pointer b,I K] a (.agg #[.pointer p,I o])/\NB a λd=>b.isSome=true/\∃g A U,Q1 [] a b (0+2) [S g A U]/\∃u,Q1 [] a h 0 [I u]/\∃L,Q1 [] a q 0 [I L]/\∃s,Q1 [] a n 0 [I s]/\∃B,Q1 [] a h 0 [I B]/\∃k,PX [] QA #[.agg #[.pointer p,I o],I B] a (.pointer k)/\k.isSome=true/\∃G,Q1 [] a k (0+0) [I G]/\Ix g A e/\YK [] a g (Int.toNat e*9) 9/\AX [] [d] (R5 a g (Int.toNat e*9) [I 1,I u,I K,I L,I s,I G,I 0,I 0,I 0]) λt=>Cz Ze #[.agg #[.pointer p,I o]] t λT r=>T=.returned (.tuple #[])/\Q9 [d] t r/\AY [d] r λN=>Cz Z2 #[.pointer b] N λQ i=>Q=.returned (.tuple #[])/\Q9 [d] N i/\YK [d] i H 0 1/\AR [d] (R5 i H 0 [I e]) R .nilIface))))
theorem B1(a b c d e):Jp (Fx a b c d e) JV #[.pointer a,.pointer b,.pointer c,.pointer d,.pointer e]:=eV [] false [] Tryz.func130 Qk Qk
def LD(i h:Int)(g:OA)(w:Wo)(R:RT):=∃f,Q1 [] w g 0 [.pointer f]/\∃b e,PX [] Xs #[.pointer f,I i] w (.tuple #[I b,I e])/\∃c,Q1 [] w g 0 [.pointer c]/\∃a d,PX [] Xs #[.pointer c,I h] w (.tuple #[I a,I d])/\R (.bool ((decide (b<a))||((b==a)&&(decide (e<d))))) w
theorem G0(a b c):YX (LD a b c) Yp #[I a,I b,.pointer c]:=pV [] false [] Tryz.func199 Qk Qk
def KX(q:Fn)(n:Array Va)(o:Array Va)(p:OA)(w:Wo)(R:RT):=∃(d:LQ) (e:LM),(AY [] w λl=>d [I 0] l)/\∀(a:Int) b,(∀bq∈([]:List Nat),bq<b.heap.size)->d [I a] b->Bf (decide (a<4)) (∃h,Q1 [] b p 0 [I h]/\∃c,PX [] U1 #[I h,I a] b (.bool c)/\(c=true->AY [] b λk=>Km Tryz.prog (.func q n o) [I a] k λm f=>∃g,m=.returned (.bool g)/\Q9 [] k f/\Bf (c&&(!g)) (AR [] f R (.tuple #[])) (Qz (a+1)/\AY [] f λi=>d [I (a+1)] i/\e [I (a+1)] i<e [I a] b))/\((c=true->False)->Bf false (AR [] b R (.tuple #[])) (Qz (a+1)/\AY [] b λj=>d [I (a+1)] j/\e [I (a+1)] j<e [I a] b))) (AR [] b R (.tuple #[]))
theorem L3(a b c d):Jp (KX a b c d) QE #[.func a b c,.pointer d]:=eV [] false [(1,⟨[(4,Ri)],[],[0,1],[],[]⟩)] Tryz.func233 Qk Qk
noncomputable def Md(l:Option Nat):Uk:={ P:=Tryz.prog,T:=J3 zka,pf:=zm2,ef:=zm1,tt:=zph,wZ:=[3,6,7],n:=22,pm:=false,wr:=false,rd:=l }
noncomputable def DX:List (Nat×ZD):=[]
noncomputable def Xx:List Code:=[cL ((YL Tryz.f198)),cL (cR ((YL Tryz.f198))),cL (cR (cR ((YL Tryz.f198))))]
def M9(h:Fn)(i:Array Va)(j:Array Va)(w:Wo)(R:Exit->List Va->Wo->Prop):Prop:= (∀b c,Q0 [] w c->w.heap.size<=b->c.heap[b]? = some (Obj.cells ([.func h i j]:List Va).toArray 59 (0,0))->b∉([]:List Nat)->(∀d e,Q0 [] c e->c.heap.size<=d->e.heap[d]? = some (Obj.cells ([I 0]:List Va).toArray Qa (0,0))->d∉([]:List Nat)->(∀a f,Q0 [] e f->e.heap.size<=a->f.heap[a]? = some (Obj.cells ([.bool false]:List Va).toArray Yd (0,0))->a∉([]:List Nat)->YK [] f (some (Addr.mk a 0 none)) 0 1/\(∀g,Q0 [] (R5 f (some (Addr.mk a 0 none)) 0 [.bool false]) g->R .normal [.pointer ((some (Addr.mk b 0 none)).map (·.add 0)),.pointer ((some (Addr.mk d 0 none)).map (·.add 0)),.pointer ((some (Addr.mk a 0 none)).map (·.add 0))] g))))
theorem E0(l:Option Nat)(rU:Fn)(rS:Array Va)(rV:Array Va)(w:Wo)(R:Exit->List Va->Wo->Prop):z2z (Md l) DX Xx (XJ [(1,.func rU rS rV)]) w (TT [3,6,7] R)=M9 rU rS rV w R:=Qk
theorem DN(l:Option Nat)(rU:Fn)(rS:Array Va)(rV:Array Va){w:Wo}{R:Exit->List Va->Wo->Prop}{X:Code}{Q:Exit->Act->Wo->Prop}{a:Act}(hn:a.tmps.size=22)(mG:PD [(1,.func rU rS rV)] a)(vH:M9 rU rS rV w R)(hX:∀vs a1 w1,R .normal vs w1->zgd (TA Xx) [3,6,7] a a1 vs->X.wpIn (UX l) 0 Tryz.prog Q a1 w1)(hQ:∀e vs a1 w1,e≠.normal->R e vs w1->zgd (TA Xx) [3,6,7] a a1 vs->Q e a1 w1):(zmn Xx X).wpIn (UX l) 0 Tryz.prog Q a w:=
 zwb (C:=Md l) (zpg _ _ _ _ _) hn mG (by rw[E0]; exact vH) hX hQ
noncomputable def Mc(l:Option Nat):Uk:={ P:=Tryz.prog,T:=J3 zka,pf:=zm2,ef:=zm1,tt:=zph,wZ:=[],n:=22,pm:=false,wr:=false,rd:=l }
noncomputable def DW:List (Nat×ZD):=[]
noncomputable def JD:Code:=(cL (cL (cR (cR (cR ((YL Tryz.f198)))))))
def M8(b:Fn)(d:Array Va)(c:Array Va)(w:Wo)(R:Exit->List Va->Wo->Prop):Prop:= (∀a,Q0 [] w a->R .normal [.func b d c] a)
theorem DZ(l:Option Nat)(wO:Fn)(wN:Array Va)(wP:Array Va)(w:Wo)(R:Exit->List Va->Wo->Prop):E5 (Mc l) DW JD (XJ [(0,.func wO wN wP)]) w (TT [9] R)=M8 wO wN wP w R:=Qk
theorem DM(l:Option Nat)(wO:Fn)(wN:Array Va)(wP:Array Va){w:Wo}{R:Exit->List Va->Wo->Prop}{Q:Exit->Act->Wo->Prop}{a:Act}(hn:a.tmps.size=22)(mG:PD [(0,.func wO wN wP)] a)(vH:M8 wO wN wP w R)(hQ:∀e vs a1 w1,R e vs w1->zgd (YA JD) [9] a a1 vs->Q e a1 w1):JD.wpIn (UX l) 0 Tryz.prog Q a w:=
 Ha (C:=Mc l) (zpg _ _ _ _ _) hn mG (by rw[DZ]; exact vH) hQ
noncomputable def Mb(l:Option Nat):Uk:={ P:=Tryz.prog,T:=J3 zka,pf:=zm2,ef:=zm1,tt:=zph,wZ:=[],n:=22,pm:=false,wr:=false,rd:=l }
noncomputable def DV:List (Nat×ZD):=[]
noncomputable def JC:Code:=(z4q (cB (cR (cL (cR (cR (cR ((YL Tryz.f198)))))))))
def M7(b:Int)(w:Wo)(R:Exit->List Va->Wo->Prop):Prop:= (∀a,Q0 [] w a->R .normal [I b] a)
theorem DY(l:Option Nat)(x:Int)(w:Wo)(R:Exit->List Va->Wo->Prop):E5 (Mb l) DV JC (XJ [(10,.int .i64 x)]) w (TT [8] R)=M7 x w R:=Qk
theorem DK(l:Option Nat)(x:Int){w:Wo}{R:Exit->List Va->Wo->Prop}{Q:Exit->Act->Wo->Prop}{a:Act}(hn:a.tmps.size=22)(mG:PD [(10,.int .i64 x)] a)(vH:M7 x w R)(hQ:∀e vs a1 w1,R e vs w1->zgd (YA JC) [8] a a1 vs->Q e a1 w1):JC.wpIn (UX l) 0 Tryz.prog Q a w:=
 Ha (C:=Mb l) (zpg _ _ _ _ _) hn mG (by rw[DY]; exact vH) hQ
noncomputable def Py(l:Option Nat):Uk:={ P:=Tryz.prog,T:=J3 zka,pf:=zm2,ef:=zm1,tt:=zph,wZ:=[],n:=22,pm:=false,wr:=false,rd:=l }
noncomputable def HM:List (Nat×ZD):=[]
noncomputable def Jk:Code:=(z4h (cB (cR (cL (cR (cR (cR ((YL Tryz.f198)))))))))
def Pn(q b d:OA)(e:Int)(w:Wo)(R:Exit->List Va->Wo->Prop):Prop:= (∃(a:Bool),Q1 [] w d 0 [.bool a]/\(∃(k:Fn) (m:Array Va) (l:Array Va),((!a)=false->Q1 [] w q 0 [.func k m l])/\(∃(o:Int),((!a)=false->Q1 [] w b 0 [I o])/\((!a)=false->(AY [] w λg=>Km Tryz.prog (.func k m l) [I e,I o] g λp c=>(∃(f:Bool),p=.returned (.bool f)/\Q9 [] g c/\(((!a)||f)=true->YK [] c b 0 1/\YK [] (R5 c b 0 [I e]) d 0 1/\(∀n,Q0 [] (R5 (R5 c b 0 [I e]) d 0 [.bool true]) n->R .normal [] n))/\(((!a)||f)=false->(∀h,Q0 [] c h->R .normal [] h)))))/\(((!a)=false->False)->(true=true->YK [] w b 0 1/\YK [] (R5 w b 0 [I e]) d 0 1/\(∀i,Q0 [] (R5 (R5 w b 0 [I e]) d 0 [.bool true]) i->R .normal [] i))/\(true=false->(∀j,Q0 [] w j->R .normal [] j))))))
theorem HY(l:Option Nat)(before:OA)(bG:OA)(bN:OA)(x:Int)(w:Wo)(R:Exit->List Va->Wo->Prop):E5 (Py l) HM Jk (XJ [(3,.pointer before),(6,.pointer bG),(7,.pointer bN),(8,.int .i64 x)]) w (TT [] R)=Pn before bG bN x w R:=Qk
theorem Hg(l:Option Nat)(before:OA)(bG:OA)(bN:OA)(x:Int){w:Wo}{R:Exit->List Va->Wo->Prop}{Q:Exit->Act->Wo->Prop}{a:Act}(hn:a.tmps.size=22)(mG:PD [(3,.pointer before),(6,.pointer bG),(7,.pointer bN),(8,.int .i64 x)] a)(vH:Pn before bG bN x w R)(hQ:∀e vs a1 w1,R e vs w1->zgd (YA Jk) [] a a1 vs->Q e a1 w1):Jk.wpIn (UX l) 0 Tryz.prog Q a w:=
 Ha (C:=Py l) (zpg _ _ _ _ _) hn mG (by rw[HY]; exact vH) hQ
noncomputable def Pz(l:Option Nat):Uk:={ P:=Tryz.prog,T:=J3 zka,pf:=zm2,ef:=zm1,tt:=zph,wZ:=[],n:=22,pm:=false,wr:=false,rd:=l }
noncomputable def HN:List (Nat×ZD):=[]
noncomputable def Jl:Code:=(cR (cR (cR (cR ((YL Tryz.f198))))))
def Po(d e:OA)(w:Wo)(R:Exit->List Va->Wo->Prop):Prop:= (∃(c:Int),Q1 [] w d 0 [I c]/\(∃(b:Bool),Q1 [] w e 0 [.bool b]/\(∀a,Q0 [] w a->R .ret [I c,.bool b] a)))
theorem HZ(l:Option Nat)(bG:OA)(bN:OA)(w:Wo)(R:Exit->List Va->Wo->Prop):E5 (Pz l) HN Jl (XJ [(6,.pointer bG),(7,.pointer bN)]) w (TT [4,5] R)=Po bG bN w R:=Qk
theorem Hh(l:Option Nat)(bG:OA)(bN:OA){w:Wo}{R:Exit->List Va->Wo->Prop}{Q:Exit->Act->Wo->Prop}{a:Act}(hn:a.tmps.size=22)(mG:PD [(6,.pointer bG),(7,.pointer bN)] a)(vH:Po bG bN w R)(hQ:∀e vs a1 w1,R e vs w1->zgd (YA Jl) [4,5] a a1 vs->Q e a1 w1):Jl.wpIn (UX l) 0 Tryz.prog Q a w:=
 Ha (C:=Pz l) (zpg _ _ _ _ _) hn mG (by rw[HZ]; exact vH) hQ
theorem Mu:zrf Tryz.prog MH 5 X5 40 (⟨0,false,0,0,0⟩:GO):=EN Qk λ_=>rfl
theorem M5:Tryz.prog.underlying Zb=some (.slice X5):=Qk
def ZF(b:Vv)(m:MG):List Va:=[I b.IX,I b.Rx,I b.Sr,.slice m.lO b.locals.length m.lC,.slice m.dO b.Rz.length m.dC]
theorem Vg{a b:ByteArray}:ZI a b=true↔a=b:=by
 unfold ZI;rw[Is];constructor
 ·intro h
  have h1:∀x:ByteArray,x.toList=x.data.toList:=λx=>by
   have key:∀(n i:Nat) (r:List UInt8),n=x.size-i->ByteArray.toList.loop x i r=r.reverse++x.data.toList.drop i:=by
    intro n
    induction n with
    | zero=>
     intro i r hn;unfold ByteArray.toList.loop;rw[B' Qo,List.drop_eq_nil_iff.2 (by simp only[Array.length_toList]; show x.size<=i; omega),List.append_nil]
    | succ n ih=>
     intro i r hn;unfold ByteArray.toList.loop;have hi:i<x.data.toList.length:=by simp only[Array.length_toList]; show i<x.size; omega
     rw[C' Qo,ih (i+1) _ Qo,List.reverse_cons,List.append_assoc,List.singleton_append,List.drop_eq_getElem_cons hi]
     have:x.get! i=x.data.toList[i]:=by
      have hi':i<x.data.size:=by simpa using hi
      simp[ByteArray.get!,getElem!_pos x.data i hi']
     rw[this]
   have:=key _ 0 [] rfl
   simpa[ByteArray.toList] using this
  rw[h1,h1] at h
  cases a; cases b
  simp only at h
  congr 1
  exact Array.ext' h
 ·rintro rfl; rfl
theorem N2(a b:ByteArray):ZI a b=decide (a=b):=by
 cases h:ZI a b with
 | true=>rw[Ih (Vg.1 h)]
 | false=>rw[decide_eq_false λe=>by rw[Vg.2 e] at h; cases h]
def Oz(p:ZX×MG):List Va:=YE p.1 p.2
def PL:ZX×MG:=(⟨false,0,ByteArray.empty,0,0,0,0,0,⟨0,0,0,[],[]⟩,[]⟩,⟨none,0,none,0,none,0⟩)
theorem Yy:zrf Tryz.prog Oz 14 QW 168 PL:=EN Qk λ_=>rfl
theorem M4:Tryz.prog.underlying QD=some (.slice QW):=Qk
def Qv(m:MG):List Nat:=QM m.lO++QM m.dO++QM m.sO
structure Mj (base:Nat) (w:Wo) (p:ZX×MG):Prop where
 loc:Vi Um 1 Qa base w p.2.lO p.2.lC p.1.IS.locals
 Rz:Vi Kk 1 Yd base w p.2.dO p.2.dC p.1.IS.Rz
 shl:Vi MH 5 X5 base w p.2.sO p.2.sC p.1.IE
theorem Mj.ext{base:Nat}{w w':Wo}{p:ZX×MG}{bs:List Nat}(h:Mj base w p)(hx:Q0 bs w w')(hd:∀b∈Qv p.2,b∉bs):Mj base w' p:=
 ⟨h.loc.ext hx λb hb=>hd b (by simp[Qv,hb]),h.Rz.ext hx λb hb=>hd b (by simp[Qv,hb]),h.shl.ext hx λb hb=>hd b (by simp[Qv,hb])⟩
theorem Mj.Wu{base:Nat}{w w':Wo}{p:ZX×MG}(h:Mj base w p)(hx:Q0 [] w w'):Mj base w' p:=h.ext hx Qs
theorem Mj.mono{base aH:Nat}{w:Wo}{p:ZX×MG}(h:Mj base w p)(hb:aH<=base):Mj aH w p:=⟨h.loc.mono hb,h.Rz.mono hb,h.shl.mono hb⟩
theorem Mj.lt{base:Nat}{w:Wo}{p:ZX×MG}(h:Mj base w p):∀b∈Qv p.2,base<=b/\b<w.heap.size:=by
 intro b hb;simp only[Qv,Im] at hb;rcases hb with (hb | hb) | hb
 ·exact h.loc.lt b hb
 ·exact h.Rz.lt b hb
 ·exact h.shl.lt b hb
structure LA (base:Nat) (w:Wo) (o:OA) (cap:Nat) (ps:List (ZX×MG)):Prop where
 row:Vi Oz 14 QW base w o cap ps
 each:∀i:Int,0<=i->i<(ps.length:Int)->Mj base w (gi ps i)
 dj:∀i j:Int,0<=i->i<(ps.length:Int)->0<=j->j<(ps.length:Int)->i≠j->∀b∈Qv (gi ps i).2,b∉Qv (gi ps j).2
theorem LA.mono{base aH:Nat}{w:Wo}{o:OA}{cap:Nat}{ps:List (ZX×MG)}(h:LA base w o cap ps)(hb:aH<=base):LA aH w o cap ps:=
 ⟨h.row.mono hb,λi a b=>(h.each i a b).mono hb,h.dj⟩
theorem JQ{base:Nat}{w:Wo}{o:OA}{cap:Nat}{ps:List (ZX×MG)}(h:Vi Oz 14 QW base w o cap ps){aH:Nat}{p:ZX×MG}(hp:Mj aH w p):∀b∈Qv p.2,b∉QM o:=by
 intro b hb hx;simp only[Qv,Im] at hb;rcases hb with (hb | hb) | hb
 ·exact hp.loc.SU h Qd b hb hx
 ·exact hp.Rz.SU h Qd b hb hx
 ·exact hp.shl.SU h Qd b hb hx
theorem LA.put{base:Nat}{w:Wo}{o:OA}{cap:Nat}{ps:List (ZX×MG)}(h:LA base w o cap ps){i:Int}(h0:0<=i)(hi:i<(ps.length:Int)){p:ZX×MG}(hp:Mj base w p)(hd:∀j:Int,0<=j->j<(ps.length:Int)->i≠j->∀b∈Qv (gi ps j).2,b∉Qv p.2):LA base (R5 w o (Int.toNat i*14) (Oz p)) o cap (ps.set i.toNat p):=by
 have hx:=h.row.sV (Int.toNat i*14) (Oz p);have hlen:(ps.set i.toNat p).length=ps.length:=E';refine⟨?_,λj hj hjl=>?_,λj k hj hjl hk tY gZ b hb iO=>?_⟩
 ·have:=h.row.R5 Yy.len h0 hi (j:=0) (vs:=Oz p) (x:=p) (by rw[List.take_zero,List.nil_append,List.drop_eq_nil_iff.2 (by rw[Nat.zero_add,Yy.len,Yy.len]; exact I7 _),List.append_nil]) (by rw[Nat.zero_add,Yy.len]; exact I7 _);exact this
 ·rw[hlen] at hjl;rw[QO _ _ h0 hi hj];split
  ·exact hp.ext hx (JQ h.row hp)
  ·exact(h.each j hj hjl).ext hx (JQ h.row (h.each j hj hjl))
 ·rw[hlen] at hjl tY;rw[QO _ _ h0 hi hj] at hb;rw[QO _ _ h0 hi hk] at iO
  by_cases e1:i=j
  ·rw[C' e1] at hb
   by_cases e2:i=k
   ·omega
   ·rw[B' e2] at iO;exact hd k hk tY e2 b iO hb
  ·rw[B' e1] at hb
   by_cases e2:i=k
   ·rw[C' e2] at iO;exact hd j hj hjl e1 b hb iO
   ·rw[B' e2] at iO;exact h.dj j k hj hjl hk tY gZ b hb iO
theorem Uy{z:Int}(h1 : -9223372036854775808<=z)(h2:z<=9223372036854775807):Qr .i64 z:=⟨h1,h2⟩
def zj7(w:Int):Int:=Int.tdiv 232792560 w
def X6(n a b:Int):Bool:=decide (n>=a)&&decide (n<=b)
theorem Qx{n a b:Int}:X6 n a b=true↔a<=n/\n<=b:=by simp[X6]
theorem z0y{n a b:Int}:X6 n a b=false↔¬(a<=n/\n<=b):=by rw[<-Qx]; simp
def Zh(n w:Int):Int:=if X6 n 0 100000000&&X6 w 1 20 then n*zj7 w else 0
def Zw(w:Int):Int:=Zh 149 w
theorem z0k:∀k:Fin 20,zj7 ((k.val:Int)+1)*((k.val:Int)+1)=232792560:=Qd
theorem z0l{w:Int}(h1:1<=w)(h2:w<=20):zj7 w*w=232792560:=by
 have:=z0k ⟨(w-1).toNat,Qo⟩;have e:(((w-1).toNat:Nat):Int)+1=w:=Qo;simp only[e] at this;exact this
theorem zf2{w:Int}(h1:1<=w)(h2:w<=20):11639628<=zj7 w/\zj7 w<=232792560:=by
 have h:=z0l h1 h2
 have hp:0<=zj7 w:=by
  rcases Int.lt_or_le (zj7 w) 0 with hn | hn
  ·have:=Int.mul_neg_of_neg_of_pos hn (show 0<w by omega);omega
  ·exact hn
 constructor
 ·have:=Int.mul_le_mul_of_nonneg_left h2 hp;omega
 ·have:=Int.mul_le_mul_of_nonneg_left h1 hp;omega
theorem PI{n w:Int}(h1:0<=n)(h2:n<=100000000)(h3:1<=w)(h4:w<=20):Zh n w=n*zj7 w:=by
 unfold Zh;rw[C'];rw[A',Qx,Qx]; exact⟨⟨h1,h2⟩,h3,h4⟩
theorem Dq{n w:Int}(h:¬(0<=n/\n<=100000000/\1<=w/\w<=20)):Zh n w=0:=by
 unfold Zh;rw[B'];rw[A',Qx,Qx]; omega
theorem zl7{n w:Int}(h1:0<=n)(h2:n<=100000000)(h3:1<=w)(h4:w<=20):0<=n*zj7 w/\n*zj7 w<=23279256000000000:=by
 have hs:=zf2 h3 h4;refine⟨Int.mul_nonneg h1 Qo,?_⟩
 calc n*zj7 w<=100000000*zj7 w:=Int.mul_le_mul_of_nonneg_right h2 Qo
  _<=100000000*232792560:=Int.mul_le_mul_of_nonneg_left hs.2 Qd
  _=23279256000000000:=rfl
theorem D1(n w:Int):0<=Zh n w/\Zh n w<=23279256000000000:=by
 by_cases h:0<=n/\n<=100000000/\1<=w/\w<=20
 ·rw[PI h.1 h.2.1 h.2.2.1 h.2.2.2]; exact zl7 h.1 h.2.1 h.2.2.1 h.2.2.2
 ·rw[Dq h]; omega
theorem QQ{n a b:Int}{w:Wo}{bs:List Nat}:PX bs QC #[I n,I a,I b] w (.bool (X6 n a b)):=
 ze6 n a b λwr hx=>by unfold GU; rfl
theorem Qu{n a b:Int}{w:Wo}{bs:List Nat}:PX bs Ql #[I n,I a,I b] w (.bool (X6 n a b)):=
 zoh n a b λwr hx=>by unfold AJ; rfl
theorem M0{n:Int}{w:Wo}{bs:List Nat}:PX bs JG #[I n] w (.bool (X6 n 1 20)):=
 zaz n λwr hx=>⟨_,QQ,rfl⟩
theorem Ud{n:Int}{w:Wo}{bs:List Nat}:PX bs YP #[I n] w (.bool (X6 n 1 20)):=
 za6 n λwr hx=>⟨_,Qu,rfl⟩
theorem Pa{n:Int}{w:Wo}{bs:List Nat}:PX bs JF #[I n] w (.bool (X6 n (-10) 9)):=
 zh9 n λwr hx=>⟨_,QQ,rfl⟩
def Tu(k j:Nat):Int:=if j<=k then zj7 (j:Int) else 0
def z4t(k:Nat):List Va:=[I ((k:Int)+1),I 0,I (Tu k 1),I (Tu k 2),I (Tu k 3),I (Tu k 4),I (Tu k 5),I (Tu k 6),I (Tu k 7),
 I (Tu k 8),I (Tu k 9),I (Tu k 10),I (Tu k 11),I (Tu k 12),I (Tu k 13),I (Tu k 14),I (Tu k 15),I (Tu k 16),I (Tu k 17),I (Tu k 18),I (Tu k 19),I (Tu k 20)]
theorem EX{w:Wo}{bs:List Nat}:PX bs Vp #[] w (.agg #[I 0,I (Tu 20 1),I (Tu 20 2),I (Tu 20 3),I (Tu 20 4),I (Tu 20 5),I (Tu 20 6),I (Tu 20 7),
 I (Tu 20 8),I (Tu 20 9),I (Tu 20 10),I (Tu 20 11),I (Tu 20 12),I (Tu 20 13),I (Tu 20 14),I (Tu 20 15),I (Tu 20 16),I (Tu 20 17),I (Tu 20 18),I (Tu 20 19),I (Tu 20 20)]):=
 Fd λwr hx=>by
  intro _ _ _ _
  refine⟨λvs=>∃k:Nat,k<=20/\vs=z4t k,λvs=>match vs with
   | .int _ i::_=>(21-i).toNat
   | _=>0,⟨0,Qo,rfl⟩,?_⟩
  rintro i l l1 l2 l3 l4 l5 l6 l7 l8 l9 l10 l11 l12 l13 l14 l15 l16 l17 l18 l19 l20 ⟨k,hk,he⟩;simp only[z4t,I4,I5,true_and,and_true] at he;obtain⟨rfl,rfl,rfl,rfl,rfl,rfl,rfl,rfl,rfl,rfl,rfl,rfl,rfl,rfl,rfl,rfl,rfl,rfl,rfl,rfl,rfl,rfl⟩:=he;constructor
  ·intro h;have h:=Ot h;refine⟨⟨Qo,?_⟩,⟨Qo,Qo⟩,Qo,?_⟩
   ·have:=zf2 (w:=(k:Int)+1) Qo Qo;exact Uy (by unfold zj7 at this; omega) (by unfold zj7 at this; omega)
   ·refine⟨_,_,_,_,_,_,_,_,_,_,_,_,_,_,_,_,_,_,_,_,_,?_,Uy Qo Qo,⟨k+1,Qo,rfl⟩,?_⟩
    ·have:k=0\/k=1\/k=2\/k=3\/k=4\/k=5\/k=6\/k=7\/k=8\/k=9\/k=10\/k=11\/k=12\/k=13\/k=14\/k=15\/k=16\/k=17\/k=18\/k=19:=Qo;rcases this with rfl | rfl | rfl | rfl | rfl | rfl | rfl | rfl | rfl | rfl | rfl | rfl | rfl | rfl | rfl | rfl | rfl | rfl | rfl | rfl <;> rfl
    ·show (21-(((k:Int)+1)+1)).toNat<(21-((k:Int)+1)).toNat;omega
  ·intro h;have h:=Ou h;have hk:k=20:=Qo;subst hk;rfl
theorem z2v{k:Int}(h1:1<=k)(h2:k<=20):(#[I 0,I (Tu 20 1),I (Tu 20 2),I (Tu 20 3),I (Tu 20 4),I (Tu 20 5),I (Tu 20 6),I (Tu 20 7),
 I (Tu 20 8),I (Tu 20 9),I (Tu 20 10),I (Tu 20 11),I (Tu 20 12),I (Tu 20 13),I (Tu 20 14),I (Tu 20 15),I (Tu 20 16),I (Tu 20 17),I (Tu 20 18),I (Tu 20 19),I (Tu 20 20)]:Array Va)[Int.toNat k]? = some (I (zj7 k)):=by
 have:k=1\/k=2\/k=3\/k=4\/k=5\/k=6\/k=7\/k=8\/k=9\/k=10\/k=11\/k=12\/k=13\/k=14\/k=15\/k=16\/k=17\/k=18\/k=19\/k=20:=Qo;rcases this with rfl | rfl | rfl | rfl | rfl | rfl | rfl | rfl | rfl | rfl | rfl | rfl | rfl | rfl | rfl | rfl | rfl | rfl | rfl | rfl <;> rfl
theorem Tb{n k:Int}{w:Wo}{bs:List Nat}:PX bs Xr #[I n,I k] w (I (Zh n k)):=
 F6 n k λwr hx=>by
  refine⟨_,QQ,_,λ_=>M0,λh=>?_,λh=>?_⟩
  ·congr 1; unfold Zh; rw[B']; intro h2; simp only[A'] at h2; simp[h2] at h
  ·have h2:X6 n 0 100000000=true/\X6 k 1 20=true:=by simpa using h
   rw[Qx,Qx] at h2;have hm:=zl7 h2.1.1 h2.1.2 h2.2.1 h2.2.2;refine⟨_,_,_,_,_,_,_,_,_,_,_,_,_,_,_,_,_,_,_,_,_,EX,zj7 k,⟨Qo,Qo,z2v h2.2.1 h2.2.2⟩,Uy Qo Qo,?_⟩;rw[PI h2.1.1 h2.1.2 h2.2.1 h2.2.2]
theorem K0{k:Int}{w:Wo}{bs:List Nat}:PX bs U8 #[I k] w (I (Zw k)):=
 ze3 k λwr hx=>⟨_,Tb,rfl⟩
def Kp(s:ByteArray):Bool:=(((((ZI s (⟨[119,101,105,103,104,116].toArray⟩))||(ZI s (⟨[109,97,120].toArray⟩)))||(ZI s (⟨[99,112,117,115].toArray⟩)))||(ZI s (⟨[112,114,111,99,115].toArray⟩)))||(ZI s (⟨[115,116,97,116].toArray⟩)))
def zyn(x:Int):Bool:=(((decide (x>=97))&&(decide (x<=122)))||((decide (x>=48))&&(decide (x<=57))))
def UW(s:ByteArray):Bool:=X6 (s.size:Int) 1 8 && !Kp s&&(List.range s.size).all λi=>zyn (UB s (i:Int))
theorem LY{s:ByteArray}:UW s=true↔(1<=s.size/\s.size<=8)/\Kp s=false/\∀i:Nat,i<s.size->zyn (UB s (i:Int))=true:=by
 unfold UW;simp only[A',Qx,IB,List.all_eq_true,List.mem_range];constructor
 ·rintro⟨⟨h1,h2⟩,h3⟩; exact⟨⟨Qo,Qo⟩,h2,h3⟩
 ·rintro⟨⟨h0,h1⟩,h2,h3⟩; exact⟨⟨⟨Qo,Qo⟩,h2⟩,h3⟩
theorem Lj{s:ByteArray}(h:¬((1<=s.size/\s.size<=8)/\Kp s=false/\∀i:Nat,i<s.size->zyn (UB s (i:Int))=true)):UW s=false:=by
 cases hn:UW s with
 | false=>rfl
 | true=>exact Ir (LY.1 hn) h
theorem zhx{s:ByteArray}{w:Wo}{bs:List Nat}:PX bs MO #[.string s] w (.bool (Kp s)):=
 zik s λwr hx=>rfl
theorem Ef{s:ByteArray}{w:Wo}{bs:List Nat}:PX bs TM #[.string s] w (.bool (UW s)):=
 zig s λwr hx=>by
  refine⟨_,Qu,Kp s,λ_=>zhx,λh=>?_,λh=>?_⟩
  ·rw[Lj];rintro⟨h1,h2,_⟩;rw[h2,Qx.2 Qo] at h;cases h
  ·have h:X6 (s.size:Int) 1 8=true/\Kp s=false:=by simpa using h
   have h1:=Qx.1 h.1;refine J1 s.size 0 rfl (λk=>k<=s.size/\∀j:Nat,j<k->zyn (UB s (j:Int))=true) ⟨Ic _,λj hj=>Ir hj (Nat.not_lt_zero j)⟩ λk ⟨hk,hI⟩=>⟨λIT=>?_,λRC=>?_⟩
   ·have IT:=Ot IT;have hr:0<=(k:Int)/\(k:Int)<(s.size:Int):=⟨Qo,IT⟩;refine⟨hr,λ_=>hr,λ_=>hr,λ_ _=>hr,λiQ=>?_,λAO2=>⟨⟨Qo,Qo⟩,QH Qo ⟨Qo,λj hj=>?_⟩⟩⟩
    ·rw[Lj];rintro⟨_,_,h3⟩;have:=h3 k Qo;unfold zyn at this;rw[this] at iQ;cases iQ
    ·by_cases gZ:j<k
     ·exact hI j gZ
     ·have:j=k:=Qo;subst this;unfold zyn;rw[I6] at AO2;exact AO2
   ·have RC:=Ou RC;have hk:k=s.size:=Qo;subst hk;rw[LY.2 ⟨⟨Qo,Qo⟩,h.2,hI⟩]
def Q7(gs:List ZX)(g:Int):Bool:=(decide (g>=0)&&decide (g<(gs.length:Int)))&&(gi gs g).used
theorem Q4{gs:List ZX}{g:Int}:Q7 gs g=true↔0<=g/\g<(gs.length:Int)/\(gi gs g).used=true:=by
 unfold Q7;simp[and_assoc]
def dep:Nat->List ZX->Int->Int
 | 0,_,g=>if g=0 then 0 else -1
 | f+1,gs,g=>if g=0 then 0 else if dep f gs (gi gs g).parent<0 then -1 else dep f gs (gi gs g).parent+1
def PE:Nat->List ZX->Int->Int->Int
 | 0,_,_,_ => -1
 | f+1,gs,g,n=>if Q7 gs g=false then -1 else if g=0 then n else PE f gs (gi gs g).parent (n+1)
theorem Oy(gs:List ZX):∀(f:Nat) (g:Int),-1<=dep f gs g/\dep f gs g<=f
 | 0,g=>by simp only[dep]; split <;> omega
 | f+1,g=>by
  have:=Oy gs f (gi gs g).parent;simp only[dep];split
  ·omega
  ·split <;> omega
theorem H3(gs:List ZX):∀(f f':Nat) (g:Int),0<=dep f gs g->dep f gs g<=f'->dep f' gs g=dep f gs g
 | 0,f',g,h,_=>by
  simp only[dep] at h ⊢
  split at h
  ·rename_i hg
   cases f' <;> simp[dep,hg]
  ·omega
 | f+1,f',g,h,hle=>by
  simp only[dep] at h hle ⊢
  by_cases hg:g=0
  ·rw[C' hg]
   cases f' <;> simp[dep,hg]
  ·rw[B' hg] at h hle ⊢
   by_cases hd:dep f gs (gi gs g).parent<0
   ·rw[C' hd] at h; omega
   ·rw[B' hd] at hle ⊢
    cases f' with
    | zero=>omega
    | succ f'=>
     have:=H3 gs f f' (gi gs g).parent Qo Qo;simp only[dep];rw[B' hg,this,B' hd]
theorem Y6(gs:List ZX)(f:Nat):dep f gs 0=0:=by cases f <;> simp[dep]
theorem zv1{gs:List ZX}{f:Nat}{g:Int}(h:dep f gs g=0):g=0:=by
 cases f with
 | zero=>simp only[dep] at h; split at h <;> first | assumption | omega
 | succ f=>
  simp only[dep] at h
  split at h
  ·assumption
  ·split at h <;> omega
structure Ye (gs:List ZX):Prop where
 len:gs.length=8
 ru:(gi gs 0).used=true
 rp:(gi gs 0).parent = -1
 rn:(gi gs 0).name=⟨[].toArray⟩
 nm:∀g:Int,1<=g->g<8->(gi gs g).used=true->UW (gi gs g).name=true
 par:∀g:Int,1<=g->g<8->(gi gs g).used=true->Q7 gs (gi gs g).parent=true
 dp:∀g:Int,1<=g->g<8->(gi gs g).used=true->0<=dep 3 gs g
 uniq:∀g h:Int,1<=h->h<g->g<8->(gi gs g).used=true->(gi gs h).used=true->¬((gi gs h).parent=(gi gs g).parent/\(gi gs h).name=(gi gs g).name)
noncomputable def Ku(gs:List ZX):Bool:=@decide (Ye gs) (Classical.propDecidable _)
theorem Tq{gs:List ZX}:Ku gs=true↔Ye gs:=@decide_eq_true_iff _ (Classical.propDecidable _)
theorem N6{gs:List ZX}(h:¬Ye gs):Ku gs=false:=by
 cases hb:Ku gs with
 | false=>rfl
 | true=>exact Ir (Tq.1 hb) h
theorem Bx{gs:List ZX}(hp:∀g:Int,g≠0->Q7 gs g=true->Q7 gs (gi gs g).parent=true):∀(f:Nat) (g n:Int),Q7 gs g=true->PE (f+1) gs g n=if dep f gs g<0 then -1 else n+dep f gs g
 | 0,g,n,hu=>by
  simp only[PE,dep,hu]
  by_cases hg:g=0 <;> simp[hg]
 | f+1,g,n,hu=>by
  rw[PE];simp only[hu]
  by_cases hg:g=0
  ·simp[hg,dep]
  ·have ih:=Bx hp f (gi gs g).parent (n+1) (hp g hg hu);have hr:=Oy gs f (gi gs g).parent;simp only[dep,B' hg];rw[ih]
   by_cases hd:dep f gs (gi gs g).parent<0
   ·simp[hd]
   ·have h2:¬(dep f gs (gi gs g).parent+1<0):=Qo;simp[hd,h2]; omega
theorem zt3{gs:List ZX}{f:Nat}{g n:Int}(hg:g≠0)(h:PE (f+1) gs g n≠-1):f≠0/\Q7 gs (gi gs g).parent=true:=by
 rw[PE] at h
 by_cases hu:Q7 gs g=false
 ·rw[C' hu] at h; exact Ir rfl h
 ·rw[B' hu,B' hg] at h
  cases f with
  | zero=>exact Ir rfl h
  | succ f=>
   rw[PE] at h
   by_cases hp:Q7 gs (gi gs g).parent=false
   ·rw[C' hp] at h; exact Ir rfl h
   ·exact⟨Qo,by simpa using hp⟩
structure zrj (gs:List ZX) (k:Int):Prop where
 each:∀g:Int,1<=g->g<k->(gi gs g).used=true->UW (gi gs g).name=true/\X6 (PE 9 gs g 0) 1 3=true/\∀h:Int,1<=h->h<g->(gi gs h).used=true->¬((gi gs h).parent=(gi gs g).parent/\(gi gs h).name=(gi gs g).name)
theorem zu2{gs:List ZX}(hl:gs.length=8)(ru:(gi gs 0).used=true)(rp:(gi gs 0).parent = -1)(rn:(gi gs 0).name=⟨[].toArray⟩)(h:zrj gs 8):Ye gs:=by
 have par:∀g:Int,1<=g->g<8->(gi gs g).used=true->Q7 gs (gi gs g).parent=true:=λg h1 h2 hu=>by
  have:=Qx.1 (h.each g h1 h2 hu).2.1;exact(zt3 (f:=8) (n:=0) Qo (by show PE 9 gs g 0≠-1; omega)).2
 have hp:∀g:Int,g≠0->Q7 gs g=true->Q7 gs (gi gs g).parent=true:=λg hg hu=>by
  obtain⟨a,b,c⟩:=Q4.1 hu;exact par g Qo Qo c
 refine⟨hl,ru,rp,rn,λg h1 h2 hu=>(h.each g h1 h2 hu).1,par,λg h1 h2 hu=>?_,λg k h1 h2 h3 hu hk=>(h.each g Qo h3 hu).2.2 k h1 h2 hk⟩;have h9:=Qx.1 (h.each g h1 h2 hu).2.1;rw[Bx hp 8 g 0 (Q4.2 ⟨Qo,Qo,hu⟩)] at h9
 split at h9
 ·omega
 ·rename_i hd;have:=H3 gs 8 3 g Qo Qo;omega
theorem zta{gs:List ZX}(h:Ye gs):zrj gs 8:=by
 have hp:∀g:Int,g≠0->Q7 gs g=true->Q7 gs (gi gs g).parent=true:=λg hg hu=>by
  obtain⟨a,b,c⟩:=Q4.1 hu;have:=h.len;exact h.par g Qo Qo c
 refine⟨λg h1 h2 hu=>⟨h.nm g h1 h2 hu,?_,λk h3 h4 hk=>h.uniq g k h3 h4 h2 hu hk⟩⟩;have hl:=h.len;rw[Bx hp 8 g 0 (Q4.2 ⟨Qo,Qo,hu⟩)];have h3:=h.dp g h1 h2 hu;have hr:=Oy gs 3 g;have:=H3 gs 3 8 g h3 Qo;rw[this,B' Qo];have hz:dep 3 gs g≠0:=λe=>by have:=zv1 e; omega
 exact Qx.2 Qo
section
variable {gs:List ZX}{ms:Nat->MG}{o:OA}{c:Nat}{w:Wo}{bs:List Nat}
theorem G9.used(h:G9 bs w o gs ms){i:Int}(h0:0<=i)(h1:i<(gs.length:Int)):Q1 bs w o (Int.toNat i*14+0) [.bool (gi gs i).used]:=(h.cells i h0 h1).get 0 _ rfl
theorem G9.parent(h:G9 bs w o gs ms){i:Int}(h0:0<=i)(h1:i<(gs.length:Int)):Q1 bs w o (Int.toNat i*14+1) [I (gi gs i).parent]:=(h.cells i h0 h1).get 1 _ rfl
theorem G9.name(h:G9 bs w o gs ms){i:Int}(h0:0<=i)(h1:i<(gs.length:Int)):Q1 bs w o (Int.toNat i*14+2) [.string (gi gs i).name]:=(h.cells i h0 h1).get 2 _ rfl
theorem XB{g:Int}(h:G9 bs w o gs ms):PX bs Y8 #[.slice o gs.length c,I g] w (.bool (Q7 gs g)):=
 zil o gs.length c g λwr hx=>by
  have h:=(h.ext hx).less (cs:=[]) Qs;refine⟨λq=>?_,(gi gs g).used,λq=>?_,rfl⟩
  ·have q:0<=g/\g<(gs.length:Int):=by simpa using q
   exact h.ix q.1 q.2
  ·have q:0<=g/\g<(gs.length:Int):=by simpa using q
   exact h.used q.1 q.2
theorem K6{g:Int}(h:G9 bs w o gs ms)(hl:gs.length<maxLen):PX bs Uc #[.slice o gs.length c,I g] w (I (PE (gs.length+1) gs g 0)):=
 zfe o gs.length c g λwr hx=>by
  have h:=(h.ext hx).less (cs:=[]) Qs;refine PF (gs.length+1) 0 rfl (λx k=>k<=gs.length+1/\PE (gs.length+1-k) gs x k=PE (gs.length+1) gs g 0) ⟨Qo,rfl⟩ λx k ⟨hk,he⟩=>⟨λIT=>?_,λRC=>?_⟩
  ·have IT:=Ot IT;have hf:gs.length+1-k=(gs.length-k)+1:=Qo;rw[hf,PE] at he;refine⟨_,XB h,λhu=>?_,λhu=>?_⟩
   ·have hu:Q7 gs x=false:=by simpa using hu
    rw[C' hu] at he;rw[<-he]
   ·have hu:Q7 gs x=true:=by simpa using hu
    rw[B' (by simp[hu])] at he;obtain⟨u1,u2,u3⟩:=Q4.1 hu;refine⟨λhz=>?_,λhz=>?_⟩
    ·rw[C' (by simpa using hz)] at he;rw[<-he]
    ·rw[B' (by simpa using hz)] at he;have hm:=J5;refine⟨h.ix u1 u2,_,h.parent u1 u2,⟨Qo,Qo⟩,QP Qo ⟨Qo,?_⟩⟩;rw[<-he,show gs.length+1-(k+1)=gs.length-k by omega];rfl
  ·have RC:=Ou RC;have:gs.length+1-k=0:=Qo;rw[this] at he;rw[<-he]; rfl
theorem Eg(h:G9 bs w o gs ms)(hl:gs.length<=maxLen):PX bs TO #[.slice o gs.length c] w (.bool (Ku gs)):=
 zih o gs.length c λwr hx=>by
  have h:=(h.ext hx).less (cs:=[]) Qs;have l8:((((gs.length:Nat):Int) != 8)=false)->gs.length=8:=λq=>by have:=(bne_eq_false_iff_eq).1 q; omega
  have i0:∀q:(((gs.length:Nat):Int) != 8)=false,(0:Int)<(gs.length:Int):=λq=>by have:=l8 q; omega
  refine⟨λq=>h.ix (I2 _) (i0 q),(gi gs 0).used,λq=>h.used (I2 _) (i0 q),λq=>?_,(gi gs 0).parent,λq=>?_,λq=>?_,(gi gs 0).name,λq=>?_,λq=>?_,λq=>?_⟩
  ·simp only[H'] at q; exact h.ix (I2 _) (i0 q.1)
  ·simp only[H'] at q; exact h.parent (I2 _) (i0 q.1)
  ·simp only[H'] at q; exact h.ix (I2 _) (i0 q.1.1)
  ·simp only[H'] at q; exact h.name (I2 _) (i0 q.1.1)
  ·rw[N6];intro ht;have e:((gs.length:Nat):Int)=8:=by have:=ht.len; omega
   rw[e,ht.ru,ht.rp,ht.rn,N2] at q;simp at q
  ·simp only[H',I6,bne_eq_false_iff_eq,Vg] at q;obtain⟨⟨⟨q1,ru⟩,rp⟩,rn⟩:=q;have hl8:gs.length=8:=Qo;refine J1 8 1 rfl (λk=>1<=k/\k<=8/\zrj gs k) ⟨I7 _,Qo,⟨λg h1 h2=>by omega⟩⟩ λk ⟨hk1,hk,hS⟩=>⟨λIT=>?_,λRC=>?_⟩
   ·have IT:=Ot IT;have fH:(0:Int)<=(k:Int):=Qo
    have step:((gi gs (k:Int)).used=true->UW (gi gs (k:Int)).name=true/\X6 (PE 9 gs (k:Int) 0) 1 3=true/\∀h:Int,1<=h->h<(k:Int)->(gi gs h).used=true->¬((gi gs h).parent=(gi gs (k:Int)).parent/\(gi gs h).name=(gi gs (k:Int)).name))->zrj gs ((k+1:Nat):Int):=λgX=>⟨λg h1 h2 hu=>by
     by_cases tX:g<(k:Int)
     ·exact hS.each g h1 tX hu
     ·have:g=(k:Int):=Qo;subst this; exact gX hu⟩
    refine⟨h.ix fH IT,_,h.used fH IT,λhu=>⟨⟨Qo,Qo⟩,QH Qo ⟨Qo,Qo,step λhu'=>by rw[hu'] at hu; cases hu⟩⟩,λhu=>?_⟩;have hu:(gi gs (k:Int)).used=true:=by simpa using hu
    refine⟨h.ix fH IT,_,h.name fH IT,_,Ef,PE 9 gs (k:Int) 0,λ_=>?_,X6 (PE 9 gs (k:Int) 0) 1 3,λ_=>Qu,λq=>?_,λq=>?_⟩
    ·have:=K6 (c:=c) (g:=(k:Int)) h (by rw[hl8]; simp[maxLen])
     rwa[hl8] at this ⊢
    ·rw[N6];intro ht;have:=(zta ht).each (k:Int) Qo Qo hu;rw[this.1,this.2.1] at q;cases q
    ·simp only[H',I6] at q;refine J1 k 1 rfl (λj=>1<=j/\j<=k/\∀h:Int,1<=h->h<(j:Int)->(gi gs h).used=true->¬((gi gs h).parent=(gi gs (k:Int)).parent/\(gi gs h).name=(gi gs (k:Int)).name)) ⟨I7 _,hk1,λg h1 h2=>by omega⟩ λj ⟨hj1,gZ,hJ⟩=>⟨λRw=>?_,λbP=>?_⟩
     ·have Rw:=Ot Rw;have hj0:(0:Int)<=(j:Int):=Qo;have hjl:(j:Int)<(gs.length:Int):=Qo;refine⟨h.ix hj0 hjl,_,h.used hj0 hjl,λ_=>h.ix hj0 hjl,_,λ_=>h.parent hj0 hjl,λ_=>h.ix fH IT,_,λ_=>h.parent fH IT,λ_=>h.ix hj0 hjl,_,λ_=>h.name hj0 hjl,λ_=>h.ix fH IT,_,λ_=>h.name fH IT,λhs=>?_,λhs=>⟨⟨Qo,Qo⟩,QH Qo ⟨Qo,Qo,λg h1 h2 hg=>?_⟩⟩⟩
      ·rw[N6];intro ht;simp only[A',Is,Vg] at hs;exact ht.uniq (k:Int) (j:Int) Qo Rw Qo hu hs.1.1 ⟨hs.1.2,hs.2⟩
      ·by_cases hgj:g<(j:Int)
       ·exact hJ g h1 hgj hg
       ·have:g=(j:Int):=Qo;subst this;rintro⟨e1,e2⟩;rw[hg,e1,e2,N2] at hs;simp at hs
     ·have bP:=Ou bP;have:j=k:=Qo;subst this;exact⟨⟨Qo,Qo⟩,QH Qo ⟨Qo,Qo,step λ_=>⟨q.1,q.2,hJ⟩⟩⟩
   ·have RC:=Ou RC;have:k=8:=Qo;subst this;rw[Tq.2 (zu2 hl8 ru rp rn hS)]
def Og:Nat->List ZX->Int->Int->Bool
 | 0,_,g,h=>h==g
 | f+1,gs,g,h=>h==g||(h != 0&&Og f gs g (gi gs h).parent)
noncomputable def M6(gs:List ZX)(g h:Int):Bool:=Ku gs&&Q7 gs g&&Q7 gs h&&Og 3 gs g h
theorem Yf{gs:List ZX}(ht:Ye gs){h:Int}(hu:Q7 gs h=true)(hz:h≠0):Q7 gs (gi gs h).parent=true/\0<=h/\h<(gs.length:Int)/\∃d:Nat,dep 3 gs h=(d:Int)+1/\dep 3 gs (gi gs h).parent=(d:Int)/\d<3:=by
 obtain⟨a,b,u⟩:=Q4.1 hu;have hl:=ht.len;have h1:1<=h:=Qo;have hd:=ht.dp h h1 Qo u;refine⟨ht.par h h1 Qo u,a,b,?_⟩;have hr:=Oy gs 2 (gi gs h).parent;have e:dep 3 gs h=if dep 2 gs (gi gs h).parent<0 then -1 else dep 2 gs (gi gs h).parent+1:=by simp only[dep,B' hz]
 rw[e] at hd ⊢
 split at hd
 ·omega
 ·rename_i hn;rw[B' hn];have:=H3 gs 2 3 (gi gs h).parent Qo Qo;exact⟨(dep 2 gs (gi gs h).parent).toNat,Qo,Qo,Qo⟩
theorem ztw{gs:List ZX}(ht:Ye gs)(g:Int):∀(f f':Nat) (h:Int),Q7 gs h=true->dep 3 gs h<=f->dep 3 gs h<=f'->Og f gs g h=Og f' gs g h:=by
 intro f
 induction f with
 | zero=>
  intro f' h hu h1 h2
  have hz:h=0:=Iq λhz=>by
   obtain⟨_,_,_,d,e,_⟩:=Yf ht hu hz;omega
  subst hz
  cases f' <;> simp[Og]
 | succ f ih=>
  intro f' h hu h1 h2
  by_cases hz:h=0
  ·subst hz
   cases f' <;> simp[Og]
  ·obtain⟨hp,_,_,d,e,e2,_⟩:=Yf ht hu hz
   cases f' with
   | zero=>omega
   | succ f'=>
    simp only[Og];rw[ih f' (gi gs h).parent hp Qo Qo]
theorem zjd{gs:List ZX}(ht:Ye gs){g h:Int}(hu:Q7 gs h=true)(hz:h≠0)(hg:h≠g):Og 3 gs g h=Og 3 gs g (gi gs h).parent:=by
 obtain⟨hp,_,_,d,e,e2,hd⟩:=Yf ht hu hz;rw[<-ztw ht g 2 3 (gi gs h).parent hp Qo Qo];have e3:Og 3 gs g h=(h==g||(h != 0&&Og 2 gs g (gi gs h).parent)):=rfl;rw[e3];have e4:(h==g)=false:=by simpa using hg
 have e5:(h != 0)=true:=by simpa using hz
 rw[e4,e5,Bool.false_or,Bool.true_and]
theorem OU{g h:Int}(hr:G9 bs w o gs ms)(hl:gs.length<=maxLen):PX bs Jd #[.slice o gs.length c,I g,I h] w (.bool (M6 gs g h)):=
 Ar o gs.length c g h λwr hx=>by
  have hr:=(hr.ext hx).less (cs:=[]) Qs;refine⟨_,Eg hr hl,_,λ_=>XB hr,_,λ_=>XB hr,λq=>?_,λq=>?_⟩
  ·have:M6 gs g h=false:=by
    unfold M6
    cases h1:Ku gs <;> cases h2:Q7 gs g <;> cases h3:Q7 gs h <;> simp_all
   rw[this]
  ·simp only[H',I6] at q;obtain⟨⟨q1,q2⟩,q3⟩:=q;have ht:=Tq.1 q1;have hU:M6 gs g h=Og 3 gs g h:=by unfold M6; rw[q1,q2,q3]; rfl
   refine⟨λvs=>∃x:Int,vs=[I x]/\Q7 gs x=true/\Og 3 gs g x=Og 3 gs g h,λvs=>(dep 3 gs (ZP 0 vs)).toNat,⟨h,rfl,q3,rfl⟩,?_⟩;rintro x ⟨x',he,hu,hI⟩;simp only[I4,I5,true_and,and_true] at he;subst he;refine⟨λfI=>⟨λhz=>?_,λhz=>?_⟩,λheq=>?_⟩
   ·have hz:x=0:=by simpa using hz
    subst hz
    have:Og 3 gs g 0=false:=by
     have:¬(0=g):=by simpa using fI
     simp[Og,this]
    rw[hU,<-hI,this]
   ·have hz:x≠0:=by simpa using hz
    have fI:x≠g:=by simpa using fI
    obtain⟨hp,a,b,d,e,e2,hd⟩:=Yf ht hu hz;refine⟨hr.ix a b,_,hr.parent a b,⟨_,rfl,hp,by rw[<-zjd ht hu hz fI]; exact hI⟩,?_⟩;show (dep 3 gs (gi gs x).parent).toNat<(dep 3 gs x).toNat;omega
   ·have heq:x=g:=by simpa using heq
    subst heq;rw[hU,<-hI];simp[Og]
end
theorem ztu{s:ByteArray}{i:Nat}(h:i<s.size):((s.get! i).toNat:Int)=UB s (i:Int):=by
 have hi:i<s.data.size:=h;unfold UB;rw[Ig];simp[ByteArray.get!,getElem!_pos s.data i hi,Array.getD,h]
theorem zi7{s:ByteArray}{i:Nat}(h:(s.get! i).toNat<128):Utf8.decode s i=((s.get! i).toNat,1):=by
 simp only[Utf8.decode,Nat.add_zero];rw[C' h]
theorem ztl{s:ByteArray}{i:Nat}(h:¬(s.get! i).toNat<128):128<=(Utf8.decode s i).1/\1<=(Utf8.decode s i).2:=by
 simp only[Utf8.decode,Nat.add_zero,Utf8.runeError];rw[B' h];split
 ·split
  ·rename_i h1; exact⟨h1,by show 1<=2; omega⟩
  ·exact⟨Qd,Qd⟩
 ·split
  ·split
   ·rename_i h1;simp only[ge_iff_le,A',Ij] at h1;exact⟨by show 128<=_; omega,by show 1<=3; omega⟩
   ·exact⟨Qd,Qd⟩
  ·split
   ·split
    ·rename_i h1;simp only[ge_iff_le,A',Ij] at h1;exact⟨by show 128<=_; omega,by show 1<=4; omega⟩
    ·exact⟨Qd,Qd⟩
   ·exact⟨Qd,Qd⟩
theorem ztz(w:Wo)(b:Nat)(s:ByteArray)(p:Nat):Q0 [b] w (MZ w b s p):=
 ⟨rfl,rfl,rfl,by simp[MZ],λk _ hk=>by
  have:b≠k:=λe=>hk (by simp[e])
  simp only[MZ];rw[Array.getElem?_setIfInBounds_ne this]⟩
theorem zwp{w:Wo}{b:Nat}{s:ByteArray}{p:Nat}(h:b<w.heap.size):(MZ w b s p).heap[b]? = some (.stringIter s p):=by
 simp[MZ,h]
def z1a(b:Nat)(w:Wo):Nat:=match w.heap[b]? with
 | some (.stringIter s p)=>s.size+1-p
 | _=>0
theorem znl{s:ByteArray}(h1:ZI s (⟨[119,101,105,103,104,116].toArray⟩)=false)(h2:ZI s (⟨[109,97,120].toArray⟩)=false)(h3:ZI s (⟨[99,112,117,115].toArray⟩)=false)(h4:ZI s (⟨[112,114,111,99,115].toArray⟩)=false)(h5:ZI s (⟨[115,116,97,116].toArray⟩)=false):Kp s=false:=by
 unfold Kp; rw[h1,h2,h3,h4,h5]; rfl
theorem PG{s:ByteArray}(h:Kp s=true):UW s=false:=Lj λ⟨_,h2,_⟩=>by rw[h] at h2; cases h2
theorem zhp{s:ByteArray}{w:Wo}{bs:List Nat}:PX bs MJ #[.string s] w (.bool (UW s)):=by
 refine BT λwr hx=>zhf s (R:=λv w'=>v=.bool (UW s)/\Q0 [] wr w') ?_
 refine⟨λh=>?_,λh1=>⟨λh=>?_,λh2=>⟨λh=>?_,λh3=>⟨λh=>?_,λh4=>⟨λh=>?_,λh5=>?_⟩⟩⟩⟩⟩
 ·intro w1 RR; rw[PG (by unfold Kp; rw[h]; rfl)]; exact⟨rfl,RR⟩
 ·intro w1 RR; rw[PG (by unfold Kp; rw[h]; simp)]; exact⟨rfl,RR⟩
 ·intro w1 RR; rw[PG (by unfold Kp; rw[h]; simp)]; exact⟨rfl,RR⟩
 ·intro w1 RR; rw[PG (by unfold Kp; rw[h]; simp)]; exact⟨rfl,RR⟩
 ·intro w1 RR; rw[PG (by unfold Kp; rw[h]; simp)]; exact⟨rfl,RR⟩
 ·have hf:=znl h1 h2 h3 h4 h5;refine⟨_,QQ,λh=>?_,λh=>?_⟩
  ·intro w1 RR;have h:X6 (s.size:Int) 1 8=false:=by simpa using h
   have h:=z0y.1 h;rw[Lj λ⟨h6,_⟩=>h Qo];exact⟨rfl,RR⟩
  ·have h:X6 (s.size:Int) 1 8=true:=by simpa using h
   have h:=Qx.1 h;intro w1 RR _;refine⟨some ⟨w1.heap.size,0,none⟩,w1.alloc (.stringIter s 0),by simp[Instr.range,run_underlying zf7],Z3,?_⟩;have hb0:(w1.alloc (.stringIter s 0)).heap[w1.heap.size]? = some (.stringIter s 0):=Array.getElem?_push_size ..;have hX0:Q0 [] wr (w1.alloc (.stringIter s 0)):=RR.trans (Z9 w1 _);have hbr:wr.heap.size<=w1.heap.size:=RR.size;generalize w1.heap.size=b at hb0 hbr;generalize w1.alloc (.stringIter s 0)=w2 at hb0 hX0;refine⟨λvs w'=>vs=[]/\Q0 [] wr w'/\∃p:Nat,p<=s.size/\w'.heap[b]? = some (.stringIter s p)/\∀j:Nat,j<p->zyn (UB s (j:Int))=true,λ_ w'=>z1a b w',λw3 R3 _=>⟨rfl,hX0.trans R3,0,Ic _,Qg hb0 R3 Qs,λj hj=>Ir hj (Nat.not_lt_zero j)⟩,?_⟩;intro w3 _ ⟨_,hX,p,hp,hb,hI⟩ w4 Si _;have hb4:=Qg hb Si Qs;refine⟨b,s,p,rfl,Qs,hb4,λRC=>⟨(by intro q; cases q),λ_ w5 Sb=>?_⟩,λIT=>⟨λ_=>?_,by intro q; cases q⟩⟩
   ·have:p=s.size:=Qo;subst this;rw[LY.2 ⟨⟨Qo,Qo⟩,hf,hI⟩];exact⟨rfl,(hX.trans Si).trans Sb⟩
   ·have hX5:Q0 [] wr (MZ w4 b s (p+(Utf8.decode s p).2)):=(hX.trans Si).fresh (ztz w4 b s _) λx hm=>.inl (by rw[Iz.1 hm]; exact hbr)
    have hg:=ztu IT;refine⟨λiQ=>?_,λAO2=>?_⟩
    ·intro w5 Sb
     have Cp5:UW s=false:=Lj λ⟨_,_,h3⟩=>by
      have h3:=h3 p IT
      by_cases hlo:(s.get! p).toNat<128
      ·rw[zi7 hlo] at iQ;simp only[hg] at iQ;unfold zyn at h3;rw[h3] at iQ;cases iQ
      ·unfold zyn at h3;simp only[Iu,A',Ij] at h3;omega
     rw[Cp5];exact⟨rfl,hX5.trans Sb⟩
    ·intro w5 Sb _
     by_cases hlo:(s.get! p).toNat<128
     ·rw[zi7 hlo] at AO2 hX5 Sb;simp only[hg] at AO2;have hat:=Qg (zwp (s:=s) (p:=p+1) (Yt hb4)) Sb Qs;refine⟨⟨rfl,hX5.trans Sb,p+1,Qo,hat,λj hj=>?_⟩,?_⟩
      ·by_cases hjp:j<p
       ·exact hI j hjp
       ·have:j=p:=Qo;subst this;unfold zyn;rw[I6] at AO2;exact AO2
      ·simp only[z1a,hat,hb];omega
     ·exfalso
      have:=ztl hlo;rw[I6] at AO2;simp only[Iu,A',Ij] at AO2;omega
end Go.Proofs.YtnclplgaicdapaaGreatDoor
