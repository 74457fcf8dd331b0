/- Part 7 of what the law FnParts needs. -/
import Derived.Test.YtjinkcmkgnofjaaGreatDoorFnPartsPf
set_option linter.all false
set_option maxRecDepth 100000
set_option maxHeartbeats 8000000
namespace Go.Proofs.YtjinkcmkgnofjaaGreatDoor
open Go.RowKit
def zbt(s:Int)(u:OA)(p v:Nat)(z:OA)(x B:Nat)(y:OA)(r A:Nat)(w:Wo)(R:RT):=∀e f,Q0 [] w f->w.heap.size<=e->f.heap[e]? = some (Obj.cells ([I s,S u p v,S z x B,S y r A]:LV).toArray Q5 (0,0))->e∉([]:List Nat)->NB f λb=>∃(h:LQ) (l:LM),(AX [] [b] f λt=>h [.bool true,I 0] t)/\∀(d:Bool) (a:Int) c,(∀bq∈[b],bq<c.heap.size)->h [.bool d,I a] c->Bf (decide (a<5)) (∃(n:Fn) (m:Array Va) (j:Array Va),(0<=a/\a<(5:Int)/\(#[.func (.func XM) #[] #[],.func (.func Xn) #[] #[],.func (.func XN) #[] #[],.func (.func Xf) #[] #[],.func (.func J1) #[] #[]]:Array Va)[Int.toNat a]? = some (.func n m j))/\AY [b] c λk=>O7 Tryz.prog (.func n m j) [.pointer ((some (Addr.mk e 0 none)).map (·.add 0))] k λq i=>∃g,q=.returned (.bool g)/\Q9 [b] k i/\Bf (!g) (AR [b] i R (.bool false)) (Qz (a+1)/\AY [b] i λo=>h [.bool d,I (a+1)] o/\l [.bool d,I (a+1)] o<l [.bool d,I a] c)) (AR [b] c R (.bool d))
def zc0(a b c d e f g h i j):JI (zbt a b c d e f g h i j) Pq #[Wv a b c d e f g h i j]:=eV [1] false [(4,⟨[(4,.bool),(9,Ri)],[],[1,8],[],[]⟩)] Tryz.func82 Qk Qk
def AS(z v A:Int)(y:OA)(d t:Nat)(B:OA)(l s:Nat)(w:Wo)(R:RT):=NB w λa=>NB w λb=>AX [] [a,b] w λq=>∃k i f,∃h,((Instr.makeSlice YX (I (d:Int)) (I (d:Int))):Sem Va).run Tryz.prog q=.ok (S k i f) h/\Q9 [a,b] q h/\AY [a,b] h λo=>∃u,∃m,(builtin .copy #[YX,YX] Qg #[false,false] #[S k i f,S y d t]).run Tryz.prog o=.ok (.value (I u)) m/\Q9 [a,b] o m/\AY [a,b] m λp=>∃e c n,∃g,((Instr.makeSlice Ja (I (l:Int)) (I (l:Int))):Sem Va).run Tryz.prog p=.ok (S e c n) g/\Q9 [a,b] p g/\AY [a,b] g λr=>∃x,∃j,(builtin .copy #[Ja,Ja] Qg #[false,false] #[S e c n,S B l s]).run Tryz.prog r=.ok (.value (I x)) j/\Q9 [a,b] r j/\AR [a,b] j R (.agg #[I z,I v,I A,S k i f,S e c n])
def CD(a b c d e f g h i):JI (AS a b c d e f g h i) Oo #[.agg #[I a,I b,I c,S d e f,S g h i]]:=eV [] false [] Tryz.func124 Qk Qk
def BN(p:Int)(b5:OA)(b1 b6:Nat)(b8:OA)(b7 c0:Nat)(v:OA)(Z c1:Nat)(w:Wo)(R:RT):=NB w λa=>NB w λb=>NB w λc=>AX [] [a,b,c] w λY=>∃n l k,∃u,(builtin .append #[Zy,Zy] Zy #[false,false] #[S none 0 0,S b5 b1 b6]).run Tryz.prog Y=.ok (.value (S n l k)) u/\Q9 [a,b,c] Y u/\AY [a,b,c] u λB=>∃j o m,∃x,(builtin .append #[Z8,Z8] Z8 #[false,false] #[S none 0 0,S b8 b7 c0]).run Tryz.prog B=.ok (.value (S j o m)) x/\Q9 [a,b,c] B x/\AY [a,b,c] x λP=>∃e f i,∃s,(builtin .append #[QE,QE] QE #[false,false] #[S none 0 0,S v Z c1]).run Tryz.prog P=.ok (.value (S e f i)) s/\Q9 [a,b,c] P s/\∃(t:LQ) (E:LM),(AY [a,b,c] s λc2=>t [I 0] c2)/\∀(d:Int) h,(∀bq∈[a,b,c],bq<h.heap.size)->t [I d] h->Bf (decide (d<(f:Int))) (Ix v Z d/\∃(a9:Bool) (a8:Int) (b2:ByteArray) (b4 c3 b9 b0 c4 a2 z a3:Int) (L:OA) (M a0:Nat) (a1:OA) (C D:Nat) (Q:OA) (a7 T:Nat),Q1 [a,b,c] h v (d.toNat*14) [.bool a9,I a8,.string b2,I b4,I c3,I b9,I b0,I c4,I a2,I z,I a3,S L M a0,S a1 C D,S Q a7 T]/\NB h λg=>AX [a,b,c] [a,b,c,g] h λa4=>Cz Oo #[.agg #[I a2,I z,I a3,S L M a0,S a1 C D]] a4 λb3 r=>∃K F H N O a5 U y J,b3=.returned (.agg #[I K,I F,I H,S N O a5,S U y J])/\Q9 [a,b,c,g] a4 r/\(some (Q5,([I p,S n l k,S j o m,S e f i]:LV))=some (Q5,([I p,S n l k,S j o m,S e f i]:LV)))/\Ix e f d/\Xh [a,b,c,g] r e (d.toNat*14+8) 5/\AY [a,b,c,g] (Rw r e (d.toNat*14+8) [I K,I F,I H,S N O a5,S U y J]) λG=>∃V a6 A,∃q,(builtin .append #[Zd,Zd] Zd #[true,false] #[S none 0 0,S Q a7 T]).run Tryz.prog G=.ok (.value (S V a6 A)) q/\Q9 [a,b,c,g] G q/\(some (Q5,([I p,S n l k,S j o m,S e f i]:LV))=some (Q5,([I p,S n l k,S j o m,S e f i]:LV)))/\Ix e f d/\Xh [a,b,c,g] q e (d.toNat*14+13) 1/\Qz (d+1)/\AY [a,b,c,g] (Rw q e (d.toNat*14+13) [S V a6 A]) λX=>t [I (d+1)] X/\E [I (d+1)] X<E [I d] h) (AR [a,b,c] h R (Wv p n l k j o m e f i))
def Nb(a b c d e f g h i j):JI (BN a b c d e f g h i j) U7 #[Wv a b c d e f g h i j]:=eV [] false [(6,⟨[(30,Ri)],[],[1,2,3,29],[],[]⟩)] Tryz.func83 Qk Qk
def zbu(k:Int)(l:OA)(h m:Nat)(q:OA)(o t:Nat)(p:OA)(i r:Nat)(a7:Fn)(a1:Array Va)(b2:Array Va)(w:Wo)(R:RT):=NB w λa=>NB w λb=>∃s,PX [] Pq #[Wv k l h m q o t p i r] w (.bool s)/\Bf (!s) (AR [] w R (.tuple #[Wv 0 none 0 0 none 0 0 none 0 0,I 1])) (CWx [] [a,b] U7 #[Wv k l h m q o t p i r] w λM E B C N P V y z K H=>∀c e,Q0 [a,b] H e->H.heap.size<=c->e.heap[c]? = some (Obj.cells ([I 0,S none 0 0,S none 0 0,S none 0 0]:LV).toArray Q5 (0,0))->c∉([a,b]:List Nat)->Xh [a,b] e (some (Addr.mk c 0 none)) 0 4/\∀d j,Q0 [a,b] (Rw e (some (Addr.mk c 0 none)) 0 [I M,S E B C,S N P V,S y z K]) j->(Rw e (some (Addr.mk c 0 none)) 0 [I M,S E B C,S N P V,S y z K]).heap.size<=d->j.heap[d]? = some (Obj.cells ([I 0]:LV).toArray Yd (0,0))->d∉([a,b]:List Nat)->AY [a,b] j λJ=>O7 Tryz.prog (.func a7 a1 b2) [.pointer ((some (Addr.mk c 0 none)).map (·.add 0))] J λa8 U=>∃(D:Va),a8=.returned D/\Q9 [a,b] J U/\AY [a,b] U λX=>Cz LG #[D,.iface J6 (.pointer ((some (Addr.mk d 0 none)).map (·.add 0)))] X λa0 f=>∃u,a0=.returned (.bool u)/\Q9 [a,b] X f/\Bf u (∃g,Q1 [a,b] f (some (Addr.mk d 0 none)) (0+0) [I g]/\CW [a,b] U7 #[Wv k l h m q o t p i r] f λb3 b1 a2 a9 a3 a5 b0 a6 a4 Z n=>Q1 [a,b] n (some (Addr.mk d 0 none)) (0+0) [I g]/\Q1 [a,b] n (some (Addr.mk d 0 none)) (0+0) [I g]/\AR [a,b] n R (.tuple #[Wv b3 b1 a2 a9 a3 a5 b0 a6 a4 Z,I g])) (∃F G Y T A v x Q L O,Q1 [a,b] f (some (Addr.mk c 0 none)) 0 [I F,S G Y T,S A v x,S Q L O]/\AR [a,b] f R (.tuple #[Wv F G Y T A v x Q L O,I 0])))
def zc1(a b c d e f g h i j k l m):JI (zbu a b c d e f g h i j k l m) Vo #[Wv a b c d e f g h i j,.func k l m]:=eV [6,7] false [] Tryz.func46 Qk Qk
def C2(y:Int)(z:OA)(s A:Nat)(D:OA)(B F:Nat)(C:OA)(x E:Nat)(u n:Int)(l:Fn)(t:Array Va)(m:Array Va)(w:Wo)(R:RT):=NB w λa=>∀c b,Q0 [] w b->w.heap.size<=c->b.heap[c]? = some (Obj.cells ([I u]:LV).toArray Qg (0,0))->c∉([a]:List Nat)->∀g d,Q0 [a] b d->b.heap.size<=g->d.heap[g]? = some (Obj.cells ([I n]:LV).toArray Qg (0,0))->g∉([a]:List Nat)->∀f e,Q0 [a] d e->d.heap.size<=f->e.heap[f]? = some (Obj.cells ([.func l t m]:LV).toArray 55 (0,0))->f∉([a]:List Nat)->NB e λh=>CVx [a] [a,h] Vo #[Wv y z s A D B F C x E,.func (.func JB) #[] #[.pointer ((some (Addr.mk g 0 none)).map (·.add 0)),.pointer ((some (Addr.mk c 0 none)).map (·.add 0)),.pointer ((some (Addr.mk f 0 none)).map (·.add 0))]] e λo k q K i J p G H j r v=>AR [a,h] v R (.tuple #[Wv o k q K i J p G H j,I r])
def CF(a b c d e f g h i j k l m n o):JI (C2 a b c d e f g h i j k l m n o) Ov #[Wv a b c d e f g h i j,I k,I l,.func m n o]:=eV [5,6,7] false [] Tryz.func19 Qk Qk
def EZ(b a:Int)(w:Wo)(R:RT):=R (.tuple #[]) w
def B9(a b):YR (EZ a b) XB #[I a,I b]:=pV [] false [] Tryz.func20 Qk Qk
def AQ(m:Int)(o:OA)(h p:Nat)(u:OA)(s x:Nat)(t:OA)(k v:Nat)(i e:Int)(w:Wo)(R:RT):=NB w λa=>NB w λb=>CVx [] [a,b] Ov #[Wv m o h p u s x t k v,I i,I e,.func (.func XB) #[] #[]] w λd f r y n A q l z g c j=>AR [a,b] j R (.tuple #[Wv d f r y n A q l z g,I c])
def CC(a b c d e f g h i j k l):JI (AQ a b c d e f g h i j k l) Jf #[Wv a b c d e f g h i j,I k,I l]:=eV [] false [] Tryz.func9 Qk Qk
def zgb(l o u:Int)(k:OA)(d B:Nat)(q:OA)(g A:Nat)(r n s:Int)(p:OA)(e z:Nat)(t:OA)(j y:Nat)(w:Wo)(R:RT):=NB w λv=>NB w λx=>Bf (((((l != r)||(o != n))||(u != s))||((d:Int) != (e:Int)))||((g:Int) != (j:Int))) (R (.bool false) w) (∃(h:LP) (m:LN),h [I 0]/\∀(a:Int),h [I a]->Bf (decide (a<(d:Int))) (Ix k d a/\∃c,Q1 [] w k (a.toNat*1) [I c]/\Ix p e a/\∃b,Q1 [] w p (a.toNat*1) [I b]/\((c != b)=false->Ix q g a)/\∃f,((c != b)=false->Q1 [] w q (a.toNat*1) [.bool f])/\((c != b)=false->Ix t j a)/\∃i,((c != b)=false->Q1 [] w t (a.toNat*1) [.bool i])/\Bf ((c != b)||(!(f==i))) (R (.bool false) w) (Qz (a+1)/\h [I (a+1)]/\m [I (a+1)]<m [I a])) (R (.bool true) w))
def zh0(a b c d e f g h i j k l m n o p q r):YR (zgb a b c d e f g h i j k l m n o p q r) Mo #[.agg #[I a,I b,I c,S d e f,S g h i],.agg #[I j,I k,I l,S m n o,S p q r]]:=pV [] false [(4,⟨[(5,Ri)],[],[2,3],[],[]⟩)] Tryz.func69 Qk Qk
def zbw(f:Bool)(p:Int)(E:ByteArray)(k u G t r a8 a2 a1:Int)(T:OA)(Q a5:Nat)(V:OA)(X Z:Nat)(L:OA)(b a9:Nat)(z:Bool)(o:Int)(A:ByteArray)(x v l y h a7 a0 N:Int)(a6:OA)(U O:Nat)(a3:OA)(P a4:Nat)(J:OA)(D b0:Nat)(w:Wo)(R:RT):=NB w λM=>NB w λY=>∃d,(((((((((!(f==z))||(p != o))||(!ZC E A))||(k != x))||(u != v))||(G != l))||(t != y))||(r != h))=false->PX [] Mo #[.agg #[I a8,I a2,I a1,S T Q a5,S V X Z],.agg #[I a7,I a0,I N,S a6 U O,S a3 P a4]] w (.bool d))/\Bf ((((((((((!(f==z))||(p != o))||(!ZC E A))||(k != x))||(u != v))||(G != l))||(t != y))||(r != h))||(!d))||((b:Int) != (D:Int))) (R (.bool false) w) (∃(n:LP) (H:LN),n [I 0]/\∀(a:Int),n [I a]->Bf (decide (a<(b:Int))) (Ix L b a/\∃i e m q B,Q1 [] w L (a.toNat*5) [I i,.bool e,I m,I q,I B]/\Ix J D a/\∃F c g j C,Q1 [] w J (a.toNat*5) [I F,.bool c,I g,I j,I C]/\∃s,(∀K,((do eqGuard .neq ZO (.tmp 88) (.tmp 93) (.agg #[I i,.bool e,I m,I q,I B]) (.agg #[I F,.bool c,I g,I j,I C]);binOp .neq ZO (.agg #[I i,.bool e,I m,I q,I B]) (.agg #[I F,.bool c,I g,I j,I C])):Sem Va).run Tryz.prog K=.ok (.bool s) K)/\Bf s (R (.bool false) w) (Qz (a+1)/\n [I (a+1)]/\H [I (a+1)]<H [I a])) (R (.bool true) w))
def zex(a b c d e f g h i j k l m n o p q r s t u v w x y z A B C D E F G H J K L M N O):YR (zbw a b c d e f g h i j k l m n o p q r s t u v w x y z A B C D E F G H J K L M N O) Pr #[.agg #[.bool a,I b,.string c,I d,I e,I f,I g,I h,I i,I j,I k,S l m n,S o p q,S r s t],.agg #[.bool u,I v,.string w,I x,I y,I z,I A,I B,I C,I D,I E,S F G H,S J K L,S M N O]]:=pV [] false [(4,⟨[(5,Ri)],[],[2,3],[],[]⟩)] Tryz.func32 Qk Qk
def zgd(c5:Int)(b3:OA)(d f2:Nat)(c3:OA)(f f5:Nat)(Y:OA)(e f6:Nat)(c2:Int)(c8:OA)(j f1:Nat)(a0:OA)(L f3:Nat)(d2:OA)(k f4:Nat)(w:Wo)(R:RT):=NB w λe9=>NB w λf0=>Bf ((((c5 != c2)||((d:Int) != (j:Int)))||((f:Int) != (L:Int)))||((e:Int) != (k:Int))) (R (.bool false) w) (∃(q:LP) (d9:LN),q [I 0]/\∀(a:Int),q [I a]->Bf (decide (a<(d:Int))) (Ix b3 d a/\∃D i l s O,Q1 [] w b3 (a.toNat*5) [.bool D,I i,I l,I s,I O]/\Ix c8 j a/\∃U h B J o,Q1 [] w c8 (a.toNat*5) [.bool U,I h,I B,I J,I o]/\∃u,(∀a9,((do eqGuard .neq Zi (.tmp 51) (.tmp 56) (.agg #[.bool D,I i,I l,I s,I O]) (.agg #[.bool U,I h,I B,I J,I o]);binOp .neq Zi (.agg #[.bool D,I i,I l,I s,I O]) (.agg #[.bool U,I h,I B,I J,I o])):Sem Va).run Tryz.prog a9=.ok (.bool u) a9)/\Bf u (R (.bool false) w) (Qz (a+1)/\q [I (a+1)]/\d9 [I (a+1)]<d9 [I a])) (∃(H:LP) (a1:LN),H [I 0]/\∀(c:Int),H [I c]->Bf (decide (c<(f:Int))) (Ix c3 f c/\∃K Q M C P y p T G,Q1 [] w c3 (c.toNat*9) [I K,I Q,I M,I C,I P,I y,I p,I T,I G]/\Ix a0 L c/\∃g n r F t v N m z,Q1 [] w a0 (c.toNat*9) [I g,I n,I r,I F,I t,I v,I N,I m,I z]/\∃x,(∀Z,((do eqGuard .neq QQ (.tmp 69) (.tmp 74) (.agg #[I K,I Q,I M,I C,I P,I y,I p,I T,I G]) (.agg #[I g,I n,I r,I F,I t,I v,I N,I m,I z]);binOp .neq QQ (.agg #[I K,I Q,I M,I C,I P,I y,I p,I T,I G]) (.agg #[I g,I n,I r,I F,I t,I v,I N,I m,I z])):Sem Va).run Tryz.prog Z=.ok (.bool x) Z)/\Bf x (R (.bool false) w) (Qz (c+1)/\H [I (c+1)]/\a1 [I (c+1)]<a1 [I c])) (∃(A:LP) (a3:LN),A [I 0]/\∀(b:Int),A [I b]->Bf (decide (b<(e:Int))) (Ix Y e b/\∃(e7:Bool) (d7:Int) (b0:ByteArray) (b2 e1 e2 X e3 a4 b6 d5:Int) (d0:OA) (c9 b4:Nat) (a5:OA) (c7 b9:Nat) (b5:OA) (a7 b1:Nat),Q1 [] w Y (b.toNat*14) [.bool e7,I d7,.string b0,I b2,I e1,I e2,I X,I e3,I a4,I b6,I d5,S d0 c9 b4,S a5 c7 b9,S b5 a7 b1]/\Ix d2 k b/\∃(c4:Bool) (d3:Int) (d4:ByteArray) (V d6 a8 a6 e6 d8 c6 c0:Int) (d1:OA) (e5 e8:Nat) (a2:OA) (e4 e0:Nat) (b7:OA) (b8 c1:Nat),Q1 [] w d2 (b.toNat*14) [.bool c4,I d3,.string d4,I V,I d6,I a8,I a6,I e6,I d8,I c6,I c0,S d1 e5 e8,S a2 e4 e0,S b7 b8 c1]/\∃E,PX [] Pr #[.agg #[.bool e7,I d7,.string b0,I b2,I e1,I e2,I X,I e3,I a4,I b6,I d5,S d0 c9 b4,S a5 c7 b9,S b5 a7 b1],.agg #[.bool c4,I d3,.string d4,I V,I d6,I a8,I a6,I e6,I d8,I c6,I c0,S d1 e5 e8,S a2 e4 e0,S b7 b8 c1]] w (.bool E)/\Bf (!E) (R (.bool false) w) (Qz (b+1)/\A [I (b+1)]/\a3 [I (b+1)]<a3 [I b])) (R (.bool true) w))))
def zh2(a b c d e f g h i j k l m n o p q r s t):YR (zgd a b c d e f g h i j k l m n o p q r s t) Tr #[Wv a b c d e f g h i j,Wv k l m n o p q r s t]:=pV [] false [(4,⟨[(5,Ri)],[],[2,3],[],[]⟩),(9,⟨[(6,Ri)],[],[2,3],[],[]⟩),(14,⟨[(7,Ri)],[],[2,3],[],[]⟩)] Tryz.func11 Qk Qk
def zbv(b1:OA)(p c1:Nat)(x:OA)(j v:Nat)(w:Wo)(R:RT):=Bf ((decide ((p:Int)>1048576))||(decide ((j:Int)>1048576))) (AR [] w R (.bool true)) (CW [] Tu #[S b1 p c1] w λE t c F r y s A B D m=>NB m λa=>∃e,PX [] Uu #[S x j v,I 0] m (I e)/\(c:Int)≠0/\∃i,PX [] Uu #[S x j v,I 1] m (I i)/\(60:Int)≠0/\Qz (1+(Int.tmod i 60))/\∃k,PX [] Uu #[S x j v,I 2] m (I k)/\(40:Int)≠0/\Qz (1+(Int.tmod k 40))/\CVx [] [a] Jf #[Wv E t c F r y s A B D,I (Int.tmod e (c:Int)),I (1+(Int.tmod i 60))] m λG h n T V M H U P K d Q=>NB Q λb=>CVx [a] [a,b] UM #[Wv E t c F r y s A B D,I (Int.tmod e (c:Int)),I (1+(Int.tmod i 60))] Q λa8 c3 a9 c8 a7 a5 b8 a3 b0 b3 u f=>NB f λg=>∃z,((d != u)=false->PX [a,b] Tr #[Wv G h n T V M H U P K,Wv a8 c3 a9 c8 a7 a5 b8 a3 b0 b3] f (.bool z))/\Bf ((d != u)||(!z)) (AR [a,b] f R (.bool false)) (((d != 0)=false->Ix h n (Int.tmod e (c:Int)))/\∃l,((d != 0)=false->Q1 [a,b] f h (Int.toNat (Int.tmod e (c:Int))*5+1) [I l])/\(((d != 0)||(decide (l<0)))=false->Ix h n (Int.tmod e (c:Int)))/\∃q,(((d != 0)||(decide (l<0)))=false->Q1 [a,b] f h (Int.toNat (Int.tmod e (c:Int))*5+2) [I q])/\Bf (((d != 0)||(decide (l<0)))||(decide (q>=50))) (AR [a,b] f R (.bool true)) (CVx [a,b] [a,b,g] Jf #[Wv G h n T V M H U P K,I (Int.tmod e (c:Int)),I (1+(Int.tmod k 40))] f λc2 Z c9 a1 Y c4 b6 b4 a2 c0 L O=>NB O λo=>Qz ((1+(Int.tmod i 60))+(1+(Int.tmod k 40)))/\CVx [a,b,g] [a,b,g,o] Jf #[Wv E t c F r y s A B D,I (Int.tmod e (c:Int)),I ((1+(Int.tmod i 60))+(1+(Int.tmod k 40)))] O λb2 b5 a0 c7 c6 X b7 a4 b9 c5 N C=>NB C λa6=>∃J,((L==N)->PX [a,b,g,o] Tr #[Wv c2 Z c9 a1 Y c4 b6 b4 a2 c0,Wv b2 b5 a0 c7 c6 X b7 a4 b9 c5] C (.bool J))/\AR [a,b,g,o] C R (.bool ((L==N)&&J)))))
def zc2(a b c d e f):JI (zbv a b c d e f) Gh #[S a b c,S d e f]:=eV [] false [] Tryz.func4 Qk Qk
def Gr(c:OA)(d:Int)(w:Wo)(R:RT):=c.isSome/\∃f a e,Q1 [] w c (0+1) [S f a e]/\Qz ((a:Int)-1)/\∃b,PX [] Qy #[I d,I 0,I ((a:Int)-1)] w (.bool b)/\R (.bool b) w
def GD(a b):YR (Gr a b) Jz #[.pointer a,I b]:=pV [] false [] Tryz.func49 Qk Qk
def zkb(e:OA)(d g:Nat)(w:Wo)(R:RT):=∃(c:LP) (f:LN),c [I 0]/\∀(a:Int),c [I a]->Bf (decide (a<(d:Int))) (Ix e d a/\∃b,Q1 [] w e (a.toNat*1) [I b]/\Bf (decide (b>50000000000000000)) (R (.bool false) w) (Qz (a+1)/\c [I (a+1)]/\f [I (a+1)]<f [I a])) (R (.bool true) w)
def zl6(a b c):YR (zkb a b c) Yb #[S a b c]:=pV [] false [(2,⟨[(7,Ri)],[],[5,6],[],[]⟩)] Tryz.func85 Qk Qk
def F2(k:OA)(w:Wo)(R:RT):=k.isSome/\∃a7,Q1 [] w k (0+0) [I a7]/\NB w λH=>∃a4,(∀N,Q0 [] w N->N.heap[H]? = some (Obj.cells ([I a7]:LV).toArray Qg (0,0))->PX [] Yb #[S (some (Addr.mk H 0 none)) 1 1] N (.bool a4))/\k.isSome/\∃T q c7,Q1 [] w k (0+1) [S T q c7]/\∃(r:LP) (x:LN),r [.bool a4,I 0]/\∀(h:Bool) (a:Int),r [.bool h,I a]->Bf (decide (a<(q:Int))) (Ix T q a/\∃d1 b4 b6 a3 b1,Q1 [] w T (a.toNat*5) [.bool d1,I b4,I b6,I a3,I b1]/\NB w λc6=>(h->NB w λF=>∃L,(h->∀J,Q0 [] w J->J.heap[F]? = some (Obj.cells ([I a3,I b1]:LV).toArray Qg (0,0))->PX [] Yb #[S (some (Addr.mk F 0 none)) 2 2] J (.bool L))/\Qz (a+1)/\r [.bool (h&&L),I (a+1)]/\x [.bool (h&&L),I (a+1)]<x [.bool h,I a])/\((h->False)->Qz (a+1)/\r [.bool false,I (a+1)]/\x [.bool false,I (a+1)]<x [.bool h,I a])) (k.isSome/\∃M y c2,Q1 [] w k (0+2) [S M y c2]/\∃(v:LP) (n:LN),v [.bool h,I 0]/\∀(i:Bool) (d:Int),v [.bool i,I d]->Bf (decide (d<(y:Int))) (Ix M y d/\∃f0 b3 c9 e3 c3 a6 a1 b2 e1,Q1 [] w M (d.toNat*9) [I f0,I b3,I c9,I e3,I c3,I a6,I a1,I b2,I e1]/\NB w λb9=>(i->NB w λK=>∃Q,(i->∀O,Q0 [] w O->O.heap[K]? = some (Obj.cells ([I a6,I a1,I b2]:LV).toArray Qg (0,0))->PX [] Yb #[S (some (Addr.mk K 0 none)) 3 3] O (.bool Q))/\Qz (d+1)/\v [.bool (i&&Q),I (d+1)]/\n [.bool (i&&Q),I (d+1)]<n [.bool i,I d])/\((i->False)->Qz (d+1)/\v [.bool false,I (d+1)]/\n [.bool false,I (d+1)]<n [.bool i,I d])) (k.isSome/\∃X p b8,Q1 [] w k (0+3) [S X p b8]/\∃(t:LP) (o:LN),t [.bool i,I 0]/\∀(j:Bool) (c:Int),t [.bool j,I c]->Bf (decide (c<(p:Int))) (Ix X p c/\∃(e5:Bool) (e9:Int) (e6:ByteArray) (d0 e8 e4 e7 Z c8 d2 e2:Int) (d9:OA) (d6 c1:Nat) (b7:OA) (d4 c4:Nat) (m:OA) (l d5:Nat),Q1 [] w X (c.toNat*14) [.bool e5,I e9,.string e6,I d0,I e8,I e4,I e7,I Z,I c8,I d2,I e2,S d9 d6 c1,S b7 d4 c4,S m l d5]/\NB w λc5=>(j->NB w λE=>∃a9,(j->∀U,Q0 [] w U->U.heap[E]? = some (Obj.cells ([I Z]:LV).toArray Qg (0,0))->PX [] Yb #[S (some (Addr.mk E 0 none)) 1 1] U (.bool a9))/\∃(z:LP) (A:LN),z [.bool (j&&a9),I 0]/\∀(g:Bool) (e:Int),z [.bool g,I e]->Bf (decide (e<(l:Int))) (Ix m l e/\∃Y e0 a2 d7 a5,Q1 [] w m (e.toNat*5) [I Y,.bool e0,I a2,I d7,I a5]/\NB w λb5=>(g->NB w λP=>∃G,(g->∀C,Q0 [] w C->C.heap[P]? = some (Obj.cells ([I Y,I a2,I a5]:LV).toArray Qg (0,0))->PX [] Yb #[S (some (Addr.mk P 0 none)) 3 3] C (.bool G))/\Qz (e+1)/\z [.bool (g&&G),I (e+1)]/\A [.bool (g&&G),I (e+1)]<A [.bool g,I e])/\((g->False)->Qz (e+1)/\z [.bool false,I (e+1)]/\A [.bool false,I (e+1)]<A [.bool g,I e])) (Qz (c+1)/\t [.bool g,I (c+1)]/\o [.bool g,I (c+1)]<o [.bool j,I c]))/\((j->False)->∃(u:LP) (s:LN),u [.bool false,I 0]/\∀(f:Bool) (b:Int),u [.bool f,I b]->Bf (decide (b<(l:Int))) (Ix m l b/\∃b0 d3 a0 c0 a8,Q1 [] w m (b.toNat*5) [I b0,.bool d3,I a0,I c0,I a8]/\NB w λd8=>(f->NB w λB=>∃D,(f->∀V,Q0 [] w V->V.heap[B]? = some (Obj.cells ([I b0,I a0,I a8]:LV).toArray Qg (0,0))->PX [] Yb #[S (some (Addr.mk B 0 none)) 3 3] V (.bool D))/\Qz (b+1)/\u [.bool (f&&D),I (b+1)]/\s [.bool (f&&D),I (b+1)]<s [.bool f,I b])/\((f->False)->Qz (b+1)/\u [.bool false,I (b+1)]/\s [.bool false,I (b+1)]<s [.bool f,I b])) (Qz (c+1)/\t [.bool f,I (c+1)]/\o [.bool f,I (c+1)]<o [.bool j,I c]))) (R (.bool j) w)))
def Bc(a):YR (F2 a) VI #[.pointer a]:=pV [] false [(3,⟨[(3,.bool),(23,Ri)],[],[0,21,22],[],[]⟩),(8,⟨[(3,.bool),(42,Ri)],[],[0,40,41],[],[]⟩),(13,⟨[(3,.bool),(63,Ri)],[],[61,62],[],[]⟩),(17,⟨[(3,.bool),(77,Ri)],[],[61,62,63,75,76],[],[]⟩)] Tryz.func50 Qk Qk
def AU(b:OA)(c:Int)(w:Wo)(R:RT):=NB w λe=>b.isSome/\∃a d f,Q1 [] w b (0+1) [S a d f]/\Ix a d c/\R (.pointer (a.map (·.add (c.toNat*5)))) w
def zaf(a b):YR (AU a b) ZM #[.agg #[.pointer a,I b]]:=pV [] false [] Tryz.func86 Qk Qk
def Df(f:OA)(z M:Int)(w:Wo)(R:RT):=NB w λa=>f.isSome/\∃x r b0,Q1 [] w f (0+2) [S x r b0]/\∃(s:LQ) (p:LM),(AX [] [a] w λa8=>s [S none 0 0,I 0] a8)/\∀(h:OA) (l k:Nat) (b:Int) d,(∀bq∈[a],bq<d.heap.size)->s [S h l k,I b] d->Bf (decide (b<(r:Int))) (Ix x r b/\∃Q O V Z a3 a2 U a6 a1,Q1 [a] d x (b.toNat*9) [I Q,I O,I V,I Z,I a3,I a2,I U,I a6,I a1]/\NB d λo=>∃u,PX [a] Xl #[.agg #[.pointer f,I z],I b,I M] d (.bool u)/\Bf u (NB d λn=>AX [a] [a,o,n] d λv=>v.heap[n]? = some (Obj.cells ([.iface XK (.agg #[I b,I Q,I O,I V,I Z,I a3,I a2,I U,I a6,I a1])]:LV).toArray Zx (0,0))->∃H E C,∃K,(builtin .append #[ZU,ZU] ZU #[false,false] #[S h l k,S (some (Addr.mk n 0 none)) 1 1]).run Tryz.prog v=.ok (.value (S H E C)) K/\Q9 [a,o,n] v K/\Qz (b+1)/\AY [a,o,n] K λX=>s [S H E C,I (b+1)] X/\p [S H E C,I (b+1)] X<p [S h l k,I b] d) (Qz (b+1)/\AX [a] [a,o] d λa4=>s [S h l k,I (b+1)] a4/\p [S h l k,I (b+1)] a4<p [S h l k,I b] d)) (f.isSome/\∃b1 B a9,Q1 [a] d f (0+3) [S b1 B a9]/\∃(t:LQ) (q:LM),(AY [a] d λb2=>t [S h l k,I 0] b2)/\∀(i:OA) (j g:Nat) (c:Int) e,(∀bq∈[a],bq<e.heap.size)->t [S i j g,I c] e->Bf (decide (c<(B:Int))) (∃D,PX [a] XC #[.agg #[.pointer f,I z],I c,I M] e (.bool D)/\Bf D (∃J,PX [a] QC #[.agg #[.pointer f,I z],I c] e (.pointer J)/\J.isSome/\∃a7 N P T a5,Q1 [a] e J 0 [I a7,.bool N,I P,I T,I a5]/\NB e λm=>AX [a] [a,m] e λy=>y.heap[m]? = some (Obj.cells ([.iface Jd (.agg #[I c,I a7,.bool N,I P,I T,I a5])]:LV).toArray Zx (0,0))->∃A L G,∃F,(builtin .append #[ZU,ZU] ZU #[false,false] #[S i j g,S (some (Addr.mk m 0 none)) 1 1]).run Tryz.prog y=.ok (.value (S A L G)) F/\Q9 [a,m] y F/\Qz (c+1)/\AY [a,m] F λY=>t [S A L G,I (c+1)] Y/\q [S A L G,I (c+1)] Y<q [S i j g,I c] e) (Qz (c+1)/\AY [a] e λa0=>t [S i j g,I (c+1)] a0/\q [S i j g,I (c+1)] a0<q [S i j g,I c] e)) (AR [a] e R (S i j g)))
def Dp(a b c):JI (Df a b c) Ut #[.agg #[.pointer a,I b],I c]:=eV [] false [(3,⟨[(5,Rs),(15,Ri)],[],[1,2,13,14],[],[]⟩),(9,⟨[(5,Rs),(38,Ri)],[],[1,2,37],[],[]⟩)] Tryz.func129 Qk Qk
def JZ(e:OA)(d u:Nat)(q:Fn)(p:Array Va)(t:Array Va)(w:Wo)(R:RT):=Bf (decide ((d:Int)<1)) (False) (Ix e d 0/\∃(l:Va),Q1 [] w e (Int.toNat 0*1) [l]/\∃(g:LQ) (f:LM),(AY [] w λs=>g [l,I 1] s)/\∀(b:Va) (a:Int) c,(∀bq∈([]:List Nat),bq<c.heap.size)->g [b,I a] c->Bf (decide (a<(d:Int))) (Ix e d a/\∃(m:Va),Q1 [] c e (a.toNat*1) [m]/\AY [] c λk=>O7 Tryz.prog (.func q p t) [m,b] k λr h=>∃i,r=.returned (I i)/\Q9 [] k h/\Bf (decide (i<0)) (Ix e d a/\∃(j:Va),Q1 [] h e (a.toNat*1) [j]/\Qz (a+1)/\AY [] h λn=>g [j,I (a+1)] n/\f [j,I (a+1)] n<f [b,I a] c) (Qz (a+1)/\AY [] h λo=>g [b,I (a+1)] o/\f [b,I (a+1)] o<f [b,I a] c)) (AR [] c R b))
def U1(a b c d e f):JI (JZ a b c d e f) ZJ #[S a b c,.func d e f]:=eV [] false [(5,⟨[(5,.other),(6,Ri)],[],[0,1],[],[]⟩)] Tryz.func130 Qk Qk
def AN(a:Int)(w:Wo)(R:RT):=R (.bool (a != a)) w
def zac(a):YR (AN a) UH #[I a]:=pV [] false [] Tryz.func173 Qk Qk
def EX(b a:Int)(w:Wo)(R:RT):=∃(d:Bool),PX [] UH #[I b] w (.bool d)/\∃c,PX [] UH #[I a] w (.bool c)/\Bf d (Bf c (R (I 0) w) (R (I (-1)) w)) (Bf c (R (I 1) w) (Bf (decide (b<a)) (R (I (-1)) w) (Bf (decide (b>a)) (R (I 1) w) (R (I 0) w))))
def B8(a b):YR (EX a b) VF #[I a,I b]:=pV [] false [] Tryz.func132 Qk Qk
def E4 (o:Va) (l:Va) (w:Wo) (R:RT):= (AY [] w λa =>  (∃ (d : FuncId) (e : Array Value), (zcp "loop.example/stint/impl.time" o []).run Tryz.prog a = .ok (.enter d e) a ∧ Cz d e a λn h=>(∃k,n=.returned (I k)/\Q9 [] a h/\(AY [] h λb =>  (∃ (j : FuncId) (g : Array Value), (zcp "loop.example/stint/impl.time" l []).run Tryz.prog b = .ok (.enter j g) b ∧ Cz j g b λm c=>(∃f,m=.returned (I f)/\Q9 [] b c/\(∃(i:Int),PX [] VF #[I k,I f] c (I i)/\(AR [] c R (I i)))))))))
def Eh(a b):JI (E4 a b) YH #[a,b]:=eV [] false [] Tryz.func131 Qk Qk
def BL(q:OA)(v:Int)(w:Wo)(R:RT):=NB w λa=>∃b,PX [] ZM #[.agg #[.pointer q,I v]] w (.pointer b)/\b.isSome/\∃p,Q1 [] w b (0+0) [.bool p]/\Bf (!p) (AR [] w R (I (-1))) (b.isSome/\∃e,Q1 [] w b (0+1) [I e]/\((e != (-1))->b.isSome)/\∃l,((e != (-1))->Q1 [] w b (0+2) [I l])/\Bf ((e != (-1))&&(decide (l<50))) (b.isSome/\∃x,Q1 [] w b (0+1) [I x]/\AR [] w R (I x)) (∃(h:LQ) (g:LM),(AX [] [a] w λM=>h [I 0] M)/\∀(c:Int) f,(∀bq∈[a],bq<f.heap.size)->h [I c] f->AY [a] f λD=>Cz Ut #[.agg #[.pointer q,I v],I c] D λN o=>∃A i s,N=.returned (S A i s)/\Q9 [a] D o/\Bf ((i:Int)==0) (AR [a] o R (I (-1))) (AY [a] o λu=>Cz ZJ #[S A i s,.func (.func YH) #[] #[]] u λQ d=>∃(k:Va),Q=.returned k/\Q9 [a] u d/\∃z O T K E P Z H F V m,(∀y,(Instr.typeAssert k Zx XK true).run Tryz.prog y=.ok (.tuple #[.agg #[I z,I O,I T,I K,I E,I P,I Z,I H,I F,I V],.bool m]) y)/\Bf m (NB d λL=>AR [a] d R (I z)) (∃j G Y J X U n,(∀t,(Instr.typeAssert k Zx Jd true).run Tryz.prog t=.ok (.tuple #[.agg #[I j,I G,.bool Y,I J,I X,I U],.bool n]) t)/\Bf n (NB d λC=>AX [a] [a,C] d λB=>h [I j] B/\g [I j] B<g [I c] f) (AY [a] d λr=>h [I c] r/\g [I c] r<g [I c] f)))))
def N9(a b):JI (BL a b) Tk #[.agg #[.pointer a,I b]]:=eV [] false [(7,⟨[(4,Ri)],[],[1],[],[]⟩)] Tryz.func87 Qk Qk
def GW(c:OA)(d:Int)(w:Wo)(R:RT):=NB w λe=>∃a,PX [] ZM #[.agg #[.pointer c,I d]] w (.pointer a)/\∃b,PX [] ZM #[.agg #[.pointer c,I d]] w (.pointer b)/\a.isSome/\Xh [] w a (0+1) 1/\b.isSome/\Xh [] (Rw w a (0+1) [I (-1)]) b (0+2) 1/\AR [] (Rw (Rw w a (0+1) [I (-1)]) b (0+2) [I 0]) R (.tuple #[])
def H2(a b):JI (GW a b) Yp #[.agg #[.pointer a,I b]]:=eV [] false [] Tryz.func88 Qk Qk
def AO(d:OA)(w:Wo)(R:RT):=d.isSome/\∃k e m,Q1 [] w d (0+4) [S k e m]/\∃(f:LQ) (i:LM),(AY [] w λj=>f [I 0] j)/\∀(a:Int) b,(∀bq∈([]:List Nat),bq<b.heap.size)->f [I a] b->Bf (decide (a<(e:Int))) (d.isSome/\∃c g l,Q1 [] b d (0+4) [S c g l]/\Ix c g a/\Xh [] b c (a.toNat*1) 1/\Qz (a+1)/\AY [] (Rw b c (a.toNat*1) [.bool false]) λh=>f [I (a+1)] h/\i [I (a+1)] h<i [I a] b) (AR [] b R (.tuple #[]))
def CB(a):JI (AO a) UI #[.pointer a]:=eV [] false [(1,⟨[(8,Ri)],[],[0,7],[],[]⟩)] Tryz.func194 Qk Qk
def Da(a:OA)(w:Wo)(R:RT):=a.isSome/\∃d,Q1 [] w a (0+0) [I d]/\a.isSome/\Xh [] w a (0+1) 1/\a.isSome/\Xh [] (Rw w a (0+1) [I d]) a (0+2) 1/\a.isSome/\∃n f p,Q1 [] (Rw (Rw w a (0+1) [I d]) a (0+2) [I 0]) a (0+3) [S n f p]/\∃(g:LQ) (k:LM),(AY [] (Rw (Rw w a (0+1) [I d]) a (0+2) [I 0]) λm=>g [I 0] m)/\∀(b:Int) c,(∀bq∈([]:List Nat),bq<c.heap.size)->g [I b] c->Bf (decide (b<(f:Int))) (a.isSome/\∃e l o,Q1 [] c a (0+3) [S e l o]/\Ix e l b/\Xh [] c e (b.toNat*1) 1/\Qz (b+1)/\AY [] (Rw c e (b.toNat*1) [I 0]) λh=>g [I (b+1)] h/\k [I (b+1)] h<k [I b] c) (AY [] c λj=>Cz UI #[.pointer a] j λq i=>q=.returned (.tuple #[])/\Q9 [] j i/\AR [] i R (I 0))
def Dj(a):JI (Da a) Uq #[.pointer a]:=eV [] false [(3,⟨[(19,Ri)],[],[0,18],[],[]⟩)] Tryz.func174 Qk Qk
def EY(a:OA)(c:Int)(w:Wo)(R:RT):=a.isSome/\∃g i m,Q1 [] w a (0+3) [S g i m]/\Ix g i c/\∃h,Q1 [] w g (c.toNat*1) [I h]/\Bf (decide (h>0)) (AR [] w R (I 0)) (a.isSome/\∃b,Q1 [] w a (0+1) [I b]/\Bf ((if b<20 then b else 20)==0) (a.isSome/\∃e j n,Q1 [] w a (0+4) [S e j n]/\Ix e j c/\Xh [] w e (c.toNat*1) 1/\AR [] (Rw w e (c.toNat*1) [.bool true]) R (I 2)) (a.isSome/\∃d,Q1 [] w a (0+1) [I d]/\Qz (d-(if b<20 then b else 20))/\a.isSome/\Xh [] w a (0+1) 1/\a.isSome/\∃f k l,Q1 [] (Rw w a (0+1) [I (d-(if b<20 then b else 20))]) a (0+3) [S f k l]/\Ix f k c/\Xh [] (Rw w a (0+1) [I (d-(if b<20 then b else 20))]) f (c.toNat*1) 1/\AR [] (Rw (Rw w a (0+1) [I (d-(if b<20 then b else 20))]) f (c.toNat*1) [I (if b<20 then b else 20)]) R (I 0)))
def Ft(a b):JI (EY a b) VG #[.pointer a,I b]:=eV [] false [] Tryz.func175 Qk Qk
def DZ(b:OA)(c a:Int)(w:Wo)(R:RT):=((decide (a<1))=false->b.isSome)/\∃f j l,((decide (a<1))=false->Q1 [] w b (0+3) [S f j l])/\((decide (a<1))=false->Ix f j c)/\∃g,((decide (a<1))=false->Q1 [] w f (c.toNat*1) [I g])/\Bf ((decide (a<1))||(decide (a>g))) (AR [] w R (I 3)) (b.isSome/\∃d h k,Q1 [] w b (0+3) [S d h k]/\Ix d h c/\∃e,Q1 [] w d (c.toNat*1) [I e]/\Qz (e-a)/\Ix d h c/\Xh [] w d (c.toNat*1) 1/\b.isSome/\∃i,Q1 [] (Rw w d (c.toNat*1) [I (e-a)]) b (0+2) [I i]/\Qz (i+a)/\b.isSome/\Xh [] (Rw w d (c.toNat*1) [I (e-a)]) b (0+2) 1/\AR [] (Rw (Rw w d (c.toNat*1) [I (e-a)]) b (0+2) [I (i+a)]) R (I 0))
def Eg(a b c):JI (DZ a b c) V7 #[.pointer a,I b,I c]:=eV [] false [] Tryz.func176 Qk Qk
def Db(a:OA)(b:Int)(w:Wo)(R:RT):=a.isSome/\∃c,Q1 [] w a (0+1) [I c]/\a.isSome/\∃f h m,Q1 [] w a (0+3) [S f h m]/\Ix f h b/\∃d,Q1 [] w f (b.toNat*1) [I d]/\Qz (c+d)/\a.isSome/\Xh [] w a (0+1) 1/\a.isSome/\∃e k l,Q1 [] (Rw w a (0+1) [I (c+d)]) a (0+3) [S e k l]/\Ix e k b/\Xh [] (Rw w a (0+1) [I (c+d)]) e (b.toNat*1) 1/\a.isSome/\∃g,Q1 [] (Rw (Rw w a (0+1) [I (c+d)]) e (b.toNat*1) [I 0]) a (0+1) [I g]/\Bf (decide (g>0)) (AY [] (Rw (Rw w a (0+1) [I (c+d)]) e (b.toNat*1) [I 0]) λi=>Cz UI #[.pointer a] i λn j=>n=.returned (.tuple #[])/\Q9 [] i j/\AR [] j R (I 0)) (AR [] (Rw (Rw w a (0+1) [I (c+d)]) e (b.toNat*1) [I 0]) R (I 0))
def Dk(a b):JI (Db a b) Ur #[.pointer a,I b]:=eV [] false [] Tryz.func177 Qk Qk
def zbp(c:OA)(b d h:Int)(w:Wo)(R:RT):=NB w λa=>Bf (b==4) (CIx [] [a] Uq #[.pointer c] w λp o=>AR [a] o R (I p)) (c.isSome/\∃i e m,Q1 [] w c (0+3) [S i e m]/\Qz ((e:Int)-1)/\∃f,PX [] Qy #[I d,I 0,I ((e:Int)-1)] w (.bool f)/\Bf (!f) (AR [] w R (I 1)) (Bf (b==1) (CIx [] [a] VG #[.pointer c,I d] w λj l=>AR [a] l R (I j)) (Bf (b==2) (CIx [] [a] V7 #[.pointer c,I d,I h] w λq n=>AR [a] n R (I q)) (Bf (b==3) (CIx [] [a] Ur #[.pointer c,I d] w λg k=>AR [a] k R (I g)) (AR [] w R (I 1))))))
def zcz(a b c d):JI (zbp a b c d) JL #[.pointer a,.agg #[I b,I c,I d]]:=eV [] false [] Tryz.func134 Qk Qk
def E1(g:OA)(i:Int)(w:Wo)(R:RT):=∃(e:LP) (h:LN),e [I i,I 0]/\∀(b a:Int),e [I b,I a]->Bf (b != 0) (Qz (a+1)/\g.isSome/\∃c f j,Q1 [] w g (0+3) [S c f j]/\Ix c f b/\∃d,Q1 [] w c (b.toNat*14+1) [I d]/\e [I d,I (a+1)]/\h [I d,I (a+1)]<h [I b,I a]) (R (I a) w)
def Ez(a b):YR (E1 a b) V8 #[.pointer a,I b]:=pV [] false [(2,⟨[(1,Ri),(5,Ri)],[],[0],[],[]⟩)] Tryz.func178 Qk Qk
def zf3(b c:Int)(w:Wo)(R:RT):=∃a,PX [] Vn #[I c] w (I a)/\R (I (if (if a<b then a else b)>0 then (if a<b then a else b) else 0)) w
def zhu(a b):YR (zf3 a b) Mj #[I a,I b]:=pV [] false [] Tryz.func179 Qk Qk
def Kp(e:OA)(m:Int)(w:Wo)(R:RT):=NB w λa=>∃(s:LQ) (y:LM),(AX [] [a] w λJ=>s [I 3] J)/\∀(f:Int) k,(∀bq∈[a],bq<k.heap.size)->s [I f] k->Bf (decide (f>=1)) (e.isSome/\∃N r M,Q1 [a] k e (0+3) [S N r M]/\∃(l:LQ) (i:LM),(AY [a] k λH=>l [I 0] H)/\∀(c:Int) b,(∀bq∈[a],bq<b.heap.size)->l [I c] b->Bf (decide (c<(r:Int))) (e.isSome/\∃v G K,Q1 [a] b e (0+3) [S v G K]/\Ix v G c/\∃n,Q1 [a] b v (c.toNat*14+0) [.bool n]/\∃u,((!n)=false->PX [a] V8 #[.pointer e,I c] b (I u))/\Bf ((!n)||(u != f)) (Qz (c+1)/\AY [a] b λC=>l [I (c+1)] C/\i [I (c+1)] C<i [I c] b) (∃d,PX [a] QC #[.agg #[.pointer e,I m],I c] b (.pointer d)/\∃g,PX [a] Xk #[.agg #[.pointer e,I m],I c] b (.bool g)/\∃h,(g->PX [a] UK #[.agg #[.pointer e,I m],I c] b (.bool h))/\((g&&(!h))->d.isSome)/\∃q,((g&&(!h))->Q1 [a] b d (0+1) [.bool q])/\Bf ((g&&(!h))&&(!q)) (e.isSome/\∃p D L,Q1 [a] b e (0+3) [S p D L]/\Ix p D c/\∃A,Q1 [a] b p (c.toNat*14+1) [I A]/\∃x,PX [a] QC #[.agg #[.pointer e,I m],I A] b (.pointer x)/\x.isSome/\∃j,Q1 [a] b x (0+0) [I j]/\d.isSome/\∃t,Q1 [a] b d (0+2) [I t]/\Qz (t-j)/\d.isSome/\∃B,Q1 [a] b d (0+3) [I B]/\∃o,PX [a] Mj #[I (t-j),I B] b (I o)/\Qz (j+o)/\d.isSome/\Xh [a] b d (0+2) 1/\d.isSome/\Xh [a] (Rw b d (0+2) [I (j+o)]) d (0+1) 1/\Qz (c+1)/\AY [a] (Rw (Rw b d (0+2) [I (j+o)]) d (0+1) [.bool (g&&(!h))]) λE=>l [I (c+1)] E/\i [I (c+1)] E<i [I c] b) (d.isSome/\Xh [a] b d (0+1) 1/\Qz (c+1)/\AY [a] (Rw b d (0+1) [.bool (g&&(!h))]) λF=>l [I (c+1)] F/\i [I (c+1)] F<i [I c] b))) (Qz (f-1)/\AY [a] b λz=>s [I (f-1)] z/\y [I (f-1)] z<y [I f] k)) (AR [a] k R (.tuple #[]))
def Kt(a b):JI (Kp a b) YL #[.agg #[.pointer a,I b]]:=eV [] false [(2,⟨[(2,Ri)],[],[1],[],[]⟩),(5,⟨[(17,Ri)],[],[1,2,16],[],[]⟩)] Tryz.func135 Qk Qk
def BM(e:OA)(l:Int)(w:Wo)(R:RT):=NB w λa=>e.isSome/\∃a7 A a4,Q1 [] w e (0+3) [S a7 A a4]/\∃(m:LQ) (k:LM),(AX [] [a] w λa1=>m [I 0] a1)/\∀(b:Int) h,(∀bq∈[a],bq<h.heap.size)->m [I b] h->Bf (decide (b<(A:Int))) (e.isSome/\∃E P a2,Q1 [a] h e (0+3) [S E P a2]/\Ix E P b/\∃y,Q1 [a] h E (b.toNat*14+0) [.bool y]/\Bf (!y) (Qz (b+1)/\AY [a] h λH=>m [I (b+1)] H/\k [I (b+1)] H<k [I b] h) (e.isSome/\∃x r a6,Q1 [a] h e (0+2) [S x r a6]/\∃(t:LQ) (p:LM),(AY [a] h λZ=>t [I 100000000000000001,I 0] Z)/\∀(j d:Int) i,(∀bq∈[a],bq<i.heap.size)->t [I j,I d] i->Bf (decide (d<(r:Int))) (Ix x r d/\∃V T Y a0 a8 o X a9 a5,Q1 [a] i x (d.toNat*9) [I V,I T,I Y,I a0,I a8,I o,I X,I a9,I a5]/\NB i λB=>∃v,PX [a] Xl #[.agg #[.pointer e,I l],I d,I b] i (.bool v)/\Bf v (Qz (d+1)/\AX [a] [a,B] i λN=>t [I (if o<j then o else j),I (d+1)] N/\p [I (if o<j then o else j),I (d+1)] N<p [I j,I d] i) (Qz (d+1)/\AX [a] [a,B] i λO=>t [I j,I (d+1)] O/\p [I j,I (d+1)] O<p [I j,I d] i)) (e.isSome/\∃Q D a3,Q1 [a] i e (0+3) [S Q D a3]/\∃(s:LQ) (q:LM),(AY [a] i λU=>s [I j,I 0] U)/\∀(g f:Int) c,(∀bq∈[a],bq<c.heap.size)->s [I g,I f] c->Bf (decide (f<(D:Int))) (∃C,PX [a] XC #[.agg #[.pointer e,I l],I f,I b] c (.bool C)/\Bf C (∃F,PX [a] QC #[.agg #[.pointer e,I l],I f] c (.pointer F)/\F.isSome/\∃n,Q1 [a] c F (0+2) [I n]/\Qz (f+1)/\AY [a] c λK=>s [I (if n<g then n else g),I (f+1)] K/\q [I (if n<g then n else g),I (f+1)] K<q [I g,I f] c) (Qz (f+1)/\AY [a] c λM=>s [I g,I (f+1)] M/\q [I g,I (f+1)] M<q [I g,I f] c)) (Bf (decide (g<=100000000000000000)) (∃u,PX [a] QC #[.agg #[.pointer e,I l],I b] c (.pointer u)/\∃G,PX [a] QC #[.agg #[.pointer e,I l],I b] c (.pointer G)/\G.isSome/\∃z,Q1 [a] c G (0+0) [I z]/\u.isSome/\Xh [a] c u (0+0) 1/\Qz (b+1)/\AY [a] (Rw c u (0+0) [I (if g>z then g else z)]) λJ=>m [I (b+1)] J/\k [I (b+1)] J<k [I b] h) (Qz (b+1)/\AY [a] c λL=>m [I (b+1)] L/\k [I (b+1)] L<k [I b] h))))) (AR [a] h R (.tuple #[]))
def Na(a b):JI (BM a b) Tl #[.agg #[.pointer a,I b]]:=eV [] false [(2,⟨[(13,Ri)],[],[1,12],[],[]⟩),(7,⟨[(3,Ri),(32,Ri)],[],[1,2,12,13,30,31],[],[]⟩),(13,⟨[(3,Ri),(52,Ri)],[],[1,2,12,13,51],[],[]⟩)] Tryz.func137 Qk Qk
def De(e:OA)(w:Wo)(R:RT):=e.isSome/\∃a7 B b4,Q1 [] w e (0+1) [S a7 B b4]/\∃(z:LQ) (L:LM),(AY [] w λb0=>z [I 0] b0)/\∀(h:Int) n,(∀bq∈([]:List Nat),bq<n.heap.size)->z [I h] n->Bf (decide (h<(B:Int))) (∃H N,PX [] ZE #[.pointer e,I h] n (.agg #[.pointer H,I N])/\AY [] n λG=>Cz YL #[.agg #[.pointer H,I N]] G λa8 U=>a8=.returned (.tuple #[])/\Q9 [] G U/\Qz (h+1)/\AY [] U λY=>z [I (h+1)] Y/\L [I (h+1)] Y<L [I h] n) (e.isSome/\∃b6 x b5,Q1 [] n e (0+3) [S b6 x b5]/\∃(D:LQ) (M:LM),(AY [] n λb7=>D [I 0] b7)/\∀(d:Int) i,(∀bq∈([]:List Nat),bq<i.heap.size)->D [I d] i->Bf (decide (d<(x:Int))) (e.isSome/\∃t a4 b1,Q1 [] i e (0+3) [S t a4 b1]/\Ix t a4 d/\∃C q b3,Q1 [] i t (d.toNat*14+8+3) [S C q b3]/\∃(u:LQ) (p:LM),(AY [] i λb8=>u [I 0] b8)/\∀(a:Int) f,(∀bq∈([]:List Nat),bq<f.heap.size)->u [I a] f->Bf (decide (a<(q:Int))) (Ix C q a/\∃o,Q1 [] f C (a.toNat*1) [I o]/\∃K Q,((decide (o>0))->PX [] ZE #[.pointer e,I a] f (.agg #[.pointer K,I Q]))/\∃A,((decide (o>0))->PX [] Xk #[.agg #[.pointer K,I Q],I d] f (.bool A))/\Bf ((decide (o>0))&&(!A)) (CI [] JL #[.pointer (t.map (·.add (d.toNat*14+8))),.agg #[I 3,I a,I 0]] f λc2 b9=>Qz (a+1)/\AY [] b9 λZ=>u [I (a+1)] Z/\p [I (a+1)] Z<p [I a] f) (Qz (a+1)/\AY [] f λa1=>u [I (a+1)] a1/\p [I (a+1)] a1<p [I a] f)) (Qz (d+1)/\AY [] f λJ=>D [I (d+1)] J/\M [I (d+1)] J<M [I d] i)) (e.isSome/\∃a5 v c1,Q1 [] i e (0+1) [S a5 v c1]/\∃(r:LQ) (s:LM),(AY [] i λb2=>r [I 0] b2)/\∀(c:Int) j,(∀bq∈([]:List Nat),bq<j.heap.size)->r [I c] j->Bf (decide (c<(v:Int))) (∃k m,PX [] ZE #[.pointer e,I c] j (.agg #[.pointer k,I m])/\NB j λb=>AX [] [b] j λa3=>Cz YL #[.agg #[.pointer k,I m]] a3 λa6 T=>a6=.returned (.tuple #[])/\Q9 [b] a3 T/\AY [b] T λV=>Cz Tl #[.agg #[.pointer k,I m]] V λc0 g=>c0=.returned (.tuple #[])/\Q9 [b] V g/\∃y,PX [b] ZM #[.agg #[.pointer k,I m]] g (.pointer y)/\y.isSome/\∃l,Q1 [b] g y (0+1) [I l]/\∃F,((l != (-1))->PX [b] ZM #[.agg #[.pointer k,I m]] g (.pointer F))/\((l != (-1))->F.isSome)/\∃X,((l != (-1))->Q1 [b] g F (0+1) [I X])/\∃E,((l != (-1))->PX [b] Jb #[.agg #[.pointer k,I m],I X] g (.bool E))/\Bf ((l != (-1))&&(!E)) (AY [b] g λa0=>Cz Yp #[.agg #[.pointer k,I m]] a0 λa9 a2=>a9=.returned (.tuple #[])/\Q9 [b] a0 a2/\Qz (c+1)/\AY [b] a2 λO=>r [I (c+1)] O/\s [I (c+1)] O<s [I c] j) (Qz (c+1)/\AY [b] g λP=>r [I (c+1)] P/\s [I (c+1)] P<s [I c] j)) (AR [] j R (.tuple #[]))))
def Do(a):JI (De a) ZB #[.pointer a]:=eV [] false [(1,⟨[(14,Ri)],[],[0,13],[],[]⟩),(6,⟨[(27,Ri)],[],[0,26],[],[]⟩),(10,⟨[(42,Ri)],[],[0,3,4,26,27,40,41],[],[]⟩),(17,⟨[(68,Ri)],[],[0,67],[],[]⟩)] Tryz.func90 Qk Qk
def F4(i:OA)(t g c6:Int)(w:Wo)(R:RT):=NB w λa=>i.isSome/\∃e b4 c1,Q1 [] w i (0+2) [S e b4 c1]/\Ix e b4 g/\∃a4,Q1 [] w e (g.toNat*9+1) [I a4]/\∃(y:LQ) (A:LM),(AX [] [a] w λd4=>y [I c6,I a4] d4)/\∀(b j:Int) d,(∀bq∈[a],bq<d.heap.size)->y [I b,I j] d->Bf (j != 0) (i.isSome/\∃Z a0 c0,Q1 [a] d i (0+3) [S Z a0 c0]/\Ix Z a0 j/\∃G c4 c2 J a2 c7 b9 b7 d0,Q1 [a] d Z (j.toNat*14+8) [I G,I c4,I c2,S J a2 c7,S b9 b7 d0]/\NB d λL=>Bf (decide (G>0)) (Ix J a2 t/\∃v,Q1 [a] d J (t.toNat*1) [I v]/\i.isSome/\∃M b1 d5,Q1 [a] d i (0+3) [S M b1 d5]/\Ix M b1 j/\∃V,Q1 [a] d M (j.toNat*14+1) [I V]/\AX [a] [a,L] d λb2=>y [I (if v<b then v else b),I V] b2/\A [I (if v<b then v else b),I V] b2<A [I b,I j] d) (i.isSome/\∃T a9 c9,Q1 [a] d i (0+3) [S T a9 c9]/\Ix T a9 j/\∃F,Q1 [a] d T (j.toNat*14+1) [I F]/\AX [a] [a,L] d λa7=>y [I b,I F] a7/\A [I b,I F] a7<A [I b,I j] d)) (∃n,Q1 [a] d e (g.toNat*9+5) [I n]/\∃b5,Q1 [a] d e (g.toNat*9+3) [I b5]/\∃a1,PX [a] Je #[I b5] d (I a1)/\∃q,PX [a] Yj #[I b,I a1] d (I q)/\Qz (n+q)/\Xh [a] d e (g.toNat*9+5) 1/\∃r,Q1 [a] (Rw d e (g.toNat*9+5) [I (n+q)]) e (g.toNat*9+6) [I r]/\Qz (r+b)/\Xh [a] (Rw d e (g.toNat*9+5) [I (n+q)]) e (g.toNat*9+6) 1/\∃C,Q1 [a] (Rw (Rw d e (g.toNat*9+5) [I (n+q)]) e (g.toNat*9+6) [I (r+b)]) e (g.toNat*9+7) [I C]/\Qz (C+b)/\Xh [a] (Rw (Rw d e (g.toNat*9+5) [I (n+q)]) e (g.toNat*9+6) [I (r+b)]) e (g.toNat*9+7) 1/\∃a5,Q1 [a] (Rw (Rw (Rw d e (g.toNat*9+5) [I (n+q)]) e (g.toNat*9+6) [I (r+b)]) e (g.toNat*9+7) [I (C+b)]) e (g.toNat*9+1) [I a5]/\∃(z:LQ) (x:LM),(AY [a] (Rw (Rw (Rw d e (g.toNat*9+5) [I (n+q)]) e (g.toNat*9+6) [I (r+b)]) e (g.toNat*9+7) [I (C+b)]) λd1=>z [I a5] d1)/\∀(c:Int) f,(∀bq∈[a],bq<f.heap.size)->z [I c] f->Bf (c != (-1)) (∃h,PX [a] QC #[.agg #[.pointer i,I t],I c] f (.pointer h)/\h.isSome/\∃k,Q1 [a] f h (0+4) [I k]/\Qz (k+b)/\h.isSome/\Xh [a] f h (0+4) 1/\i.isSome/\∃l H c5,Q1 [a] (Rw f h (0+4) [I (k+b)]) i (0+3) [S l H c5]/\Ix l H c/\∃o,Q1 [a] (Rw f h (0+4) [I (k+b)]) l (c.toNat*14+7) [I o]/\Qz (o+b)/\Ix l H c/\Xh [a] (Rw f h (0+4) [I (k+b)]) l (c.toNat*14+7) 1/\∃(O:List Va->List Nat->Wo->Prop),(Bf (c != 0) (h.isSome/\∃D,Q1 [a] (Rw (Rw f h (0+4) [I (k+b)]) l (c.toNat*14+7) [I (o+b)]) h (0+2) [I D]/\h.isSome/\∃a6,Q1 [a] (Rw (Rw f h (0+4) [I (k+b)]) l (c.toNat*14+7) [I (o+b)]) h (0+3) [I a6]/\∃Y,PX [a] Yj #[I b,I a6] (Rw (Rw f h (0+4) [I (k+b)]) l (c.toNat*14+7) [I (o+b)]) (I Y)/\Qz (D+Y)/\h.isSome/\Xh [a] (Rw (Rw f h (0+4) [I (k+b)]) l (c.toNat*14+7) [I (o+b)]) h (0+2) 1/\AY [a] (Rw (Rw (Rw f h (0+4) [I (k+b)]) l (c.toNat*14+7) [I (o+b)]) h (0+2) [I (D+Y)]) λd2=>O [] [] d2) (AY [a] (Rw (Rw f h (0+4) [I (k+b)]) l (c.toNat*14+7) [I (o+b)]) λb8=>O [] [] b8))/\∀(p:Wo),(∀bq∈[a],bq<p.heap.size)->O [] [] p->i.isSome/\∃B a3 c3,Q1 [a] p i (0+3) [S B a3 c3]/\Ix B a3 c/\∃Q,Q1 [a] p B (c.toNat*14+8+0) [I Q]/\Bf (decide (Q>0)) (CI [a] JL #[.pointer (B.map (·.add (c.toNat*14+8))),.agg #[I 2,I t,I b]] p λd6 U=>i.isSome/\∃N b0 c8,Q1 [a] U i (0+3) [S N b0 c8]/\Ix N b0 c/\∃X,Q1 [a] U N (c.toNat*14+1) [I X]/\AY [a] U λb6=>z [I X] b6/\x [I X] b6<x [I c] f) (i.isSome/\∃K b3 d3,Q1 [a] p i (0+3) [S K b3 d3]/\Ix K b3 c/\∃P,Q1 [a] p K (c.toNat*14+1) [I P]/\AY [a] p λa8=>z [I P] a8/\x [I P] a8<x [I c] f)) (∃m,PX [a] ZM #[.agg #[.pointer i,I t]] f (.pointer m)/\m.isSome/\∃u,Q1 [a] f m (0+3) [I u]/\Qz (u+b)/\m.isSome/\Xh [a] f m (0+3) 1/\∃s,PX [a] ZM #[.agg #[.pointer i,I t]] (Rw f m (0+3) [I (u+b)]) (.pointer s)/\s.isSome/\∃E,Q1 [a] (Rw f m (0+3) [I (u+b)]) s (0+2) [I E]/\Qz (E+b)/\s.isSome/\Xh [a] (Rw f m (0+3) [I (u+b)]) s (0+2) 1/\AR [a] (Rw (Rw f m (0+3) [I (u+b)]) s (0+2) [I (E+b)]) R (I b)))
def Fu(a b c d):JI (F4 a b c d) JA #[.agg #[.pointer a,I b],I c,I d]:=eV [] false [(3,⟨[(8,Ri),(9,Ri)],[],[3,7],[],[]⟩),(12,⟨[(11,Ri)],[],[3,8],[],[]⟩),(1000019,⟨[],[],[3,8,11],[],[]⟩)] Tryz.func91 Qk Qk
def AW(e:OA)(g a3:Int)(v:Fn)(G:Array Va)(y:Array Va)(w:Wo)(R:RT):=NB w λa=>∃c,PX [] ZM #[.agg #[.pointer e,I g]] w (.pointer c)/\∃(i:LQ) (h:LM),(AX [] [a] w λb0=>i [I a3] b0)/\∀(b:Int) d,(∀bq∈[a],bq<d.heap.size)->i [I b] d->Bf (decide (b>0)) (∃f,PX [a] Tk #[.agg #[.pointer e,I g]] d (I f)/\Bf (decide (f<0)) (c.isSome/\∃o,Q1 [a] d c (0+4) [I o]/\Qz (o+b)/\c.isSome/\Xh [a] d c (0+4) 1/\AY [a] (Rw d c (0+4) [I (o+b)]) λt=>Cz Yp #[.agg #[.pointer e,I g]] t λa8 X=>a8=.returned (.tuple #[])/\Q9 [a] t X/\AY [a] X λK=>Cz ZB #[.pointer e] K λb3 H=>b3=.returned (.tuple #[])/\Q9 [a] K H/\AR [a] H R (.tuple #[])) (c.isSome/\∃j,Q1 [a] d c (0+1) [I j]/\((f != j)=false->c.isSome)/\∃m,((f != j)=false->Q1 [a] d c (0+2) [I m])/\Bf ((f != j)||(decide (m>=50))) (c.isSome/\Xh [a] d c (0+1) 1/\c.isSome/\Xh [a] (Rw d c (0+1) [I f]) c (0+2) 1/\AY [a] (Rw (Rw d c (0+1) [I f]) c (0+2) [I 0]) λY=>Cz VK #[.agg #[.pointer e,I g],I f] Y λa2 n=>∃q,a2=.returned (.bool q)/\Q9 [a] Y n/\Bf q (AY [a] n λB=>Cz Yp #[.agg #[.pointer e,I g]] B λb7 u=>b7=.returned (.tuple #[])/\Q9 [a] B u/\AY [a] u λM=>Cz ZB #[.pointer e] M λa6 Z=>a6=.returned (.tuple #[])/\Q9 [a] M Z/\AY [a] Z λQ=>i [I b] Q/\h [I b] Q<h [I b] d) (CI [a] JA #[.agg #[.pointer e,I g],I f,I b] n λl b2=>AY [a] b2 λO=>O7 Tryz.prog (.func v G y) [I f,I l] O λa7 J=>a7=.returned (.tuple #[])/\Q9 [a] O J/\AY [a] J λa0=>Cz ZB #[.pointer e] a0 λb1 x=>b1=.returned (.tuple #[])/\Q9 [a] a0 x/\Qz (b-l)/\AY [a] x λL=>i [I (b-l)] L/\h [I (b-l)] L<h [I b] d)) (AY [a] d λN=>Cz VK #[.agg #[.pointer e,I g],I f] N λb4 r=>∃p,b4=.returned (.bool p)/\Q9 [a] N r/\Bf p (AY [a] r λD=>Cz Yp #[.agg #[.pointer e,I g]] D λa5 s=>a5=.returned (.tuple #[])/\Q9 [a] D s/\AY [a] s λC=>Cz ZB #[.pointer e] C λb5 E=>b5=.returned (.tuple #[])/\Q9 [a] C E/\AY [a] E λa1=>i [I b] a1/\h [I b] a1<h [I b] d) (CI [a] JA #[.agg #[.pointer e,I g],I f,I b] r λk a9=>AY [a] a9 λV=>O7 Tryz.prog (.func v G y) [I f,I k] V λb6 T=>b6=.returned (.tuple #[])/\Q9 [a] V T/\AY [a] T λz=>Cz ZB #[.pointer e] z λb8 P=>b8=.returned (.tuple #[])/\Q9 [a] z P/\Qz (b-k)/\AY [a] P λF=>i [I (b-k)] F/\h [I (b-k)] F<h [I b] d)))) (AY [a] d λU=>Cz ZB #[.pointer e] U λa4 A=>a4=.returned (.tuple #[])/\Q9 [a] U A/\AR [a] A R (.tuple #[]))
def CE(a b c d e f):JI (AW a b c d e f) Oq #[.agg #[.pointer a,I b],I c,.func d e f]:=eV [] false [(3,⟨[(7,Ri)],[],[2,3,6],[],[]⟩)] Tryz.func52 Qk Qk
def F8(b j f y:OA)(w:Wo)(R:RT):=∃n,Q1 [] w j 0 [I n]/\∃a,PX [] Qy #[I n,I 1,I 100] w (.bool a)/\∃k,((!a)=false->Q1 [] w f 0 [I k])/\∃g,((!a)=false->PX [] Jz #[.pointer b,I k] w (.bool g))/\Bf ((!a)||(!g)) (AR [] w R (.iface Yd (.agg #[I 1]))) (b.isSome/\∃d p x,Q1 [] w b (0+1) [S d p x]/\∃e,Q1 [] w f 0 [I e]/\Ix d p e/\∃h,Q1 [] w d (Int.toNat e*5+0) [.bool h]/\Bf (!h) (AR [] w R (.iface Yd (.agg #[I 6]))) (∃c,PX [] VI #[.pointer b] w (.bool c)/\Bf (!c) (AR [] w R (.iface Yd (.agg #[I 10]))) (∃o,Q1 [] w f 0 [I o]/\∃i l,PX [] ZE #[.pointer b,I o] w (.agg #[.pointer i,I l])/\∃s,Q1 [] w j 0 [I s]/\∃(m:Fn) (q:Array Va) (r:Array Va),Q1 [] w y 0 [.func m q r]/\AY [] w λt=>Cz Oq #[.agg #[.pointer i,I l],I s,.func m q r] t λv u=>v=.returned (.tuple #[])/\Q9 [] t u/\AR [] u R .nilIface)))
def Fv(a b c d):JI (F8 a b c d) JB #[.pointer a,.pointer b,.pointer c,.pointer d]:=eV [] false [] Tryz.func47 Qk Qk
def LA(c d i e g h b k f j:Int)(w:Wo)(R:RT):=NB w λa=>R (I b) w
def LX(a b c d e f g h i j):YR (LA a b c d e f g h i j) Xg #[.agg #[I a,I b,I c,I d,I e,I f,I g,I h,I i,I j]]:=pV [] false [] Tryz.func232 Qk Qk
def KO(c d:Int)(g:Bool)(b e f:Int)(w:Wo)(R:RT):=NB w λa=>R (I b) w
def Li(a b c d e f):YR (KO a b c d e f) YZ #[.agg #[I a,I b,.bool c,I d,I e,I f]]:=pV [] false [] Tryz.func235 Qk Qk
def M6:zpl Tryz.prog T9 5 ZO 40 (⟨0,false,0,0,0⟩:KM):=H3 Qk λ_=>rfl
def PF:Tryz.prog.underlying Zd=some (.slice ZO):=Qk
def ZI(b:Um)(m:MG):List Va:=[I b.I',I b.RH,I b.So,.slice m.lO b.locals.length m.lC,.slice m.dO b.Ry.length m.dC]
def JX{a b:ByteArray}:ZC a b=true↔a=b:=by
 unfold ZC;rw[Is];constructor
 ·intro h
  have h1:∀x:ByteArray,x.toList=x.data.toList:=λx=>by
   have key:∀(n i:Nat) (r:List UInt8),n=x.size-i->ByteArray.toList.loop x i r=r.reverse++x.data.toList.drop i:=by
    intro n
    induction n with
    |zero=>
     intro i r hn;unfold ByteArray.toList.loop;rw[B' Qo,List.drop_eq_nil_iff.2 (by simp only[Array.length_toList];show x.size<=i;omega),List.append_nil]
    |succ n ih=>
     intro i r hn;unfold ByteArray.toList.loop;have hi:i<x.data.toList.length:=by simp only[Array.length_toList];show i<x.size;omega
     rw[C' Qo,ih (i+1) _ Qo,List.reverse_cons,List.append_assoc,List.singleton_append,List.drop_eq_getElem_cons hi]
     have:x.get! i=x.data.toList[i]:=by
      have hi':i<x.data.size:=by simpa using hi
      simp[ByteArray.get!,getElem!_pos x.data i hi']
     rw[this]
   have:=key _ 0 [] rfl
   simpa[ByteArray.toList] using this
  rw[h1,h1] at h
  cases a;cases b
  simp only at h
  congr 1
  exact Array.ext' h
 ·rintro rfl;rfl
def Bu(a b:ByteArray):ZC a b=decide (a=b):=by
 cases h:ZC a b with
 |true=>rw[Ih (JX.1 h)]
 |false=>rw[decide_eq_false λe=>by rw[JX.2 e] at h;cases h]
def Om(p:ZD×MG):List Va:=YA p.1 p.2
def Pm:ZD×MG:=(⟨false,0,ByteArray.empty,0,0,0,0,0,⟨0,0,0,[],[]⟩,[]⟩,⟨none,0,none,0,none,0⟩)
def YG:zpl Tryz.prog Om 14 Z0 168 Pm:=H3 Qk λ_=>rfl
def PE:Tryz.prog.underlying QE=some (.slice Z0):=Qk
def Qt(m:MG):List Nat:=QL m.lO++QL m.dO++QL m.sO
structure PR (base:Nat) (w:Wo) (p:ZD×MG):Prop where
 loc:UD U2 1 Qg base w p.2.lO p.2.lC p.1.IL.locals
 Ry:UD K3 1 ZA base w p.2.dO p.2.dC p.1.IL.Ry
 shl:UD T9 5 ZO base w p.2.sO p.2.sC p.1.IH
def PR.ext{base:Nat}{w w':Wo}{p:ZD×MG}{bs:List Nat}(h:PR base w p)(hx:Q0 bs w w')(hd:∀b∈Qt p.2,b∉bs):PR base w' p:=
 ⟨h.loc.ext hx λb hb=>hd b (by simp[Qt,hb]),h.Ry.ext hx λb hb=>hd b (by simp[Qt,hb]),h.shl.ext hx λb hb=>hd b (by simp[Qt,hb])⟩
def PR.WH{base:Nat}{w w':Wo}{p:ZD×MG}(h:PR base w p)(hx:Q0 [] w w'):PR base w' p:=h.ext hx Qs
def PR.mono{base aP:Nat}{w:Wo}{p:ZD×MG}(h:PR base w p)(hb:aP<=base):PR aP w p:=⟨h.loc.mono hb,h.Ry.mono hb,h.shl.mono hb⟩
def PR.lt{base:Nat}{w:Wo}{p:ZD×MG}(h:PR base w p):∀b∈Qt p.2,base<=b/\b<w.heap.size:=by
 intro b hb;simp only[Qt,Im] at hb;rcases hb with (hb|hb)|hb
 ·exact h.loc.lt b hb
 ·exact h.Ry.lt b hb
 ·exact h.shl.lt b hb
structure Lw (base:Nat) (w:Wo) (o:OA) (cap:Nat) (ps:List (ZD×MG)):Prop where
 row:UD Om 14 Z0 base w o cap ps
 each:∀i:Int,0<=i->i<(ps.length:Int)->PR base w (gi ps i)
 dj:∀i j:Int,0<=i->i<(ps.length:Int)->0<=j->j<(ps.length:Int)->i≠j->∀b∈Qt (gi ps i).2,b∉Qt (gi ps j).2
def Lw.mono{base aP:Nat}{w:Wo}{o:OA}{cap:Nat}{ps:List (ZD×MG)}(h:Lw base w o cap ps)(hb:aP<=base):Lw aP w o cap ps:=
 ⟨h.row.mono hb,λi a b=>(h.each i a b).mono hb,h.dj⟩
def Jv{base:Nat}{w:Wo}{o:OA}{cap:Nat}{ps:List (ZD×MG)}(h:UD Om 14 Z0 base w o cap ps){aP:Nat}{p:ZD×MG}(hp:PR aP w p):∀b∈Qt p.2,b∉QL o:=by
 intro b hb hx;simp only[Qt,Im] at hb;rcases hb with (hb|hb)|hb
 ·exact hp.loc.Wd h Qd b hb hx
 ·exact hp.Ry.Wd h Qd b hb hx
 ·exact hp.shl.Wd h Qd b hb hx
def Lw.put{base:Nat}{w:Wo}{o:OA}{cap:Nat}{ps:List (ZD×MG)}(h:Lw base w o cap ps){i:Int}(h0:0<=i)(hi:i<(ps.length:Int)){p:ZD×MG}(hp:PR base w p)(hd:∀j:Int,0<=j->j<(ps.length:Int)->i≠j->∀b∈Qt (gi ps j).2,b∉Qt p.2):Lw base (Rw w o (Int.toNat i*14) (Om p)) o cap (ps.set i.toNat p):=by
 have hx:=h.row.rP (Int.toNat i*14) (Om p);have hlen:(ps.set i.toNat p).length=ps.length:=E';refine⟨?_,λj hj hjl=>?_,λj k hj hjl hk nN gG b hb gV=>?_⟩
 ·have:=h.row.Rw YG.len h0 hi (j:=0) (vs:=Om p) (x:=p) (by rw[List.take_zero,List.nil_append,List.drop_eq_nil_iff.2 (by rw[Nat.zero_add,YG.len,YG.len];exact I7 _),List.append_nil]) (by rw[Nat.zero_add,YG.len];exact I7 _);exact this
 ·rw[hlen] at hjl;rw[Qx _ _ h0 hi hj];split
  ·exact hp.ext hx (Jv h.row hp)
  ·exact(h.each j hj hjl).ext hx (Jv h.row (h.each j hj hjl))
 ·rw[hlen] at hjl nN;rw[Qx _ _ h0 hi hj] at hb;rw[Qx _ _ h0 hi hk] at gV
  by_cases e1:i=j
  ·rw[C' e1] at hb
   by_cases e2:i=k
   ·omega
   ·rw[B' e2] at gV;exact hd k hk nN e2 b gV hb
  ·rw[B' e1] at hb
   by_cases e2:i=k
   ·rw[C' e2] at gV;exact hd j hj hjl e1 b hb gV
   ·rw[B' e2] at gV;exact h.dj j k hj hjl hk nN gG b hb gV
def Uc{z:Int}(h1 : -9223372036854775808<=z)(h2:z<=9223372036854775807):Qp .i64 z:=⟨h1,h2⟩
def zj3(w:Int):Int:=Int.tdiv 232792560 w
def YY(n a b:Int):Bool:=decide (n>=a)&&decide (n<=b)
def Qu{n a b:Int}:YY n a b=true↔a<=n/\n<=b:=by simp[YY]
def z3i{n a b:Int}:YY n a b=false↔¬(a<=n/\n<=b):=by rw[<-Qu];simp
def QS(n w:Int):Int:=if YY n 0 100000000&&YY w 1 20 then n*zj3 w else 0
def ZT(w:Int):Int:=QS 149 w
def z2w:∀k:Fin 20,zj3 ((k.val:Int)+1)*((k.val:Int)+1)=232792560:=Qd
def z2x{w:Int}(h1:1<=w)(h2:w<=20):zj3 w*w=232792560:=by
 have:=z2w ⟨(w-1).toNat,Qo⟩;have e:(((w-1).toNat:Nat):Int)+1=w:=Qo;simp only[e] at this;exact this
def zfr{w:Int}(h1:1<=w)(h2:w<=20):11639628<=zj3 w/\zj3 w<=232792560:=by
 have h:=z2x h1 h2
 have hp:0<=zj3 w:=by
  rcases Int.lt_or_le (zj3 w) 0 with hn|hn
  ·have:=Int.mul_neg_of_neg_of_pos hn (show 0<w by omega);omega
  ·exact hn
 constructor
 ·have:=Int.mul_le_mul_of_nonneg_left h2 hp;omega
 ·have:=Int.mul_le_mul_of_nonneg_left h1 hp;omega
def Pk{n w:Int}(h1:0<=n)(h2:n<=100000000)(h3:1<=w)(h4:w<=20):QS n w=n*zj3 w:=by
 unfold QS;rw[C'];rw[A',Qu,Qu];exact⟨⟨h1,h2⟩,h3,h4⟩
def D5{n w:Int}(h:¬(0<=n/\n<=100000000/\1<=w/\w<=20)):QS n w=0:=by
 unfold QS;rw[B'];rw[A',Qu,Qu];omega
def zl1{n w:Int}(h1:0<=n)(h2:n<=100000000)(h3:1<=w)(h4:w<=20):0<=n*zj3 w/\n*zj3 w<=23279256000000000:=by
 have hs:=zfr h3 h4;refine⟨Int.mul_nonneg h1 Qo,?_⟩
 calc n*zj3 w<=100000000*zj3 w:=Int.mul_le_mul_of_nonneg_right h2 Qo
  _<=100000000*232792560:=Int.mul_le_mul_of_nonneg_left hs.2 Qd
  _=23279256000000000:=rfl
def Pl(n w:Int):0<=QS n w/\QS n w<=23279256000000000:=by
 by_cases h:0<=n/\n<=100000000/\1<=w/\w<=20
 ·rw[Pk h.1 h.2.1 h.2.2.1 h.2.2.2];exact zl1 h.1 h.2.1 h.2.2.1 h.2.2.2
 ·rw[D5 h];omega
def QK{n a b:Int}{w:Wo}{bs:List Nat}:PX bs Qy #[I n,I a,I b] w (.bool (YY n a b)):=
 zew n a b λwr hx=>by unfold GV;rfl
def Qq{n a b:Int}{w:Wo}{bs:List Nat}:PX bs Qj #[I n,I a,I b] w (.bool (YY n a b)):=
 zog n a b λwr hx=>by unfold Ao;rfl
def Pz{n:Int}{w:Wo}{bs:List Nat}:PX bs Ji #[I n] w (.bool (YY n 1 20)):=
 zai n λwr hx=>⟨_,QK,rfl⟩
def JQ{n:Int}{w:Wo}{bs:List Nat}:PX bs YU #[I n] w (.bool (YY n 1 20)):=
 zap n λwr hx=>⟨_,Qq,rfl⟩
def DK{n:Int}{w:Wo}{bs:List Nat}:PX bs Tm #[I n] w (.bool (YY n (-10) 9)):=
 zhx n λwr hx=>⟨_,QK,rfl⟩
def Tc(k j:Nat):Int:=if j<=k then zj3 (j:Int) else 0
def z70(k:Nat):List Va:=[I ((k:Int)+1),I 0,I (Tc k 1),I (Tc k 2),I (Tc k 3),I (Tc k 4),I (Tc k 5),I (Tc k 6),I (Tc k 7),
 I (Tc k 8),I (Tc k 9),I (Tc k 10),I (Tc k 11),I (Tc k 12),I (Tc k 13),I (Tc k 14),I (Tc k 15),I (Tc k 16),I (Tc k 17),I (Tc k 18),I (Tc k 19),I (Tc k 20)]
def Eu{w:Wo}{bs:List Nat}:PX bs Vb #[] w (.agg #[I 0,I (Tc 20 1),I (Tc 20 2),I (Tc 20 3),I (Tc 20 4),I (Tc 20 5),I (Tc 20 6),I (Tc 20 7),
 I (Tc 20 8),I (Tc 20 9),I (Tc 20 10),I (Tc 20 11),I (Tc 20 12),I (Tc 20 13),I (Tc 20 14),I (Tc 20 15),I (Tc 20 16),I (Tc 20 17),I (Tc 20 18),I (Tc 20 19),I (Tc 20 20)]):=
 ED λwr hx=>by
  intro _ _ _ _
  refine⟨λvs=>∃k:Nat,k<=20/\vs=z70 k,λvs=>match vs with
   |.int _ i::_=>(21-i).toNat
   |_=>0,⟨0,Qo,rfl⟩,?_⟩
  rintro i l l1 l2 l3 l4 l5 l6 l7 l8 l9 l10 l11 l12 l13 l14 l15 l16 l17 l18 l19 l20 ⟨k,hk,he⟩;simp only[z70,I4,I5,true_and,and_true] at he;obtain⟨rfl,rfl,rfl,rfl,rfl,rfl,rfl,rfl,rfl,rfl,rfl,rfl,rfl,rfl,rfl,rfl,rfl,rfl,rfl,rfl,rfl,rfl⟩:=he;constructor
  ·intro h;have h:=Ot h;refine⟨⟨Qo,?_⟩,⟨Qo,Qo⟩,Qo,?_⟩
   ·have:=zfr (w:=(k:Int)+1) Qo Qo;exact Uc (by unfold zj3 at this;omega) (by unfold zj3 at this;omega)
   ·refine⟨_,_,_,_,_,_,_,_,_,_,_,_,_,_,_,_,_,_,_,_,_,?_,Uc Qo Qo,⟨k+1,Qo,rfl⟩,?_⟩
    ·have:k=0\/k=1\/k=2\/k=3\/k=4\/k=5\/k=6\/k=7\/k=8\/k=9\/k=10\/k=11\/k=12\/k=13\/k=14\/k=15\/k=16\/k=17\/k=18\/k=19:=Qo;rcases this with rfl|rfl|rfl|rfl|rfl|rfl|rfl|rfl|rfl|rfl|rfl|rfl|rfl|rfl|rfl|rfl|rfl|rfl|rfl|rfl <;> rfl
    ·show (21-(((k:Int)+1)+1)).toNat<(21-((k:Int)+1)).toNat;omega
  ·intro h;have h:=Ou h;have hk:k=20:=Qo;subst hk;rfl
def z5t{k:Int}(h1:1<=k)(h2:k<=20):(#[I 0,I (Tc 20 1),I (Tc 20 2),I (Tc 20 3),I (Tc 20 4),I (Tc 20 5),I (Tc 20 6),I (Tc 20 7),
 I (Tc 20 8),I (Tc 20 9),I (Tc 20 10),I (Tc 20 11),I (Tc 20 12),I (Tc 20 13),I (Tc 20 14),I (Tc 20 15),I (Tc 20 16),I (Tc 20 17),I (Tc 20 18),I (Tc 20 19),I (Tc 20 20)]:Array Va)[Int.toNat k]? = some (I (zj3 k)):=by
 have:k=1\/k=2\/k=3\/k=4\/k=5\/k=6\/k=7\/k=8\/k=9\/k=10\/k=11\/k=12\/k=13\/k=14\/k=15\/k=16\/k=17\/k=18\/k=19\/k=20:=Qo;rcases this with rfl|rfl|rfl|rfl|rfl|rfl|rfl|rfl|rfl|rfl|rfl|rfl|rfl|rfl|rfl|rfl|rfl|rfl|rfl|rfl <;> rfl
def XF{n k:Int}{w:Wo}{bs:List Nat}:PX bs Yj #[I n,I k] w (I (QS n k)):=
 Ey n k λwr hx=>by
  refine⟨_,QK,_,λ_=>Pz,λh=>?_,λh=>?_⟩
  ·congr 1;unfold QS;rw[B'];intro h2;simp only[A'] at h2;simp[h2] at h
  ·have h2:YY n 0 100000000/\YY k 1 20:=by simpa using h
   rw[Qu,Qu] at h2;have hm:=zl1 h2.1.1 h2.1.2 h2.2.1 h2.2.2;refine⟨_,_,_,_,_,_,_,_,_,_,_,_,_,_,_,_,_,_,_,_,_,Eu,zj3 k,⟨Qo,Qo,z5t h2.2.1 h2.2.2⟩,Uc Qo Qo,?_⟩;rw[Pk h2.1.1 h2.1.2 h2.2.1 h2.2.2]
def H8{k:Int}{w:Wo}{bs:List Nat}:PX bs Vn #[I k] w (I (ZT k)):=
 zet k λwr hx=>⟨_,XF,rfl⟩
def Kb(s:ByteArray):Bool:=(((((ZC s (⟨[119,101,105,103,104,116].toArray⟩))||(ZC s (⟨[109,97,120].toArray⟩)))||(ZC s (⟨[99,112,117,115].toArray⟩)))||(ZC s (⟨[112,114,111,99,115].toArray⟩)))||(ZC s (⟨[115,116,97,116].toArray⟩)))
def z0i(x:Int):Bool:=(((decide (x>=97))&&(decide (x<=122)))||((decide (x>=48))&&(decide (x<=57))))
def UC(s:ByteArray):Bool:=YY (s.size:Int) 1 8 && !Kb s&&(List.range s.size).all λi=>z0i (Uf s (i:Int))
def LR{s:ByteArray}:UC s=true↔(1<=s.size/\s.size<=8)/\Kb s=false/\∀i:Nat,i<s.size->z0i (Uf s (i:Int)):=by
 unfold UC;simp only[A',Qu,ID,List.all_eq_true,List.mem_range];constructor
 ·rintro⟨⟨h1,h2⟩,h3⟩;exact⟨⟨Qo,Qo⟩,h2,h3⟩
 ·rintro⟨⟨h0,h1⟩,h2,h3⟩;exact⟨⟨⟨Qo,Qo⟩,h2⟩,h3⟩
def Lf{s:ByteArray}(h:¬((1<=s.size/\s.size<=8)/\Kb s=false/\∀i:Nat,i<s.size->z0i (Uf s (i:Int)))):UC s=false:=by
 cases hn:UC s with
 |false=>rfl
 |true=>exact Ir (LR.1 hn) h
def zhl{s:ByteArray}{w:Wo}{bs:List Nat}:PX bs Mr #[.string s] w (.bool (Kb s)):=
 zia s λwr hx=>rfl
def DO{s:ByteArray}{w:Wo}{bs:List Nat}:PX bs Tx #[.string s] w (.bool (UC s)):=
 zh6 s λwr hx=>by
  refine⟨_,Qq,Kb s,λ_=>zhl,λh=>?_,λh=>?_⟩
  ·rw[Lf];rintro⟨h1,h2,_⟩;rw[h2,Qu.2 Qo] at h;cases h
  ·have h:YY (s.size:Int) 1 8/\Kb s=false:=by simpa using h
   have h1:=Qu.1 h.1;refine X7 s.size 0 rfl (λk=>k<=s.size/\∀j:Nat,j<k->z0i (Uf s (j:Int))) ⟨Ic _,λj hj=>Ir hj (Nat.not_lt_zero j)⟩ λk ⟨hk,hI⟩=>⟨λIW=>?_,λRM=>?_⟩
   ·have IW:=Ot IW;have hr:0<=(k:Int)/\(k:Int)<(s.size:Int):=⟨Qo,IW⟩;refine⟨hr,λ_=>hr,λ_=>hr,λ_ _=>hr,λkD=>?_,λAM7=>⟨⟨Qo,Qo⟩,QB Qo ⟨Qo,λj hj=>?_⟩⟩⟩
    ·rw[Lf];rintro⟨_,_,h3⟩;have:=h3 k Qo;unfold z0i at this;rw[this] at kD;cases kD
    ·by_cases gG:j<k
     ·exact hI j gG
     ·have:j=k:=Qo;subst this;unfold z0i;rw[I6] at AM7;exact AM7
   ·have RM:=Ou RM;have hk:k=s.size:=Qo;subst hk;rw[LR.2 ⟨⟨Qo,Qo⟩,h.2,hI⟩]
def Q6(gs:List ZD)(g:Int):Bool:=(decide (g>=0)&&decide (g<(gs.length:Int)))&&(gi gs g).IV
def Q2{gs:List ZD}{g:Int}:Q6 gs g=true↔0<=g/\g<(gs.length:Int)/\(gi gs g).IV:=by
 unfold Q6;simp[and_assoc]
def dep:Nat->List ZD->Int->Int
 |0,_,g=>if g=0 then 0 else -1
 |f+1,gs,g=>if g=0 then 0 else if dep f gs (gi gs g).IG<0 then -1 else dep f gs (gi gs g).IG+1
def Pa:Nat->List ZD->Int->Int->Int
 |0,_,_,_ => -1
 |f+1,gs,g,n=>if Q6 gs g=false then -1 else if g=0 then n else Pa f gs (gi gs g).IG (n+1)
def Ol(gs:List ZD):∀(f:Nat) (g:Int),-1<=dep f gs g/\dep f gs g<=f
 |0,g=>by simp only[dep];split <;> omega
 |f+1,g=>by
  have:=Ol gs f (gi gs g).IG;simp only[dep];split
  ·omega
  ·split <;> omega
def H0(gs:List ZD):∀(f f':Nat) (g:Int),0<=dep f gs g->dep f gs g<=f'->dep f' gs g=dep f gs g
 |0,f',g,h,_=>by
  simp only[dep] at h ⊢
  split at h
  ·rename_i hg
   cases f' <;> simp[dep,hg]
  ·omega
 |f+1,f',g,h,hle=>by
  simp only[dep] at h hle ⊢
  by_cases hg:g=0
  ·rw[C' hg]
   cases f' <;> simp[dep,hg]
  ·rw[B' hg] at h hle ⊢
   by_cases hd:dep f gs (gi gs g).IG<0
   ·rw[C' hd] at h;omega
   ·rw[B' hd] at hle ⊢
    cases f' with
    |zero=>omega
    |succ f'=>
     have:=H0 gs f f' (gi gs g).IG Qo Qo;simp only[dep];rw[B' hg,this,B' hd]
def ZR(gs:List ZD)(f:Nat):dep f gs 0=0:=by cases f <;> simp[dep]
def zxh{gs:List ZD}{f:Nat}{g:Int}(h:dep f gs g=0):g=0:=by
 cases f with
 |zero=>simp only[dep] at h;split at h <;> first|assumption|omega
 |succ f=>
  simp only[dep] at h
  split at h
  ·assumption
  ·split at h <;> omega
structure Yr (gs:List ZD):Prop where
 len:gs.length=8
 ru:(gi gs 0).IV=true
 rp:(gi gs 0).IG = -1
 rn:(gi gs 0).name=⟨[].toArray⟩
 nm:∀g:Int,1<=g->g<8->(gi gs g).IV->UC (gi gs g).name=true
 par:∀g:Int,1<=g->g<8->(gi gs g).IV->Q6 gs (gi gs g).IG=true
 dp:∀g:Int,1<=g->g<8->(gi gs g).IV->0<=dep 3 gs g
 uniq:∀g h:Int,1<=h->h<g->g<8->(gi gs g).IV->(gi gs h).IV->¬((gi gs h).IG=(gi gs g).IG/\(gi gs h).name=(gi gs g).name)
noncomputable def Kj(gs:List ZD):Bool:=@decide (Yr gs) (Classical.propDecidable _)
def T6{gs:List ZD}:Kj gs=true↔Yr gs:=@decide_eq_true_iff _ (Classical.propDecidable _)
def By{gs:List ZD}(h:¬Yr gs):Kj gs=false:=by
 cases hb:Kj gs with
 |false=>rfl
 |true=>exact Ir (T6.1 hb) h
def FY{gs:List ZD}(hp:∀g:Int,g≠0->Q6 gs g->Q6 gs (gi gs g).IG):∀(f:Nat) (g n:Int),Q6 gs g->Pa (f+1) gs g n=if dep f gs g<0 then -1 else n+dep f gs g
 |0,g,n,hu=>by
  simp only[Pa,dep,hu]
  by_cases hg:g=0 <;> simp[hg]
 |f+1,g,n,hu=>by
  rw[Pa];simp only[hu]
  by_cases hg:g=0
  ·simp[hg,dep]
  ·have ih:=FY hp f (gi gs g).IG (n+1) (hp g hg hu);have hr:=Ol gs f (gi gs g).IG;simp only[dep,B' hg];rw[ih]
   by_cases hd:dep f gs (gi gs g).IG<0
   ·simp[hd]
   ·have h2:¬(dep f gs (gi gs g).IG+1<0):=Qo;simp[hd,h2];omega
def zux{gs:List ZD}{f:Nat}{g n:Int}(hg:g≠0)(h:Pa (f+1) gs g n≠-1):f≠0/\Q6 gs (gi gs g).IG:=by
 rw[Pa] at h
 by_cases hu:Q6 gs g=false
 ·rw[C' hu] at h;exact Ir rfl h
 ·rw[B' hu,B' hg] at h
  cases f with
  |zero=>exact Ir rfl h
  |succ f=>
   rw[Pa] at h
   by_cases hp:Q6 gs (gi gs g).IG=false
   ·rw[C' hp] at h;exact Ir rfl h
   ·exact⟨Qo,by simpa using hp⟩
structure zr2 (gs:List ZD) (k:Int):Prop where
 each:∀g:Int,1<=g->g<k->(gi gs g).IV->UC (gi gs g).name/\YY (Pa 9 gs g 0) 1 3/\∀h:Int,1<=h->h<g->(gi gs h).IV->¬((gi gs h).IG=(gi gs g).IG/\(gi gs h).name=(gi gs g).name)
def zv2{gs:List ZD}(hl:gs.length=8)(ru:(gi gs 0).IV)(rp:(gi gs 0).IG = -1)(rn:(gi gs 0).name=⟨[].toArray⟩)(h:zr2 gs 8):Yr gs:=by
 have par:∀g:Int,1<=g->g<8->(gi gs g).IV->Q6 gs (gi gs g).IG:=λg h1 h2 hu=>by
  have:=Qu.1 (h.each g h1 h2 hu).2.1;exact(zux (f:=8) (n:=0) Qo (by show Pa 9 gs g 0≠-1;omega)).2
 have hp:∀g:Int,g≠0->Q6 gs g->Q6 gs (gi gs g).IG:=λg hg hu=>by
  obtain⟨a,b,c⟩:=Q2.1 hu;exact par g Qo Qo c
 refine⟨hl,ru,rp,rn,λg h1 h2 hu=>(h.each g h1 h2 hu).1,par,λg h1 h2 hu=>?_,λg k h1 h2 h3 hu hk=>(h.each g Qo h3 hu).2.2 k h1 h2 hk⟩;have h9:=Qu.1 (h.each g h1 h2 hu).2.1;rw[FY hp 8 g 0 (Q2.2 ⟨Qo,Qo,hu⟩)] at h9
 split at h9
 ·omega
 ·rename_i hd;have:=H0 gs 8 3 g Qo Qo;omega
def ztx{gs:List ZD}(h:Yr gs):zr2 gs 8:=by
 have hp:∀g:Int,g≠0->Q6 gs g->Q6 gs (gi gs g).IG:=λg hg hu=>by
  obtain⟨a,b,c⟩:=Q2.1 hu;have:=h.len;exact h.par g Qo Qo c
 refine⟨λg h1 h2 hu=>⟨h.nm g h1 h2 hu,?_,λk h3 h4 hk=>h.uniq g k h3 h4 h2 hu hk⟩⟩;have hl:=h.len;rw[FY hp 8 g 0 (Q2.2 ⟨Qo,Qo,hu⟩)];have h3:=h.dp g h1 h2 hu;have hr:=Ol gs 3 g;have:=H0 gs 3 8 g h3 Qo;rw[this,B' Qo];have hz:dep 3 gs g≠0:=λe=>by have:=zxh e;omega
 exact Qu.2 Qo
section
variable {gs:List ZD}{ms:Nat->MG}{o:OA}{c:Nat}{w:Wo}{bs:List Nat}
def Gd.IV(h:Gd bs w o gs ms){i:Int}(h0:0<=i)(h1:i<(gs.length:Int)):Q1 bs w o (Int.toNat i*14+0) [.bool (gi gs i).IV]:=(h.cells i h0 h1).get 0 _ rfl
def Gd.IG(h:Gd bs w o gs ms){i:Int}(h0:0<=i)(h1:i<(gs.length:Int)):Q1 bs w o (Int.toNat i*14+1) [I (gi gs i).IG]:=(h.cells i h0 h1).get 1 _ rfl
def Gd.name(h:Gd bs w o gs ms){i:Int}(h0:0<=i)(h1:i<(gs.length:Int)):Q1 bs w o (Int.toNat i*14+2) [.string (gi gs i).name]:=(h.cells i h0 h1).get 2 _ rfl
def Xr{g:Int}(h:Gd bs w o gs ms):PX bs Yt #[.slice o gs.length c,I g] w (.bool (Q6 gs g)):=
 zib o gs.length c g λwr hx=>by
  have h:=(h.ext hx).less (cs:=[]) Qs;refine⟨λq=>?_,(gi gs g).IV,λq=>?_,rfl⟩
  ·have q:0<=g/\g<(gs.length:Int):=by simpa using q
   exact h.ix q.1 q.2
  ·have q:0<=g/\g<(gs.length:Int):=by simpa using q
   exact h.IV q.1 q.2
def MF{g:Int}(h:Gd bs w o gs ms)(hl:gs.length<maxLen):PX bs JO #[.slice o gs.length c,I g] w (I (Pa (gs.length+1) gs g 0)):=
 ze5 o gs.length c g λwr hx=>by
  have h:=(h.ext hx).less (cs:=[]) Qs;refine Pc (gs.length+1) 0 rfl (λx k=>k<=gs.length+1/\Pa (gs.length+1-k) gs x k=Pa (gs.length+1) gs g 0) ⟨Qo,rfl⟩ λx k ⟨hk,he⟩=>⟨λIW=>?_,λRM=>?_⟩
  ·have IW:=Ot IW;have hf:gs.length+1-k=(gs.length-k)+1:=Qo;rw[hf,Pa] at he;refine⟨_,Xr h,λhu=>?_,λhu=>?_⟩
   ·have hu:Q6 gs x=false:=by simpa using hu
    rw[C' hu] at he;rw[<-he]
   ·have hu:Q6 gs x:=by simpa using hu
    rw[B' (by simp[hu])] at he;obtain⟨u1,u2,u3⟩:=Q2.1 hu;refine⟨λhz=>?_,λhz=>?_⟩
    ·rw[C' (by simpa using hz)] at he;rw[<-he]
    ·rw[B' (by simpa using hz)] at he;have hm:=XX;refine⟨h.ix u1 u2,_,h.IG u1 u2,⟨Qo,Qo⟩,QN Qo ⟨Qo,?_⟩⟩;rw[<-he,show gs.length+1-(k+1)=gs.length-k by omega];rfl
  ·have RM:=Ou RM;have:gs.length+1-k=0:=Qo;rw[this] at he;rw[<-he];rfl
def DP(h:Gd bs w o gs ms)(hl:gs.length<=maxLen):PX bs TA #[.slice o gs.length c] w (.bool (Kj gs)):=
 zh7 o gs.length c λwr hx=>by
  have h:=(h.ext hx).less (cs:=[]) Qs;have l8:((((gs.length:Nat):Int) != 8)=false)->gs.length=8:=λq=>by have:=(bne_eq_false_iff_eq).1 q;omega
  have i0:∀q:(((gs.length:Nat):Int) != 8)=false,(0:Int)<(gs.length:Int):=λq=>by have:=l8 q;omega
  refine⟨λq=>h.ix (I2 _) (i0 q),(gi gs 0).IV,λq=>h.IV (I2 _) (i0 q),λq=>?_,(gi gs 0).IG,λq=>?_,λq=>?_,(gi gs 0).name,λq=>?_,λq=>?_,λq=>?_⟩
  ·simp only[H'] at q;exact h.ix (I2 _) (i0 q.1)
  ·simp only[H'] at q;exact h.IG (I2 _) (i0 q.1)
  ·simp only[H'] at q;exact h.ix (I2 _) (i0 q.1.1)
  ·simp only[H'] at q;exact h.name (I2 _) (i0 q.1.1)
  ·rw[By];intro ht;have e:((gs.length:Nat):Int)=8:=by have:=ht.len;omega
   rw[e,ht.ru,ht.rp,ht.rn,Bu] at q;simp at q
  ·simp only[H',I6,bne_eq_false_iff_eq,JX] at q;obtain⟨⟨⟨q1,ru⟩,rp⟩,rn⟩:=q;have hl8:gs.length=8:=Qo;refine X7 8 1 rfl (λk=>1<=k/\k<=8/\zr2 gs k) ⟨I7 _,Qo,⟨λg h1 h2=>by omega⟩⟩ λk ⟨hk1,hk,hS⟩=>⟨λIW=>?_,λRM=>?_⟩
   ·have IW:=Ot IW;have cY:(0:Int)<=(k:Int):=Qo
    have step:((gi gs (k:Int)).IV->UC (gi gs (k:Int)).name/\YY (Pa 9 gs (k:Int) 0) 1 3/\∀h:Int,1<=h->h<(k:Int)->(gi gs h).IV->¬((gi gs h).IG=(gi gs (k:Int)).IG/\(gi gs h).name=(gi gs (k:Int)).name))->zr2 gs ((k+1:Nat):Int):=λkE=>⟨λg h1 h2 hu=>by
     by_cases sU:g<(k:Int)
     ·exact hS.each g h1 sU hu
     ·have:g=(k:Int):=Qo;subst this;exact kE hu⟩
    refine⟨h.ix cY IW,_,h.IV cY IW,λhu=>⟨⟨Qo,Qo⟩,QB Qo ⟨Qo,Qo,step λhu'=>by rw[hu'] at hu;cases hu⟩⟩,λhu=>?_⟩;have hu:(gi gs (k:Int)).IV:=by simpa using hu
    refine⟨h.ix cY IW,_,h.name cY IW,_,DO,Pa 9 gs (k:Int) 0,λ_=>?_,YY (Pa 9 gs (k:Int) 0) 1 3,λ_=>Qq,λq=>?_,λq=>?_⟩
    ·have:=MF (c:=c) (g:=(k:Int)) h (by rw[hl8];simp[maxLen])
     rwa[hl8] at this ⊢
    ·rw[By];intro ht;have:=(ztx ht).each (k:Int) Qo Qo hu;rw[this.1,this.2.1] at q;cases q
    ·simp only[H',I6] at q;refine X7 k 1 rfl (λj=>1<=j/\j<=k/\∀h:Int,1<=h->h<(j:Int)->(gi gs h).IV->¬((gi gs h).IG=(gi gs (k:Int)).IG/\(gi gs h).name=(gi gs (k:Int)).name)) ⟨I7 _,hk1,λg h1 h2=>by omega⟩ λj ⟨hj1,gG,hJ⟩=>⟨λRh=>?_,λaX=>?_⟩
     ·have Rh:=Ot Rh;have hj0:(0:Int)<=(j:Int):=Qo;have hjl:(j:Int)<(gs.length:Int):=Qo;refine⟨h.ix hj0 hjl,_,h.IV hj0 hjl,λ_=>h.ix hj0 hjl,_,λ_=>h.IG hj0 hjl,λ_=>h.ix cY IW,_,λ_=>h.IG cY IW,λ_=>h.ix hj0 hjl,_,λ_=>h.name hj0 hjl,λ_=>h.ix cY IW,_,λ_=>h.name cY IW,λhs=>?_,λhs=>⟨⟨Qo,Qo⟩,QB Qo ⟨Qo,Qo,λg h1 h2 hg=>?_⟩⟩⟩
      ·rw[By];intro ht;simp only[A',Is,JX] at hs;exact ht.uniq (k:Int) (j:Int) Qo Rh Qo hu hs.1.1 ⟨hs.1.2,hs.2⟩
      ·by_cases hgj:g<(j:Int)
       ·exact hJ g h1 hgj hg
       ·have:g=(j:Int):=Qo;subst this;rintro⟨e1,e2⟩;rw[hg,e1,e2,Bu] at hs;simp at hs
     ·have aX:=Ou aX;have:j=k:=Qo;subst this;exact⟨⟨Qo,Qo⟩,QB Qo ⟨Qo,Qo,step λ_=>⟨q.1,q.2,hJ⟩⟩⟩
   ·have RM:=Ou RM;have:k=8:=Qo;subst this;rw[T6.2 (zv2 hl8 ru rp rn hS)]
def O4:Nat->List ZD->Int->Int->Bool
 |0,_,g,h=>h==g
 |f+1,gs,g,h=>h==g||(h != 0&&O4 f gs g (gi gs h).IG)
noncomputable def PG(gs:List ZD)(g h:Int):Bool:=Kj gs&&Q6 gs g&&Q6 gs h&&O4 3 gs g h
def Y0{gs:List ZD}(ht:Yr gs){h:Int}(hu:Q6 gs h)(hz:h≠0):Q6 gs (gi gs h).IG/\0<=h/\h<(gs.length:Int)/\∃d:Nat,dep 3 gs h=(d:Int)+1/\dep 3 gs (gi gs h).IG=(d:Int)/\d<3:=by
 obtain⟨a,b,u⟩:=Q2.1 hu;have hl:=ht.len;have h1:1<=h:=Qo;have hd:=ht.dp h h1 Qo u;refine⟨ht.par h h1 Qo u,a,b,?_⟩;have hr:=Ol gs 2 (gi gs h).IG;have e:dep 3 gs h=if dep 2 gs (gi gs h).IG<0 then -1 else dep 2 gs (gi gs h).IG+1:=by simp only[dep,B' hz]
 rw[e] at hd ⊢
 split at hd
 ·omega
 ·rename_i hn;rw[B' hn];have:=H0 gs 2 3 (gi gs h).IG Qo Qo;exact⟨(dep 2 gs (gi gs h).IG).toNat,Qo,Qo,Qo⟩
def zuq{gs:List ZD}(ht:Yr gs)(g:Int):∀(f f':Nat) (h:Int),Q6 gs h->dep 3 gs h<=f->dep 3 gs h<=f'->O4 f gs g h=O4 f' gs g h:=by
 intro f
 induction f with
 |zero=>
  intro f' h hu h1 h2
  have hz:h=0:=Iq λhz=>by
   obtain⟨_,_,_,d,e,_⟩:=Y0 ht hu hz;omega
  subst hz
  cases f' <;> simp[O4]
 |succ f ih=>
  intro f' h hu h1 h2
  by_cases hz:h=0
  ·subst hz
   cases f' <;> simp[O4]
  ·obtain⟨hp,_,_,d,e,e2,_⟩:=Y0 ht hu hz
   cases f' with
   |zero=>omega
   |succ f'=>
    simp only[O4];rw[ih f' (gi gs h).IG hp Qo Qo]
def zi3{gs:List ZD}(ht:Yr gs){g h:Int}(hu:Q6 gs h)(hz:h≠0)(hg:h≠g):O4 3 gs g h=O4 3 gs g (gi gs h).IG:=by
 obtain⟨hp,_,_,d,e,e2,hd⟩:=Y0 ht hu hz;rw[<-zuq ht g 2 3 (gi gs h).IG hp Qo Qo];have e3:O4 3 gs g h=(h==g||(h != 0&&O4 2 gs g (gi gs h).IG)):=rfl;rw[e3];have e4:(h==g)=false:=by simpa using hg
 have e5:(h != 0):=by simpa using hz
 rw[e4,e5,Bool.false_or,Bool.true_and]
def OM{g h:Int}(hr:Gd bs w o gs ms)(hl:gs.length<=maxLen):PX bs J3 #[.slice o gs.length c,I g,I h] w (.bool (PG gs g h)):=
 NW o gs.length c g h λwr hx=>by
  have hr:=(hr.ext hx).less (cs:=[]) Qs;refine⟨_,DP hr hl,_,λ_=>Xr hr,_,λ_=>Xr hr,λq=>?_,λq=>?_⟩
  ·have:PG gs g h=false:=by
    unfold PG
    cases h1:Kj gs <;> cases h2:Q6 gs g <;> cases h3:Q6 gs h <;> simp_all
   rw[this]
  ·simp only[H',I6] at q;obtain⟨⟨q1,q2⟩,q3⟩:=q;have ht:=T6.1 q1;have hU:PG gs g h=O4 3 gs g h:=by unfold PG;rw[q1,q2,q3];rfl
   refine⟨λvs=>∃x:Int,vs=[I x]/\Q6 gs x/\O4 3 gs g x=O4 3 gs g h,λvs=>(dep 3 gs (Ye 0 vs)).toNat,⟨h,rfl,q3,rfl⟩,?_⟩;rintro x ⟨x',he,hu,hI⟩;simp only[I4,I5,true_and,and_true] at he;subst he;refine⟨λcU=>⟨λhz=>?_,λhz=>?_⟩,λheq=>?_⟩
   ·have hz:x=0:=by simpa using hz
    subst hz
    have:O4 3 gs g 0=false:=by
     have:¬(0=g):=by simpa using cU
     simp[O4,this]
    rw[hU,<-hI,this]
   ·have hz:x≠0:=by simpa using hz
    have cU:x≠g:=by simpa using cU
    obtain⟨hp,a,b,d,e,e2,hd⟩:=Y0 ht hu hz;refine⟨hr.ix a b,_,hr.IG a b,⟨_,rfl,hp,by rw[<-zi3 ht hu hz cU];exact hI⟩,?_⟩;show (dep 3 gs (gi gs x).IG).toNat<(dep 3 gs x).toNat;omega
   ·have heq:x=g:=by simpa using heq
    subst heq;rw[hU,<-hI];simp[O4]
end
def zul{s:ByteArray}{i:Nat}(h:i<s.size):((s.get! i).toNat:Int)=Uf s (i:Int):=by
 have hi:i<s.data.size:=h;unfold Uf;rw[Ig];simp[ByteArray.get!,getElem!_pos s.data i hi,Array.getD,h]
def zit{s:ByteArray}{i:Nat}(h:(s.get! i).toNat<128):Utf8.decode s i=((s.get! i).toNat,1):=by
 simp only[Utf8.decode,Nat.add_zero];rw[C' h]
def zub{s:ByteArray}{i:Nat}(h:¬(s.get! i).toNat<128):128<=(Utf8.decode s i).1/\1<=(Utf8.decode s i).2:=by
 simp only[Utf8.decode,Nat.add_zero,Utf8.runeError];rw[B' h];split
 ·split
  ·rename_i h1;exact⟨h1,by show 1<=2;omega⟩
  ·exact⟨Qd,Qd⟩
 ·split
  ·split
   ·rename_i h1;simp only[ge_iff_le,A',Ij] at h1;exact⟨by show 128<=_;omega,by show 1<=3;omega⟩
   ·exact⟨Qd,Qd⟩
  ·split
   ·split
    ·rename_i h1;simp only[ge_iff_le,A',Ij] at h1;exact⟨by show 128<=_;omega,by show 1<=4;omega⟩
    ·exact⟨Qd,Qd⟩
   ·exact⟨Qd,Qd⟩
def zut(w:Wo)(b:Nat)(s:ByteArray)(p:Nat):Q0 [b] w (MC w b s p):=
 ⟨rfl,rfl,rfl,by simp[MC],λk _ hk=>by
  have:b≠k:=λe=>hk (by simp[e])
  simp only[MC];rw[Array.getElem?_setIfInBounds_ne this]⟩
def zye{w:Wo}{b:Nat}{s:ByteArray}{p:Nat}(h:b<w.heap.size):(MC w b s p).heap[b]? = some (.stringIter s p):=by
 simp[MC,h]
def z3s(b:Nat)(w:Wo):Nat:=match w.heap[b]? with
 |some (.stringIter s p)=>s.size+1-p
 |_=>0
def znl{s:ByteArray}(h1:ZC s (⟨[119,101,105,103,104,116].toArray⟩)=false)(h2:ZC s (⟨[109,97,120].toArray⟩)=false)(h3:ZC s (⟨[99,112,117,115].toArray⟩)=false)(h4:ZC s (⟨[112,114,111,99,115].toArray⟩)=false)(h5:ZC s (⟨[115,116,97,116].toArray⟩)=false):Kb s=false:=by
 unfold Kb;rw[h1,h2,h3,h4,h5];rfl
def Pe{s:ByteArray}(h:Kb s):UC s=false:=Lf λ⟨_,h2,_⟩=>by rw[h] at h2;cases h2
def zhc{s:ByteArray}{w:Wo}{bs:List Nat}:PX bs Mk #[.string s] w (.bool (UC s)):=by
 refine Lk λwr hx=>zg1 s (R:=λv w'=>v=.bool (UC s)/\Q0 [] wr w') ?_
 refine⟨λh=>?_,λh1=>⟨λh=>?_,λh2=>⟨λh=>?_,λh3=>⟨λh=>?_,λh4=>⟨λh=>?_,λh5=>?_⟩⟩⟩⟩⟩
 ·intro w1 S9;rw[Pe (by unfold Kb;rw[h];rfl)];exact⟨rfl,S9⟩
 ·intro w1 S9;rw[Pe (by unfold Kb;rw[h];simp)];exact⟨rfl,S9⟩
 ·intro w1 S9;rw[Pe (by unfold Kb;rw[h];simp)];exact⟨rfl,S9⟩
 ·intro w1 S9;rw[Pe (by unfold Kb;rw[h];simp)];exact⟨rfl,S9⟩
 ·intro w1 S9;rw[Pe (by unfold Kb;rw[h];simp)];exact⟨rfl,S9⟩
 ·have hf:=znl h1 h2 h3 h4 h5;refine⟨_,QK,λh=>?_,λh=>?_⟩
  ·intro w1 S9;have h:YY (s.size:Int) 1 8=false:=by simpa using h
   have h:=z3i.1 h;rw[Lf λ⟨h6,_⟩=>h Qo];exact⟨rfl,S9⟩
  ·have h:YY (s.size:Int) 1 8:=by simpa using h
   have h:=Qu.1 h;intro w1 S9 _;refine⟨some ⟨w1.heap.size,0,none⟩,w1.alloc (.stringIter s 0),by simp[Instr.range,run_underlying zfw],Xm,?_⟩;have hb0:(w1.alloc (.stringIter s 0)).heap[w1.heap.size]? = some (.stringIter s 0):=Array.getElem?_push_size ..;have hX0:Q0 [] wr (w1.alloc (.stringIter s 0)):=S9.trans (Zc w1 _);have hbr:wr.heap.size<=w1.heap.size:=S9.size;generalize w1.heap.size=b at hb0 hbr;generalize w1.alloc (.stringIter s 0)=w2 at hb0 hX0;refine⟨λvs w'=>vs=[]/\Q0 [] wr w'/\∃p:Nat,p<=s.size/\w'.heap[b]? = some (.stringIter s p)/\∀j:Nat,j<p->z0i (Uf s (j:Int)),λ_ w'=>z3s b w',λw3 Rl _=>⟨rfl,hX0.trans Rl,0,Ic _,QP hb0 Rl Qs,λj hj=>Ir hj (Nat.not_lt_zero j)⟩,?_⟩;intro w3 _ ⟨_,hX,p,hp,hb,hI⟩ w4 T' _;have hb4:=QP hb T' Qs;refine⟨b,s,p,rfl,Qs,hb4,λRM=>⟨(by intro q;cases q),λ_ w5 Su=>?_⟩,λIW=>⟨λ_=>?_,by intro q;cases q⟩⟩
   ·have:p=s.size:=Qo;subst this;rw[LR.2 ⟨⟨Qo,Qo⟩,hf,hI⟩];exact⟨rfl,(hX.trans T').trans Su⟩
   ·have hX5:Q0 [] wr (MC w4 b s (p+(Utf8.decode s p).2)):=(hX.trans T').fresh (zut w4 b s _) λx hm=>.inl (by rw[IA.1 hm];exact hbr)
    have hg:=zul IW;refine⟨λkD=>?_,λAM7=>?_⟩
    ·intro w5 Su
     have Cz8:UC s=false:=Lf λ⟨_,_,h3⟩=>by
      have h3:=h3 p IW
      by_cases hlo:(s.get! p).toNat<128
      ·rw[zit hlo] at kD;simp only[hg] at kD;unfold z0i at h3;rw[h3] at kD;cases kD
      ·unfold z0i at h3;simp only[Iu,A',Ij] at h3;omega
     rw[Cz8];exact⟨rfl,hX5.trans Su⟩
    ·intro w5 Su _
     by_cases hlo:(s.get! p).toNat<128
     ·rw[zit hlo] at AM7 hX5 Su;simp only[hg] at AM7;have hat:=QP (zye (s:=s) (p:=p+1) (V3 hb4)) Su Qs;refine⟨⟨rfl,hX5.trans Su,p+1,Qo,hat,λj hj=>?_⟩,?_⟩
      ·by_cases hjp:j<p
       ·exact hI j hjp
       ·have:j=p:=Qo;subst this;unfold z0i;rw[I6] at AM7;exact AM7
      ·simp only[z3s,hat,hb];omega
     ·exfalso
      have:=zub hlo;rw[I6] at AM7;simp only[Iu,A',Ij] at AM7;omega
end Go.Proofs.YtjinkcmkgnofjaaGreatDoor
