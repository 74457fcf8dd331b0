/- Part 7 of what the law FnPlug needs. -/
import Derived.Test.YtnclplgaicdapaaGreatDoorFnPlugPf
set_option linter.unusedVariables false
set_option linter.unusedSimpArgs false
set_option maxRecDepth 100000
set_option maxHeartbeats 8000000
namespace Go.Proofs.YtnclplgaicdapaaGreatDoor
open Go.RowKit
def CO(r:Int)(p:OA)(t u:Nat)(y:OA)(x B:Nat)(A:OA)(q v:Nat)(w:Wo)(R:RT):= (∀e f,Q0 [] w f->w.heap.size<=e->f.heap[e]? = some (Obj.cells ([I r,S p t u,S y x B,S A q v]:List Va).toArray Q5 (0,0))->e∉([]:List Nat)->(∀b,f.heap.size<=b->(∃(i:List Va->Wo->Prop) (n:List Va->Wo->Nat),(AX [] [b] f fun s=>i [.bool true,I 0] s)/\∀(d:Bool) (a:Int) c,(∀bq∈[b],bq<c.heap.size)->i [.bool d,I a] c->((decide (a<5))=true->(∃(k:Fn) (l:Array Va) (o:Array Va),(0<=a/\a<(5:Int)/\(#[.func (.func Xp) #[] #[],.func (.func X6) #[] #[],.func (.func Xq) #[] #[],.func (.func YU) #[] #[],.func (.func XD) #[] #[]]:Array Va)[Int.toNat a]? = some (.func k l o))/\(AY [b] c fun j=>Ov Tryz.prog (.func k l o) [.pointer ((some (Addr.mk e 0 none)).map (·.add 0))] j fun z g=>(∃h,z=.returned (.bool h)/\Q9 [b] j g/\((!h)=true->(AR [b] g R (.bool false)))/\((!h)=false->Qq .i64 (a+1)/\(AY [b] g fun m=>i [.bool d,I (a+1)] m/\n [.bool d,I (a+1)] m<n [.bool d,I a] c))))))/\((decide (a<5))=false->(AR [b] c R (.bool d))))))
theorem zai(a b c d e f g h i j):Jj (CO a b c d e f g h i j) V2 #[Wv a b c d e f g h i j]:=eV [1] false [(4,⟨[(4,.bool),(9,Ri)],[],[1,8],[],[]⟩)] Tryz.func21 Qk Qk
def NC(v s t:Int)(z:OA)(l y:Nat)(A:OA)(j u:Nat)(w:Wo)(R:RT):= (∀a,w.heap.size<=a->(∀b,w.heap.size<=b->(AX [] [a,b] w fun p=>(∃i k c,∃f,((Instr.makeSlice YA (I (l:Int)) (I (l:Int))):Sem Va).run Tryz.prog p=.ok (S i k c) f/\Q9 [a,b] p f/\(AY [a,b] f fun o=>(∃x,∃e,(builtin .copy #[YA,YA] Qb #[false,false] #[S i k c,S z l y]).run Tryz.prog o=.ok (.value (I x)) e/\Q9 [a,b] o e/\(AY [a,b] e fun q=>(∃d n m,∃g,((Instr.makeSlice XV (I (j:Int)) (I (j:Int))):Sem Va).run Tryz.prog q=.ok (S d n m) g/\Q9 [a,b] q g/\(AY [a,b] g fun r=>(∃B,∃h,(builtin .copy #[XV,XV] Qb #[false,false] #[S d n m,S A j u]).run Tryz.prog r=.ok (.value (I B)) h/\Q9 [a,b] r h/\(AR [a,b] h R (.agg #[I v,I s,I t,S i k c,S d n m]))))))))))))
theorem Ae(a b c d e f g h i):Jj (NC a b c d e f g h i) TM #[.agg #[I a,I b,I c,S d e f,S g h i]]:=eV [] false [] Tryz.func242 Qk Qk
def FP(p:Int)(a8:OA)(a9 b1:Nat)(c0:OA)(b7 c1:Nat)(v:OA)(G b3:Nat)(w:Wo)(R:RT):= (∀b,w.heap.size<=b->(∀c,w.heap.size<=c->(∀a,w.heap.size<=a->(AX [] [b,c,a] w fun J=>(∃o n j,∃s,(builtin .append #[Zm,Zm] Zm #[false,false] #[S none 0 0,S a8 a9 b1]).run Tryz.prog J=.ok (.value (S o n j)) s/\Q9 [b,c,a] J s/\(AY [b,c,a] s fun A=>(∃m k l,∃r,(builtin .append #[QZ,QZ] QZ #[false,false] #[S none 0 0,S c0 b7 c1]).run Tryz.prog A=.ok (.value (S m k l)) r/\Q9 [b,c,a] A r/\(AY [b,c,a] r fun T=>(∃e f i,∃t,(builtin .append #[Qz,Qz] Qz #[false,false] #[S none 0 0,S v G b3]).run Tryz.prog T=.ok (.value (S e f i)) t/\Q9 [b,c,a] T t/\(∃(x:List Va->Wo->Prop) (a4:List Va->Wo->Nat),(AY [b,c,a] t fun b5=>x [I 0] b5)/\∀(d:Int) h,(∀bq∈[b,c,a],bq<h.heap.size)->x [I d] h->((decide (d<(f:Int)))=true->Ix v G d/\(∃(b6:Bool) (c3:Int) (b8:ByteArray) (c4 c2 b0 b2 b4 a2 N Q:Int) (X:OA) (H a6:Nat) (E:OA) (a1 B:Nat) (C:OA) (M a5:Nat),Q1 [b,c,a] h v (Int.toNat d*14) [.bool b6,I c3,.string b8,I c4,I c2,I b0,I b2,I b4,I a2,I N,I Q,S X H a6,S E a1 B,S C M a5]/\(∀g,h.heap.size<=g->(AX [b,c,a] [b,c,a,g] h fun a0=>Cz TM #[.agg #[I a2,I N,I Q,S X H a6,S E a1 B]] a0 fun b9 u=>(∃Y L F V O P a3 z D,b9=.returned (.agg #[I Y,I L,I F,S V O P,S a3 z D])/\Q9 [b,c,a,g] a0 u/\(some (Q5,([I p,S o n j,S m k l,S e f i]:List Va))=some (Q5,([I p,S o n j,S m k l,S e f i]:List Va)))/\Ix e f d/\X0 [b,c,a,g] u e (Int.toNat d*14+8) 5/\(AY [b,c,a,g] (Rl u e (Int.toNat d*14+8) [I Y,I L,I F,S V O P,S a3 z D]) fun y=>(∃a7 K U,∃q,(builtin .append #[Z5,Z5] Z5 #[true,false] #[S none 0 0,S C M a5]).run Tryz.prog y=.ok (.value (S a7 K U)) q/\Q9 [b,c,a,g] y q/\(some (Q5,([I p,S o n j,S m k l,S e f i]:List Va))=some (Q5,([I p,S o n j,S m k l,S e f i]:List Va)))/\Ix e f d/\X0 [b,c,a,g] q e (Int.toNat d*14+13) 1/\Qq .i64 (d+1)/\(AY [b,c,a,g] (Rl q e (Int.toNat d*14+13) [S a7 K U]) fun Z=>x [I (d+1)] Z/\a4 [I (d+1)] Z<a4 [I d] h))))))))/\((decide (d<(f:Int)))=false->(AR [b,c,a] h R (Wv p o n j m k l e f i)))))))))))))
theorem Bc(a b c d e f g h i j):Jj (FP a b c d e f g h i j) JN #[Wv a b c d e f g h i j]:=eV [] false [(6,⟨[(30,Ri)],[],[1,2,3,29],[],[]⟩)] Tryz.func172 Qk Qk
def CP(k:Int)(i:OA)(o p:Nat)(s:OA)(r u:Nat)(t:OA)(j q:Nat)(b0:Fn)(a8:Array Va)(a3:Array Va)(w:Wo)(R:RT):= (∀a,w.heap.size<=a->(∀b,w.heap.size<=b->(∃m,PX [] V2 #[Wv k i o p s r u t j q] w (.bool m)/\((!m)=true->(AR [] w R (.tuple #[Wv 0 none 0 0 none 0 0 none 0 0,I 1])))/\((!m)=false->(CWx [] [a,b] JN #[Wv k i o p s r u t j q] w fun T X H J v V O N z Y B=>( (∀c f,Q0 [a,b] B f->B.heap.size<=c->f.heap[c]? = some (Obj.cells ([I 0,S none 0 0,S none 0 0,S none 0 0]:List Va).toArray Q5 (0,0))->c∉([a,b]:List Nat)->X0 [a,b] f (some (Addr.mk c 0 none)) 0 4/\(∀d l,Q0 [a,b] (Rl f (some (Addr.mk c 0 none)) 0 [I T,S X H J,S v V O,S N z Y]) l->(Rl f (some (Addr.mk c 0 none)) 0 [I T,S X H J,S v V O,S N z Y]).heap.size<=d->l.heap[d]? = some (Obj.cells ([I 0]:List Va).toArray QY (0,0))->d∉([a,b]:List Nat)->(AY [a,b] l fun L=>Ov Tryz.prog (.func b0 a8 a3) [.pointer ((some (Addr.mk c 0 none)).map (·.add 0))] L fun b3 y=>(∃(G:Va),b3=.returned G/\Q9 [a,b] L y/\(AY [a,b] y fun P=>Cz KH #[G,.iface XP (.pointer ((some (Addr.mk d 0 none)).map (·.add 0)))] P fun a6 e=>(∃h,a6=.returned (.bool h)/\Q9 [a,b] P e/\(h=true->(∃g,Q1 [a,b] e (some (Addr.mk d 0 none)) (0+0) [I g]/\(CW [a,b] JN #[Wv k i o p s r u t j q] e fun a1 a0 a4 b1 a9 b2 a5 Z a7 a2 n=>( Q1 [a,b] n (some (Addr.mk d 0 none)) (0+0) [I g]/\Q1 [a,b] n (some (Addr.mk d 0 none)) (0+0) [I g]/\(AR [a,b] n R (.tuple #[Wv a1 a0 a4 b1 a9 b2 a5 Z a7 a2,I g]))))))/\(h=false->(∃Q x C E K F D U M A,Q1 [a,b] e (some (Addr.mk c 0 none)) 0 [I Q,S x C E,S K F D,S U M A]/\(AR [a,b] e R (.tuple #[Wv Q x C E K F D U M A,I 0]))))))))))))))))
theorem zaj(a b c d e f g h i j k l m):Jj (CP a b c d e f g h i j k l m) V3 #[Wv a b c d e f g h i j,.func k l m]:=eV [6,7] false [] Tryz.func76 Qk Qk
def E9(q:Int)(o:OA)(v y:Nat)(J:OA)(F M:Nat)(L:OA)(p A:Nat)(O:Int)(z:Bool)(x:Fn)(N:Array Va)(K:Array Va)(G:Fn)(E:Array Va)(u:Array Va)(w:Wo)(R:RT):= (∀a,w.heap.size<=a->(∀h e,Q0 [] w e->w.heap.size<=h->e.heap[h]? = some (Obj.cells ([I O]:List Va).toArray Qb (0,0))->h∉([a]:List Nat)->(∀b g,Q0 [a] e g->e.heap.size<=b->g.heap[b]? = some (Obj.cells ([.bool z]:List Va).toArray Y4 (0,0))->b∉([a]:List Nat)->(∀d f,Q0 [a] g f->g.heap.size<=d->f.heap[d]? = some (Obj.cells ([.func x N K]:List Va).toArray 70 (0,0))->d∉([a]:List Nat)->(∀c i,Q0 [a] f i->f.heap.size<=c->i.heap[c]? = some (Obj.cells ([.func G E u]:List Va).toArray 76 (0,0))->c∉([a]:List Nat)->(∀j,i.heap.size<=j->(CVx [a] [a,j] V3 #[Wv q o v y J F M L p A,.func (.func XF) #[] #[.pointer ((some (Addr.mk h 0 none)).map (·.add 0)),.pointer ((some (Addr.mk b 0 none)).map (·.add 0)),.pointer ((some (Addr.mk d 0 none)).map (·.add 0)),.pointer ((some (Addr.mk c 0 none)).map (·.add 0))]] i fun m k l D r H B P t C n s=>( (AR [a,j] s R (.tuple #[Wv m k l D r H B P t C,I n]))))))))))
theorem Ex(a b c d e f g h i j k l m n o p q r):Jj (E9 a b c d e f g h i j k l m n o p q r) Jo #[Wv a b c d e f g h i j,I k,.bool l,.func m n o,.func p q r]:=eV [6,7,8,9] false [] Tryz.func62 Qk Qk
def NE(c:OA)(d:Int)(w:Wo)(R:RT):= (∀f,w.heap.size<=f->c.isSome=true/\(∃a b e,Q1 [] w c (0+1) [S a b e]/\Ix a b d/\R (.pointer (a.map (·.add (Int.toNat d*5)))) w))
theorem AP(a b):YG (NE a b) Ye #[.agg #[.pointer a,I b]]:=pV [] false [] Tryz.func64 Qk Qk
def LQ(c:OA)(d:Int)(w:Wo)(R:RT):= (∀e,w.heap.size<=e->(∃a,PX [] Ye #[.agg #[.pointer c,I d]] w (.pointer a)/\(∃b,PX [] Ye #[.agg #[.pointer c,I d]] w (.pointer b)/\a.isSome=true/\X0 [] w a (0+1) 1/\b.isSome=true/\X0 [] (Rl w a (0+1) [I (-1)]) b (0+2) 1/\(AR [] (Rl (Rl w a (0+1) [I (-1)]) b (0+2) [I 0]) R (.tuple #[])))))
theorem G1(a b):Jj (LQ a b) Yr #[.agg #[.pointer a,I b]]:=eV [] false [] Tryz.func65 Qk Qk
def D5(a:OA)(f:Int)(w:Wo)(R:RT):= a.isSome=true/\(∃c e q,Q1 [] w a (0+2) [S c e q]/\Ix c e f/\(∃o i h s r k l n p,Q1 [] w c (Int.toNat f*9) [I o,I i,I h,I s,I r,I k,I l,I n,I p]/\(∀m,w.heap.size<=m->(∃g j,PX [] Z8 #[.pointer a,I h] w (.agg #[.pointer g,I j])/\(∃b,PX [] QA #[.agg #[.pointer g,I j],I i] w (.pointer b)/\b.isSome=true/\(∃d,Q1 [] w b (0+0) [I d]/\R (I d) w))))))
theorem DI(a b):YG (D5 a b) XX #[.pointer a,I b]:=pV [] false [] Tryz.func126 Qk Qk
def zdl(b c:Int)(w:Wo)(R:RT):= (∃a,PX [] V0 #[I c] w (I a)/\R (I (if (if a<b then a else b)>0 then (if a<b then a else b) else 0)) w)
theorem zff(a b):YG (zdl a b) VU #[I a,I b]:=pV [] false [] Tryz.func127 Qk Qk
def Ho(e:OA)(b:Int)(w:Wo)(R:RT):= e.isSome=true/\(∃a f g,Q1 [] w e (0+2) [S a f g]/\Ix a f b/\(∃d,Q1 [] w a (Int.toNat b*9+3) [I d]/\(∃c,PX [] J0 #[I d] w (I c)/\R (I c) w)))
theorem HD(a b):YG (Ho a b) U7 #[.pointer a,I b]:=pV [] false [] Tryz.func128 Qk Qk
def FK(g:OA)(a d c:Int)(w:Wo)(R:RT):= g.isSome=true/\(∃b p r,Q1 [] w g (0+2) [S b p r]/\Ix b p a/\(∃i,Q1 [] w b (Int.toNat a*9+5) [I i]/\(∃j,PX [] XX #[.pointer g,I a] w (I j)/\Qq .i64 (i-j)/\(∃k,PX [] U7 #[.pointer g,I a] w (I k)/\(∃e,PX [] VU #[I (i-j),I k] w (I e)/\X0 [] w b (Int.toNat a*9+1) 1/\X0 [] (Rl w b (Int.toNat a*9+1) [I d]) b (Int.toNat a*9+2) 1/\(∃f,PX [] XX #[.pointer g,I a] (Rl (Rl w b (Int.toNat a*9+1) [I d]) b (Int.toNat a*9+2) [I c]) (I f)/\Qq .i64 (f+e)/\X0 [] (Rl (Rl w b (Int.toNat a*9+1) [I d]) b (Int.toNat a*9+2) [I c]) b (Int.toNat a*9+5) 1/\(∃h,Q1 [] (Rl (Rl (Rl w b (Int.toNat a*9+1) [I d]) b (Int.toNat a*9+2) [I c]) b (Int.toNat a*9+5) [I (f+e)]) b (Int.toNat a*9+0) [I h]/\((h==1)=true->(∃l n,PX [] Z8 #[.pointer g,I c] (Rl (Rl (Rl w b (Int.toNat a*9+1) [I d]) b (Int.toNat a*9+2) [I c]) b (Int.toNat a*9+5) [I (f+e)]) (.agg #[.pointer l,I n])/\(AY [] (Rl (Rl (Rl w b (Int.toNat a*9+1) [I d]) b (Int.toNat a*9+2) [I c]) b (Int.toNat a*9+5) [I (f+e)]) fun o=>Cz Yr #[.agg #[.pointer l,I n]] o fun q m=>q=.returned (.tuple #[])/\Q9 [] o m/\(AR [] m R (.tuple #[])))))/\((h==1)=false->(AR [] (Rl (Rl (Rl w b (Int.toNat a*9+1) [I d]) b (Int.toNat a*9+2) [I c]) b (Int.toNat a*9+5) [I (f+e)]) R (.tuple #[]))))))))))
theorem Ba(a b c d):Jj (FK a b c d) VV #[.pointer a,I b,I c,I d]:=eV [] false [] Tryz.func108 Qk Qk
def Li(g:OA)(w:Wo)(R:RT):= g.isSome=true/\(∃m h C,Q1 [] w g (0+2) [S m h C]/\(∃(f:List Va->Wo->Prop) (d:List Va->Wo->Nat),(AY [] w fun z=>f [I 0] z)/\∀(a:Int) b,(∀bq∈([]:List Nat),bq<b.heap.size)->f [I a] b->((decide (a<(h:Int)))=true->Ix m h a/\(∃e j i s r k l n q,Q1 [] b m (Int.toNat a*9) [I e,I j,I i,I s,I r,I k,I l,I n,I q]/\(∀c,b.heap.size<=c->((e==0)=true->Qq .i64 (a+1)/\(AX [] [c] b fun u=>f [I (a+1)] u/\d [I (a+1)] u<d [I a] b))/\((e==0)=false->(∃o,PX [] Xn #[.pointer g,I a] b (I o)/\(∃p,PX [] V1 #[I o,I i] b (.bool p)/\((!p)=true->(CIx [] [c] My #[I o] b fun B A=>( (some (QD,([I e,I j,I i,I s,I r,I k,I l,I n,I q]:List Va))=some (QD,([I e,I j,I i,I s,I r,I k,I l,I n,I q]:List Va)))/\(AY [c] A fun x=>Cz VV #[.pointer g,I a,I j,I B] x fun D v=>D=.returned (.tuple #[])/\Q9 [c] x v/\Qq .i64 (a+1)/\(AY [c] v fun y=>f [I (a+1)] y/\d [I (a+1)] y<d [I a] b)))))/\((!p)=false->Qq .i64 (a+1)/\(AX [] [c] b fun t=>f [I (a+1)] t/\d [I (a+1)] t<d [I a] b))))))))/\((decide (a<(h:Int)))=false->(AR [] b R (.tuple #[])))))
theorem Lm(a):Jj (Li a) X7 #[.pointer a]:=eV [] false [(1,⟨[(10,Ri)],[],[0,8,9],[],[]⟩)] Tryz.func66 Qk Qk
def D4(h:OA)(i:Int)(w:Wo)(R:RT):= (∃(e:List Va->Prop) (g:List Va->Nat),e [I i,I 0]/\∀(b a:Int),e [I b,I a]->((b != 0)=true->Qq .i64 (a+1)/\h.isSome=true/\(∃c f j,Q1 [] w h (0+3) [S c f j]/\Ix c f b/\(∃d,Q1 [] w c (Int.toNat b*14+1) [I d]/\e [I d,I (a+1)]/\g [I d,I (a+1)]<g [I b,I a])))/\((b != 0)=false->R (I a) w))
theorem DH(a b):YG (D4 a b) UF #[.pointer a,I b]:=pV [] false [(2,⟨[(1,Ri),(5,Ri)],[],[0],[],[]⟩)] Tryz.func234 Qk Qk
def MN(e:OA)(o:Int)(w:Wo)(R:RT):= (∀a,w.heap.size<=a->(∃(x:List Va->Wo->Prop) (G:List Va->Wo->Nat),(AX [] [a] w fun M=>x [I 3] M)/\∀(f:Int) i,(∀bq∈[a],bq<i.heap.size)->x [I f] i->((decide (f>=1))=true->e.isSome=true/\(∃J p N,Q1 [a] i e (0+3) [S J p N]/\(∃(l:List Va->Wo->Prop) (k:List Va->Wo->Nat),(AY [a] i fun K=>l [I 0] K)/\∀(c:Int) b,(∀bq∈[a],bq<b.heap.size)->l [I c] b->((decide (c<(p:Int)))=true->e.isSome=true/\(∃r A L,Q1 [a] b e (0+3) [S r A L]/\Ix r A c/\(∃m,Q1 [a] b r (Int.toNat c*14+0) [.bool m]/\(∃u,((!m)=false->PX [a] UF #[.pointer e,I c] b (I u))/\(((!m)||(u != f))=true->Qq .i64 (c+1)/\(AY [a] b fun D=>l [I (c+1)] D/\k [I (c+1)] D<k [I c] b))/\(((!m)||(u != f))=false->(∃d,PX [a] QA #[.agg #[.pointer e,I o],I c] b (.pointer d)/\(∃g,PX [a] X3 #[.agg #[.pointer e,I o],I c] b (.bool g)/\(∃h,(g=true->PX [a] Up #[.agg #[.pointer e,I o],I c] b (.bool h))/\((g&&(!h))=true->d.isSome=true)/\(∃v,((g&&(!h))=true->Q1 [a] b d (0+1) [.bool v])/\(((g&&(!h))&&(!v))=true->e.isSome=true/\(∃t y H,Q1 [a] b e (0+3) [S t y H]/\Ix t y c/\(∃C,Q1 [a] b t (Int.toNat c*14+1) [I C]/\(∃q,PX [a] QA #[.agg #[.pointer e,I o],I C] b (.pointer q)/\q.isSome=true/\(∃j,Q1 [a] b q (0+0) [I j]/\d.isSome=true/\(∃s,Q1 [a] b d (0+2) [I s]/\Qq .i64 (s-j)/\d.isSome=true/\(∃B,Q1 [a] b d (0+3) [I B]/\(∃n,PX [a] VU #[I (s-j),I B] b (I n)/\Qq .i64 (j+n)/\d.isSome=true/\X0 [a] b d (0+2) 1/\d.isSome=true/\X0 [a] (Rl b d (0+2) [I (j+n)]) d (0+1) 1/\Qq .i64 (c+1)/\(AY [a] (Rl (Rl b d (0+2) [I (j+n)]) d (0+1) [.bool (g&&(!h))]) fun E=>l [I (c+1)] E/\k [I (c+1)] E<k [I c] b)))))))))/\(((g&&(!h))&&(!v))=false->d.isSome=true/\X0 [a] b d (0+1) 1/\Qq .i64 (c+1)/\(AY [a] (Rl b d (0+1) [.bool (g&&(!h))]) fun F=>l [I (c+1)] F/\k [I (c+1)] F<k [I c] b)))))))))))/\((decide (c<(p:Int)))=false->Qq .i64 (f-1)/\(AY [a] b fun z=>x [I (f-1)] z/\G [I (f-1)] z<G [I f] i)))))/\((decide (f>=1))=false->(AR [a] i R (.tuple #[])))))
theorem MQ(a b):Jj (MN a b) Yo #[.agg #[.pointer a,I b]]:=eV [] false [(2,⟨[(2,Ri)],[],[1],[],[]⟩),(5,⟨[(17,Ri)],[],[1,2,16],[],[]⟩)] Tryz.func164 Qk Qk
def Ny(d:OA)(w:Wo)(R:RT):= d.isSome=true/\(∃k e m,Q1 [] w d (0+4) [S k e m]/\(∃(f:List Va->Wo->Prop) (i:List Va->Wo->Nat),(AY [] w fun l=>f [I 0] l)/\∀(a:Int) b,(∀bq∈([]:List Nat),bq<b.heap.size)->f [I a] b->((decide (a<(e:Int)))=true->d.isSome=true/\(∃c g j,Q1 [] b d (0+4) [S c g j]/\Ix c g a/\X0 [] b c (Int.toNat a*1) 1/\Qq .i64 (a+1)/\(AY [] (Rl b c (Int.toNat a*1) [.bool false]) fun h=>f [I (a+1)] h/\i [I (a+1)] h<i [I a] b)))/\((decide (a<(e:Int)))=false->(AR [] b R (.tuple #[])))))
theorem Ab(a):Jj (Ny a) Uk #[.pointer a]:=eV [] false [(1,⟨[(8,Ri)],[],[0,7],[],[]⟩)] Tryz.func262 Qk Qk
def Hj(a:OA)(w:Wo)(R:RT):= a.isSome=true/\(∃e,Q1 [] w a (0+0) [I e]/\a.isSome=true/\X0 [] w a (0+1) 1/\a.isSome=true/\X0 [] (Rl w a (0+1) [I e]) a (0+2) 1/\a.isSome=true/\(∃p g n,Q1 [] (Rl (Rl w a (0+1) [I e]) a (0+2) [I 0]) a (0+3) [S p g n]/\(∃(f:List Va->Wo->Prop) (j:List Va->Wo->Nat),(AY [] (Rl (Rl w a (0+1) [I e]) a (0+2) [I 0]) fun q=>f [I 0] q)/\∀(b:Int) c,(∀bq∈([]:List Nat),bq<c.heap.size)->f [I b] c->((decide (b<(g:Int)))=true->a.isSome=true/\(∃d h m,Q1 [] c a (0+3) [S d h m]/\Ix d h b/\X0 [] c d (Int.toNat b*1) 1/\Qq .i64 (b+1)/\(AY [] (Rl c d (Int.toNat b*1) [I 0]) fun i=>f [I (b+1)] i/\j [I (b+1)] i<j [I b] c)))/\((decide (b<(g:Int)))=false->(AY [] c fun l=>Cz Uk #[.pointer a] l fun o k=>o=.returned (.tuple #[])/\Q9 [] l k/\(AR [] k R (I 0)))))))
theorem Ht(a):Jj (Hj a) U4 #[.pointer a]:=eV [] false [(3,⟨[(19,Ri)],[],[0,18],[],[]⟩)] Tryz.func237 Qk Qk
def E5(a:OA)(c:Int)(w:Wo)(R:RT):= a.isSome=true/\(∃h k m,Q1 [] w a (0+3) [S h k m]/\Ix h k c/\(∃g,Q1 [] w h (Int.toNat c*1) [I g]/\((decide (g>0))=true->(AR [] w R (I 0)))/\((decide (g>0))=false->a.isSome=true/\(∃b,Q1 [] w a (0+1) [I b]/\(((if b<20 then b else 20)==0)=true->a.isSome=true/\(∃e j n,Q1 [] w a (0+4) [S e j n]/\Ix e j c/\X0 [] w e (Int.toNat c*1) 1/\(AR [] (Rl w e (Int.toNat c*1) [.bool true]) R (I 2))))/\(((if b<20 then b else 20)==0)=false->a.isSome=true/\(∃d,Q1 [] w a (0+1) [I d]/\Qq .i64 (d-(if b<20 then b else 20))/\a.isSome=true/\X0 [] w a (0+1) 1/\a.isSome=true/\(∃f i l,Q1 [] (Rl w a (0+1) [I (d-(if b<20 then b else 20))]) a (0+3) [S f i l]/\Ix f i c/\X0 [] (Rl w a (0+1) [I (d-(if b<20 then b else 20))]) f (Int.toNat c*1) 1/\(AR [] (Rl (Rl w a (0+1) [I (d-(if b<20 then b else 20))]) f (Int.toNat c*1) [I (if b<20 then b else 20)]) R (I 0)))))))))
theorem Ew(a b):Jj (E5 a b) Vn #[.pointer a,I b]:=eV [] false [] Tryz.func238 Qk Qk
def D2(b:OA)(c a:Int)(w:Wo)(R:RT):= ((decide (a<1))=false->b.isSome=true)/\(∃i j l,((decide (a<1))=false->Q1 [] w b (0+3) [S i j l])/\((decide (a<1))=false->Ix i j c)/\(∃f,((decide (a<1))=false->Q1 [] w i (Int.toNat c*1) [I f])/\(((decide (a<1))||(decide (a>f)))=true->(AR [] w R (I 3)))/\(((decide (a<1))||(decide (a>f)))=false->b.isSome=true/\(∃d g k,Q1 [] w b (0+3) [S d g k]/\Ix d g c/\(∃e,Q1 [] w d (Int.toNat c*1) [I e]/\Qq .i64 (e-a)/\Ix d g c/\X0 [] w d (Int.toNat c*1) 1/\b.isSome=true/\(∃h,Q1 [] (Rl w d (Int.toNat c*1) [I (e-a)]) b (0+2) [I h]/\Qq .i64 (h+a)/\b.isSome=true/\X0 [] (Rl w d (Int.toNat c*1) [I (e-a)]) b (0+2) 1/\(AR [] (Rl (Rl w d (Int.toNat c*1) [I (e-a)]) b (0+2) [I (h+a)]) R (I 0))))))))
theorem Dj(a b c):Jj (D2 a b c) UE #[.pointer a,I b,I c]:=eV [] false [] Tryz.func239 Qk Qk
def Hk(a:OA)(d:Int)(w:Wo)(R:RT):= a.isSome=true/\(∃c,Q1 [] w a (0+1) [I c]/\a.isSome=true/\(∃g k m,Q1 [] w a (0+3) [S g k m]/\Ix g k d/\(∃b,Q1 [] w g (Int.toNat d*1) [I b]/\Qq .i64 (c+b)/\a.isSome=true/\X0 [] w a (0+1) 1/\a.isSome=true/\(∃e h l,Q1 [] (Rl w a (0+1) [I (c+b)]) a (0+3) [S e h l]/\Ix e h d/\X0 [] (Rl w a (0+1) [I (c+b)]) e (Int.toNat d*1) 1/\a.isSome=true/\(∃f,Q1 [] (Rl (Rl w a (0+1) [I (c+b)]) e (Int.toNat d*1) [I 0]) a (0+1) [I f]/\((decide (f>0))=true->(AY [] (Rl (Rl w a (0+1) [I (c+b)]) e (Int.toNat d*1) [I 0]) fun j=>Cz Uk #[.pointer a] j fun n i=>n=.returned (.tuple #[])/\Q9 [] j i/\(AR [] i R (I 0))))/\((decide (f>0))=false->(AR [] (Rl (Rl w a (0+1) [I (c+b)]) e (Int.toNat d*1) [I 0]) R (I 0))))))))
theorem Hu(a b):Jj (Hk a b) U5 #[.pointer a,I b]:=eV [] false [] Tryz.func240 Qk Qk
def CH(c:OA)(b d k:Int)(w:Wo)(R:RT):= (∀a,w.heap.size<=a->((b==4)=true->(CIx [] [a] U4 #[.pointer c] w fun n p=>( (AR [a] p R (I n)))))/\((b==4)=false->c.isSome=true/\(∃o f i,Q1 [] w c (0+3) [S o f i]/\Qq .i64 ((f:Int)-1)/\(∃e,PX [] Qy #[I d,I 0,I ((f:Int)-1)] w (.bool e)/\((!e)=true->(AR [] w R (I 1)))/\((!e)=false->((b==1)=true->(CIx [] [a] Vn #[.pointer c,I d] w fun l m=>( (AR [a] m R (I l)))))/\((b==1)=false->((b==2)=true->(CIx [] [a] UE #[.pointer c,I d,I k] w fun j q=>( (AR [a] q R (I j)))))/\((b==2)=false->((b==3)=true->(CIx [] [a] U5 #[.pointer c,I d] w fun g h=>( (AR [a] h R (I g)))))/\((b==3)=false->(AR [] w R (I 1))))))))))
theorem zag(a b c d):Jj (CH a b c d) OZ #[.pointer a,.agg #[I b,I c,I d]]:=eV [] false [] Tryz.func166 Qk Qk
def FO(f:OA)(n:Int)(w:Wo)(R:RT):= (∀a,w.heap.size<=a->f.isSome=true/\(∃U y a4,Q1 [] w f (0+3) [S U y a4]/\(∃(o:List Va->Wo->Prop) (k:List Va->Wo->Nat),(AX [] [a] w fun X=>o [I 0] X)/\∀(b:Int) i,(∀bq∈[a],bq<i.heap.size)->o [I b] i->((decide (b<(y:Int)))=true->f.isSome=true/\(∃z L V,Q1 [a] i f (0+3) [S z L V]/\Ix z L b/\(∃E,Q1 [a] i z (Int.toNat b*14+0) [.bool E]/\((!E)=true->Qq .i64 (b+1)/\(AY [a] i fun J=>o [I (b+1)] J/\k [I (b+1)] J<k [I b] i))/\((!E)=false->f.isSome=true/\(∃B r a7,Q1 [a] i f (0+2) [S B r a7]/\(∃(s:List Va->Wo->Prop) (u:List Va->Wo->Nat),(AY [a] i fun a0=>s [I 100000000000000001,I 0] a0)/\∀(j d:Int) h,(∀bq∈[a],bq<h.heap.size)->s [I j,I d] h->((decide (d<(r:Int)))=true->Ix B r d/\(∃a3 a2 a5 a9 a8 m Z a1 a6,Q1 [a] h B (Int.toNat d*9) [I a3,I a2,I a5,I a9,I a8,I m,I Z,I a1,I a6]/\(∀G,h.heap.size<=G->(∃v,PX [a] XZ #[.agg #[.pointer f,I n],I d,I b] h (.bool v)/\(v=true->Qq .i64 (d+1)/\(AX [a] [a,G] h fun M=>s [I (if m<j then m else j),I (d+1)] M/\u [I (if m<j then m else j),I (d+1)] M<u [I j,I d] h))/\(v=false->Qq .i64 (d+1)/\(AX [a] [a,G] h fun O=>s [I j,I (d+1)] O/\u [I j,I (d+1)] O<u [I j,I d] h))))))/\((decide (d<(r:Int)))=false->f.isSome=true/\(∃Y x Q,Q1 [a] h f (0+3) [S Y x Q]/\(∃(q:List Va->Wo->Prop) (t:List Va->Wo->Nat),(AY [a] h fun T=>q [I j,I 0] T)/\∀(g e:Int) c,(∀bq∈[a],bq<c.heap.size)->q [I g,I e] c->((decide (e<(x:Int)))=true->(∃D,PX [a] Jq #[.agg #[.pointer f,I n],I e,I b] c (.bool D)/\(D=true->(∃A,PX [a] QA #[.agg #[.pointer f,I n],I e] c (.pointer A)/\A.isSome=true/\(∃l,Q1 [a] c A (0+2) [I l]/\Qq .i64 (e+1)/\(AY [a] c fun N=>q [I (if l<g then l else g),I (e+1)] N/\t [I (if l<g then l else g),I (e+1)] N<t [I g,I e] c))))/\(D=false->Qq .i64 (e+1)/\(AY [a] c fun H=>q [I g,I (e+1)] H/\t [I g,I (e+1)] H<t [I g,I e] c))))/\((decide (e<(x:Int)))=false->((decide (g<=100000000000000000))=true->(∃p,PX [a] QA #[.agg #[.pointer f,I n],I b] c (.pointer p)/\(∃F,PX [a] QA #[.agg #[.pointer f,I n],I b] c (.pointer F)/\F.isSome=true/\(∃C,Q1 [a] c F (0+0) [I C]/\p.isSome=true/\X0 [a] c p (0+0) 1/\Qq .i64 (b+1)/\(AY [a] (Rl c p (0+0) [I (if g>C then g else C)]) fun K=>o [I (b+1)] K/\k [I (b+1)] K<k [I b] i)))))/\((decide (g<=100000000000000000))=false->Qq .i64 (b+1)/\(AY [a] c fun P=>o [I (b+1)] P/\k [I (b+1)] P<k [I b] i))))))))))))/\((decide (b<(y:Int)))=false->(AR [a] i R (.tuple #[]))))))
theorem Bb(a b):Jj (FO a b) VX #[.agg #[.pointer a,I b]]:=eV [] false [(2,⟨[(13,Ri)],[],[1,12],[],[]⟩),(7,⟨[(3,Ri),(32,Ri)],[],[1,2,12,13,30,31],[],[]⟩),(13,⟨[(3,Ri),(52,Ri)],[],[1,2,12,13,51],[],[]⟩)] Tryz.func167 Qk Qk
def Hn(d:OA)(w:Wo)(R:RT):= d.isSome=true/\(∃b3 B b4,Q1 [] w d (0+1) [S b3 B b4]/\(∃(F:List Va->Wo->Prop) (a1:List Va->Wo->Nat),(AY [] w fun b0=>F [I 0] b0)/\∀(i:Int) k,(∀bq∈([]:List Nat),bq<k.heap.size)->F [I i] k->((decide (i<(B:Int)))=true->(∃Y a3,PX [] Z8 #[.pointer d,I i] k (.agg #[.pointer Y,I a3])/\(AY [] k fun J=>Cz Yo #[.agg #[.pointer Y,I a3]] J fun c0 N=>c0=.returned (.tuple #[])/\Q9 [] J N/\Qq .i64 (i+1)/\(AY [] N fun V=>F [I (i+1)] V/\a1 [I (i+1)] V<a1 [I i] k))))/\((decide (i<(B:Int)))=false->d.isSome=true/\(∃a7 x b7,Q1 [] k d (0+3) [S a7 x b7]/\(∃(C:List Va->Wo->Prop) (a0:List Va->Wo->Nat),(AY [] k fun b6=>C [I 0] b6)/\∀(e:Int) h,(∀bq∈([]:List Nat),bq<h.heap.size)->C [I e] h->((decide (e<(x:Int)))=true->d.isSome=true/\(∃q L a9,Q1 [] h d (0+3) [S q L a9]/\Ix q L e/\(∃E u a6,Q1 [] h q (Int.toNat e*14+8+3) [S E u a6]/\(∃(r:List Va->Wo->Prop) (s:List Va->Wo->Nat),(AY [] h fun b9=>r [I 0] b9)/\∀(a:Int) f,(∀bq∈([]:List Nat),bq<f.heap.size)->r [I a] f->((decide (a<(u:Int)))=true->Ix E u a/\(∃o,Q1 [] f E (Int.toNat a*1) [I o]/\(∃O M,((decide (o>0))=true->PX [] Z8 #[.pointer d,I a] f (.agg #[.pointer O,I M]))/\(∃A,((decide (o>0))=true->PX [] X3 #[.agg #[.pointer O,I M],I e] f (.bool A))/\(((decide (o>0))&&(!A))=true->(CI [] OZ #[.pointer (q.map (·.add (Int.toNat e*14+8))),.agg #[I 3,I a,I 0]] f fun c2 a5=>( Qq .i64 (a+1)/\(AY [] a5 fun Z=>r [I (a+1)] Z/\s [I (a+1)] Z<s [I a] f))))/\(((decide (o>0))&&(!A))=false->Qq .i64 (a+1)/\(AY [] f fun G=>r [I (a+1)] G/\s [I (a+1)] G<s [I a] f))))))/\((decide (a<(u:Int)))=false->Qq .i64 (e+1)/\(AY [] f fun K=>C [I (e+1)] K/\a0 [I (e+1)] K<a0 [I e] h))))))/\((decide (e<(x:Int)))=false->d.isSome=true/\(∃b1 v b2,Q1 [] h d (0+1) [S b1 v b2]/\(∃(p:List Va->Wo->Prop) (t:List Va->Wo->Nat),(AY [] h fun c1=>p [I 0] c1)/\∀(c:Int) j,(∀bq∈([]:List Nat),bq<j.heap.size)->p [I c] j->((decide (c<(v:Int)))=true->(∃m n,PX [] Z8 #[.pointer d,I c] j (.agg #[.pointer m,I n])/\(∀b,j.heap.size<=b->(AX [] [b] j fun X=>Cz Yo #[.agg #[.pointer m,I n]] X fun b5 a2=>b5=.returned (.tuple #[])/\Q9 [b] X a2/\(AY [b] a2 fun U=>Cz VX #[.agg #[.pointer m,I n]] U fun a8 g=>a8=.returned (.tuple #[])/\Q9 [b] U g/\(∃D,PX [b] Ye #[.agg #[.pointer m,I n]] g (.pointer D)/\D.isSome=true/\(∃l,Q1 [b] g D (0+1) [I l]/\(∃z,((l != (-1))=true->PX [b] Ye #[.agg #[.pointer m,I n]] g (.pointer z))/\((l != (-1))=true->z.isSome=true)/\(∃T,((l != (-1))=true->Q1 [b] g z (0+1) [I T])/\(∃y,((l != (-1))=true->PX [b] XY #[.agg #[.pointer m,I n],I T] g (.bool y))/\(((l != (-1))&&(!y))=true->(AY [b] g fun a4=>Cz Yr #[.agg #[.pointer m,I n]] a4 fun b8 Q=>b8=.returned (.tuple #[])/\Q9 [b] a4 Q/\Qq .i64 (c+1)/\(AY [b] Q fun H=>p [I (c+1)] H/\t [I (c+1)] H<t [I c] j)))/\(((l != (-1))&&(!y))=false->Qq .i64 (c+1)/\(AY [b] g fun P=>p [I (c+1)] P/\t [I (c+1)] P<t [I c] j))))))))))))/\((decide (c<(v:Int)))=false->(AR [] j R (.tuple #[])))))))))))
theorem Hv(a):Jj (Hn a) XE #[.pointer a]:=eV [] false [(1,⟨[(14,Ri)],[],[0,13],[],[]⟩),(6,⟨[(27,Ri)],[],[0,26],[],[]⟩),(10,⟨[(42,Ri)],[],[0,3,4,26,27,40,41],[],[]⟩),(17,⟨[(68,Ri)],[],[0,67],[],[]⟩)] Tryz.func67 Qk Qk
def NA(i f:OA)(c:Int)(w:Wo)(R:RT):= (∀a,w.heap.size<=a->(∃b,PX [] Ye #[.agg #[.pointer f,I c]] w (.pointer b)/\b.isSome=true/\X0 [] w b (0+0) 1/\(AX [] [a] (Rl w b (0+0) [.bool false]) fun j=>Cz Yr #[.agg #[.pointer f,I c]] j fun m h=>m=.returned (.tuple #[])/\Q9 [a] j h/\(AY [a] h fun g=>Cz X7 #[.pointer i] g fun n d=>n=.returned (.tuple #[])/\Q9 [a] g d/\(AY [a] d fun k=>Cz XE #[.pointer i] k fun l e=>l=.returned (.tuple #[])/\Q9 [a] k e/\(AR [a] e R (.tuple #[])))))))
theorem Ad(a b c):Jj (NA a b c) Um #[.pointer a,.agg #[.pointer b,I c]]:=eV [] false [] Tryz.func63 Qk Qk
def zdk(i:Int)(g:OA)(m n:Nat)(u:OA)(s x:Nat)(v:OA)(h o:Nat)(y:Int)(w:Wo)(R:RT):= (∀a,w.heap.size<=a->(∀b,w.heap.size<=b->(CVx [] [a,b] Jo #[Wv i g m n u s x v h o,I y,.bool true,.func (.func Ul) #[] #[],.func (.func Um) #[] #[]] w fun e c d r k t p z l q f j=>( (AR [a,b] j R (.tuple #[Wv e c d r k t p z l q,I f]))))))
theorem zej(a b c d e f g h i j k):Jj (zdk a b c d e f g h i j k) PI #[Wv a b c d e f g h i j,I k]:=eV [] false [] Tryz.func13 Qk Qk
def FR(f:OA)(l r:Nat)(w:Wo)(R:RT):= (∀a,w.heap.size<=a->(AX [] [a] w fun c=>Cz V8 #[S f l r] c fun p b=>(∃d,p=.returned (.pointer d)/\Q9 [a] c b/\(CW [a] UH #[.pointer d] b fun s i j e k m g q n o h=>( (AR [a] h R (Wv s i j e k m g q n o)))))))
theorem Bd(a b c):Jj (FR a b c) T3 #[S a b c]:=eV [] false [] Tryz.func26 Qk Qk
def zdu(d:OA)(c e:Nat)(a:Int)(w:Wo)(R:RT):= ((decide (a<(c:Int)))=true->Ix d c a/\(∃b,Q1 [] w d (Int.toNat a*1) [.int .u8 b]/\Qq .i64 b/\R (I b) w))/\((decide (a<(c:Int)))=false->Qq .i64 (a*37)/\(251:Int)≠0/\R (I (Int.tmod (a*37) 251)) w)
theorem zfl(a b c d):YG (zdu a b c d) PM #[S a b c,I d]:=pV [] false [] Tryz.func27 Qk Qk
def CQ(a:OA)(w:Wo)(R:RT):= R .nilIface w
theorem zca(a):YG (CQ a) V4 #[.pointer a]:=pV [] false [] Tryz.func101 Qk Qk
def CJ(f j:OA)(h:Int)(w:Wo)(R:RT):= (∀a,w.heap.size<=a->(∃b,PX [] Ye #[.agg #[.pointer j,I h]] w (.pointer b)/\b.isSome=true/\X0 [] w b (0+0) 1/\(AX [] [a] (Rl w b (0+0) [.bool true]) fun g=>Cz X7 #[.pointer f] g fun i e=>i=.returned (.tuple #[])/\Q9 [a] g e/\(AY [a] e fun d=>Cz XE #[.pointer f] d fun k c=>k=.returned (.tuple #[])/\Q9 [a] d c/\(AR [a] c R (.tuple #[]))))))
theorem zah(a b c):Jj (CJ a b c) UZ #[.pointer a,.agg #[.pointer b,I c]]:=eV [] false [] Tryz.func102 Qk Qk
def zhm(i:Int)(g:OA)(m n:Nat)(u:OA)(s x:Nat)(v:OA)(h o:Nat)(y:Int)(w:Wo)(R:RT):= (∀a,w.heap.size<=a->(∀b,w.heap.size<=b->(CVx [] [a,b] Jo #[Wv i g m n u s x v h o,I y,.bool false,.func (.func V4) #[] #[],.func (.func UZ) #[] #[]] w fun e c d r k t p z l q f j=>( (AR [a,b] j R (.tuple #[Wv e c d r k t p z l q,I f]))))))
theorem zig(a b c d e f g h i j k):Jj (zhm a b c d e f g h i j k) MR #[Wv a b c d e f g h i j,I k]:=eV [] false [] Tryz.func28 Qk Qk
def zdt(f2:OA)(V e9:Nat)(e4:OA)(b2 f7:Nat)(w:Wo)(R:RT):= (((decide ((V:Int)>1048576))||(decide ((b2:Int)>1048576)))=true->(AR [] w R (.bool true)))/\(((decide ((V:Int)>1048576))||(decide ((b2:Int)>1048576)))=false->(CW [] T3 #[S f2 V e9] w fun D z i y j l E x C A a8=>( (∀a,a8.heap.size<=a->(∃p,PX [] PM #[S e4 b2 f7,I 0] a8 (I p)/\(i:Int)≠0/\(∃(a6:List Va->Wo->Prop) (c6:List Va->Wo->Nat),(AX [] [a] a8 fun g5=>a6 [I 0] g5)/\∀(h:Int) t,(∀bq∈[a],bq<t.heap.size)->a6 [I h] t->((decide (h<2))=true->(CV [a] PI #[Wv D z i y j l E x C A,I (Int.tmod p (i:Int))] t fun f4 e6 d5 f1 e8 e1 d8 d6 f9 e7 d3 b4=>( (∀b,b4.heap.size<=b->(CVx [a] [a,b] T1 #[Wv D z i y j l E x C A,I (Int.tmod p (i:Int))] b4 fun j0 g8 h1 g7 j5 h4 j4 h9 g6 h8 f0 J=>( (∀c,J.heap.size<=c->(∃(a0:List Va->List Nat->Wo->Prop),(((h==1)=true->(CVx [a,b] [a,b,c] MR #[Wv D z i y j l E x C A,I (Int.tmod p (i:Int))] J fun e2 f6 f5 e0 d0 d2 f8 d9 d4 g0 g3 g4=>( (CV [a,b,c] Of #[Wv D z i y j l E x C A,I (Int.tmod p (i:Int))] g4 fun j3 j1 j2 h0 g9 h5 h2 h7 h3 h6 f3 c9=>( (AY [a,b,c] c9 fun g1=>a0 [I g3,I f3,I e2,S f6 f5 e0,S d0 d2 f8,S d9 d4 g0] [] g1))))))/\((h==1)=false->(AX [a,b] [a,b,c] J fun g2=>a0 [I d3,I f0,I f4,S e6 d5 f1,S e8 e1 d8,S d6 f9 e7] [] g2)))/\(∀(n F c0:Int) (o:OA) (r c8:Nat) (s:OA) (v c2:Nat) (c1:OA) (b6 b7:Nat) (u:Wo),(∀bq∈[a,b,c],bq<u.heap.size)->a0 [I n,I F,I c0,S o r c8,S s v c2,S c1 b6 b7] [] u->(∃a2,((n != F)=false->PX [a,b,c] V2 #[Wv c0 o r c8 s v c2 c1 b6 b7] u (.bool a2))/\(((n != F)||(!a2))=true->(AR [a,b,c] u R (.bool false)))/\(((n != F)||(!a2))=false->(∃(B:List Va->Wo->Prop) (G:List Va->Wo->Nat),(AY [a,b,c] u fun e5=>B [I 0,I 0] e5)/\∀(g f:Int) k,(∀bq∈[a,b,c],bq<k.heap.size)->B [I g,I f] k->((decide (f<(r:Int)))=true->Ix o r f/\(∃P,Q1 [a,b,c] k o (Int.toNat f*5+0) [.bool P]/\(P=true->Qq .i64 (g+1)/\Qq .i64 (f+1)/\(AY [a,b,c] k fun b9=>B [I (g+1),I (f+1)] b9/\G [I (g+1),I (f+1)] b9<G [I g,I f] k))/\(P=false->Qq .i64 (f+1)/\(AY [a,b,c] k fun b5=>B [I g,I (f+1)] b5/\G [I g,I (f+1)] b5<G [I g,I f] k))))/\((decide (f<(r:Int)))=false->((n==0)=true->((g==0)=false->Ix o r (Int.tmod p (i:Int))))/\(∃N,((n==0)=true->((g==0)=false->Q1 [a,b,c] k o (Int.toNat (Int.tmod p (i:Int))*5+0) [.bool N]))/\(((g==0)||((n==0)&&(!(N==(h==1)))))=true->(AR [a,b,c] k R (.bool false)))/\(((g==0)||((n==0)&&(!(N==(h==1)))))=false->(∃(Q:List Va->Wo->Prop) (c5:List Va->Wo->Nat),(AY [a,b,c] k fun d1=>Q [I 0] d1)/\∀(d:Int) e,(∀bq∈[a,b,c],bq<e.heap.size)->Q [I d] e->((decide (d<(l:Int)))=true->Ix s v d/\(∃m a5 d7 Z X e3 a9 b0 L,Q1 [a,b,c] e s (Int.toNat d*9) [I m,I a5,I d7,I Z,I X,I e3,I a9,I b0,I L]/\(∀c4,e.heap.size<=c4->Ix j l d/\(∃Y,Q1 [a,b,c] e j (Int.toNat d*9+2) [I Y]/\Ix j l d/\(∃H,Q1 [a,b,c] e j (Int.toNat d*9+5) [I H]/\Ix j l d/\(∃M U a4 b1 O a3 K b3 a1,Q1 [a,b,c] e j (Int.toNat d*9) [I M,I U,I a4,I b1,I O,I a3,I K,I b3,I a1]/\(∃q,
 (∀c7,((do eqGuard .neq QD (.tmp 128) (.tmp 133) (.agg #[I m,I a5,I Y,I Z,I X,I H,I a9,I b0,I L]) (.agg #[I M,I U,I a4,I b1,I O,I a3,I K,I b3,I a1]); binOp .neq QD (.agg #[I m,I a5,I Y,I Z,I X,I H,I a9,I b0,I L]) (.agg #[I M,I U,I a4,I b1,I O,I a3,I K,I b3,I a1])):Sem Va).run Tryz.prog c7=.ok (.bool q) c7)/\((m != 0)=true->(q=false->Ix s v d))/\(∃T,((m != 0)=true->(q=false->Q1 [a,b,c] e s (Int.toNat d*9+2) [I T]))/\((m != 0)=true->(q=false->Ix o r T))/\(∃a7,((m != 0)=true->(q=false->Q1 [a,b,c] e o (Int.toNat T*5+0) [.bool a7]))/\((q||((m != 0)&&(!a7)))=true->(AR [a,b,c] e R (.bool false)))/\((q||((m != 0)&&(!a7)))=false->Qq .i64 (d+1)/\(AX [a,b,c] [a,b,c,c4] e fun c3=>Q [I (d+1)] c3/\c5 [I (d+1)] c3<c5 [I d] e)))))))))))/\((decide (d<(l:Int)))=false->Qq .i64 (h+1)/\(AY [a,b,c] e fun b8=>a6 [I (h+1)] b8/\c6 [I (h+1)] b8<c6 [I h] t))))))))))))))))))/\((decide (h<2))=false->(AR [a] t R (.bool true)))))))))
theorem zem(a b c d e f):Jj (zdt a b c d e f) G4 #[S a b c,S d e f]:=eV [] false [(6,⟨[(7,Ri)],[],[5,6],[],[]⟩),(1000013,⟨[(9,Ri),(11,Ri)],[(1,[Ri,Rs,Rs,Rs])],[5,6,7,8],[],[]⟩),(17,⟨[(12,Ri),(13,Ri)],[],[5,6,7,8,9],[],[]⟩),(24,⟨[(14,Ri)],[],[5,6,7,8],[],[]⟩)] Tryz.func6 Qk Qk
def Lg(c:OA)(f:Int)(w:Wo)(R:RT):= c.isSome=true/\(∃e a d,Q1 [] w c (0+1) [S e a d]/\Qq .i64 ((a:Int)-1)/\(∃b,PX [] Qy #[I f,I 0,I ((a:Int)-1)] w (.bool b)/\R (.bool b) w))
theorem Lv(a b):YG (Lg a b) Jn #[.pointer a,I b]:=pV [] false [] Tryz.func78 Qk Qk
def zhn(e:OA)(c g:Nat)(w:Wo)(R:RT):= (∃(d:List Va->Prop) (f:List Va->Nat),d [I 0]/\∀(a:Int),d [I a]->((decide (a<(c:Int)))=true->Ix e c a/\(∃b,Q1 [] w e (Int.toNat a*1) [I b]/\((decide (b>50000000000000000))=true->R (.bool false) w)/\((decide (b>50000000000000000))=false->Qq .i64 (a+1)/\d [I (a+1)]/\f [I (a+1)]<f [I a])))/\((decide (a<(c:Int)))=false->R (.bool true) w))
theorem zjc(a b c):YG (zhn a b c) ZJ #[S a b c]:=pV [] false [(2,⟨[(7,Ri)],[],[5,6],[],[]⟩)] Tryz.func196 Qk Qk
def E8(k:OA)(w:Wo)(R:RT):= k.isSome=true/\(∃a7,Q1 [] w k (0+0) [I a7]/\(∀M,w.heap.size<=M->(∃Y,(∀C,Q0 [] w C->C.heap[M]? = some (Obj.cells ([I a7]:List Va).toArray Qb (0,0))->PX [] ZJ #[S (some (Addr.mk M 0 none)) 1 1] C (.bool Y))/\k.isSome=true/\(∃D u b6,Q1 [] w k (0+1) [S D u b6]/\(∃(z:List Va->Prop) (y:List Va->Nat),z [.bool Y,I 0]/\∀(h:Bool) (a:Int),z [.bool h,I a]->((decide (a<(u:Int)))=true->Ix D u a/\(∃d9 e2 b9 a3 a1,Q1 [] w D (Int.toNat a*5) [.bool d9,I e2,I b9,I a3,I a1]/\(∀c1,w.heap.size<=c1->(h=true->(∀T,w.heap.size<=T->(∃F,(h=true->(∀L,Q0 [] w L->L.heap[T]? = some (Obj.cells ([I a3,I a1]:List Va).toArray Qb (0,0))->PX [] ZJ #[S (some (Addr.mk T 0 none)) 2 2] L (.bool F)))/\Qq .i64 (a+1)/\z [.bool (h&&F),I (a+1)]/\y [.bool (h&&F),I (a+1)]<y [.bool h,I a])))/\((h=true->False)->Qq .i64 (a+1)/\z [.bool false,I (a+1)]/\y [.bool false,I (a+1)]<y [.bool h,I a]))))/\((decide (a<(u:Int)))=false->k.isSome=true/\(∃E t e1,Q1 [] w k (0+2) [S E t e1]/\(∃(v:List Va->Prop) (A:List Va->Nat),v [.bool h,I 0]/\∀(i:Bool) (d:Int),v [.bool i,I d]->((decide (d<(t:Int)))=true->Ix E t d/\(∃c2 d0 e0 e8 c6 a6 a9 b0 c0,Q1 [] w E (Int.toNat d*9) [I c2,I d0,I e0,I e8,I c6,I a6,I a9,I b0,I c0]/\(∀e7,w.heap.size<=e7->(i=true->(∀O,w.heap.size<=O->(∃V,(i=true->(∀G,Q0 [] w G->G.heap[O]? = some (Obj.cells ([I a6,I a9,I b0]:List Va).toArray Qb (0,0))->PX [] ZJ #[S (some (Addr.mk O 0 none)) 3 3] G (.bool V)))/\Qq .i64 (d+1)/\v [.bool (i&&V),I (d+1)]/\A [.bool (i&&V),I (d+1)]<A [.bool i,I d])))/\((i=true->False)->Qq .i64 (d+1)/\v [.bool false,I (d+1)]/\A [.bool false,I (d+1)]<A [.bool i,I d]))))/\((decide (d<(t:Int)))=false->k.isSome=true/\(∃K o e9,Q1 [] w k (0+3) [S K o e9]/\(∃(r:List Va->Prop) (x:List Va->Nat),r [.bool i,I 0]/\∀(j:Bool) (c:Int),r [.bool j,I c]->((decide (c<(o:Int)))=true->Ix K o c/\(∃(d6:Bool) (e4:Int) (e6:ByteArray) (d8 d1 c8 b4 b2 d5 c9 d7:Int) (c5:OA) (b8 b5:Nat) (e5:OA) (c3 c7:Nat) (m:OA) (l d3:Nat),Q1 [] w K (Int.toNat c*14) [.bool d6,I e4,.string e6,I d8,I d1,I c8,I b4,I b2,I d5,I c9,I d7,S c5 b8 b5,S e5 c3 c7,S m l d3]/\(∀d2,w.heap.size<=d2->(j=true->(∀P,w.heap.size<=P->(∃a5,(j=true->(∀N,Q0 [] w N->N.heap[P]? = some (Obj.cells ([I b2]:List Va).toArray Qb (0,0))->PX [] ZJ #[S (some (Addr.mk P 0 none)) 1 1] N (.bool a5)))/\(∃(n:List Va->Prop) (q:List Va->Nat),n [.bool (j&&a5),I 0]/\∀(g:Bool) (e:Int),n [.bool g,I e]->((decide (e<(l:Int)))=true->Ix m l e/\(∃a0 c4 Z f0 a8,Q1 [] w m (Int.toNat e*5) [I a0,.bool c4,I Z,I f0,I a8]/\(∀d4,w.heap.size<=d4->(g=true->(∀B,w.heap.size<=B->(∃Q,(g=true->(∀X,Q0 [] w X->X.heap[B]? = some (Obj.cells ([I a0,I Z,I a8]:List Va).toArray Qb (0,0))->PX [] ZJ #[S (some (Addr.mk B 0 none)) 3 3] X (.bool Q)))/\Qq .i64 (e+1)/\n [.bool (g&&Q),I (e+1)]/\q [.bool (g&&Q),I (e+1)]<q [.bool g,I e])))/\((g=true->False)->Qq .i64 (e+1)/\n [.bool false,I (e+1)]/\q [.bool false,I (e+1)]<q [.bool g,I e]))))/\((decide (e<(l:Int)))=false->Qq .i64 (c+1)/\r [.bool g,I (c+1)]/\x [.bool g,I (c+1)]<x [.bool j,I c])))))/\((j=true->False)->
 (∃(s:List Va->Prop) (p:List Va->Nat),s [.bool false,I 0]/\∀(f:Bool) (b:Int),s [.bool f,I b]->((decide (b<(l:Int)))=true->Ix m l b/\(∃b1 b3 a4 e3 a2,Q1 [] w m (Int.toNat b*5) [I b1,.bool b3,I a4,I e3,I a2]/\(∀b7,w.heap.size<=b7->(f=true->(∀H,w.heap.size<=H->(∃U,(f=true->(∀J,Q0 [] w J->J.heap[H]? = some (Obj.cells ([I b1,I a4,I a2]:List Va).toArray Qb (0,0))->PX [] ZJ #[S (some (Addr.mk H 0 none)) 3 3] J (.bool U)))/\Qq .i64 (b+1)/\s [.bool (f&&U),I (b+1)]/\p [.bool (f&&U),I (b+1)]<p [.bool f,I b])))/\((f=true->False)->Qq .i64 (b+1)/\s [.bool false,I (b+1)]/\p [.bool false,I (b+1)]<p [.bool f,I b]))))/\((decide (b<(l:Int)))=false->Qq .i64 (c+1)/\r [.bool f,I (c+1)]/\x [.bool f,I (c+1)]<x [.bool j,I c]))))))/\((decide (c<(o:Int)))=false->R (.bool j) w))))))))))))
theorem Fc(a):YG (E8 a) Vp #[.pointer a]:=pV [] false [(3,⟨[(3,.bool),(23,Ri)],[],[0,21,22],[],[]⟩),(8,⟨[(3,.bool),(42,Ri)],[],[0,40,41],[],[]⟩),(13,⟨[(3,.bool),(63,Ri)],[],[61,62],[],[]⟩),(17,⟨[(3,.bool),(77,Ri)],[],[61,62,63,75,76],[],[]⟩)] Tryz.func96 Qk Qk
def Hp(b e B D C:OA)(w:Wo)(R:RT):= (∃s,Q1 [] w e 0 [I s]/\(∃d,PX [] Jn #[.pointer b,I s] w (.bool d)/\((!d)=true->(AR [] w R (.iface QY (.agg #[I 1]))))/\((!d)=false->b.isSome=true/\(∃h y E,Q1 [] w b (0+1) [S h y E]/\(∃k,Q1 [] w e 0 [I k]/\Ix h y k/\(∃g,Q1 [] w h (Int.toNat k*5+0) [.bool g]/\(∃j,Q1 [] w B 0 [.bool j]/\((!(g==j))=true->(AR [] w R (.iface QY (.agg #[I 6]))))/\((!(g==j))=false->(∃(o:Fn) (r:Array Va) (n:Array Va),Q1 [] w D 0 [.func o r n]/\(AY [] w fun u=>Ov Tryz.prog (.func o r n) [.pointer b] u fun F a=>(∃(c:Va),F=.returned c/\Q9 [] u a/\(∃f,(∀p,((do eqGuard .neq zl7 (.tmp 29) (.const .nilIface) c .nilIface; binOp .neq zl7 c .nilIface):Sem Va).run Tryz.prog p=.ok (.bool f) p)/\(f=true->(AR [] a R c))/\(f=false->(∃i,PX [] Vp #[.pointer b] a (.bool i)/\((!i)=true->(AR [] a R (.iface QY (.agg #[I 10]))))/\((!i)=false->(∃(l:Fn) (z:Array Va) (v:Array Va),Q1 [] a C 0 [.func l z v]/\(∃t,Q1 [] a e 0 [I t]/\(∃x A,PX [] Z8 #[.pointer b,I t] a (.agg #[.pointer x,I A])/\(AY [] a fun m=>Ov Tryz.prog (.func l z v) [.pointer b,.agg #[.pointer x,I A]] m fun G q=>G=.returned (.tuple #[])/\Q9 [] m q/\(AR [] q R .nilIface))))))))))))))))))))
theorem Hw(a b c d e):Jj (Hp a b c d e) XF #[.pointer a,.pointer b,.pointer c,.pointer d,.pointer e]:=eV [] false [] Tryz.func163 Qk Qk
def K6(l:Fn)(o:Array Va)(n:Array Va)(p:OA)(w:Wo)(R:RT):= (∃(e:List Va->Wo->Prop) (d:List Va->Wo->Nat),(AY [] w fun q=>e [I 0] q)/\∀(a:Int) b,(∀bq∈([]:List Nat),bq<b.heap.size)->e [I a] b->((decide (a<4))=true->(∃k,Q1 [] b p 0 [I k]/\(∃c,PX [] Jp #[I k,I a] b (.bool c)/\(c=true->(AY [] b fun i=>Ov Tryz.prog (.func l o n) [I a] i fun m g=>(∃f,m=.returned (.bool f)/\Q9 [] i g/\((c&&(!f))=true->(AR [] g R (.tuple #[])))/\((c&&(!f))=false->Qq .i64 (a+1)/\(AY [] g fun j=>e [I (a+1)] j/\d [I (a+1)] j<d [I a] b)))))/\((c=true->False)->(false=true->(AR [] b R (.tuple #[])))/\(false=false->Qq .i64 (a+1)/\(AY [] b fun h=>e [I (a+1)] h/\d [I (a+1)] h<d [I a] b))))))/\((decide (a<4))=false->(AR [] b R (.tuple #[]))))
theorem Ka(a b c d):Jj (K6 a b c d) QH #[.func a b c,.pointer d]:=eV [] false [(1,⟨[(4,Ri)],[],[0,1],[],[]⟩)] Tryz.func233 Qk Qk
theorem Pt:zom Tryz.prog PG 5 YF 40 (⟨0,false,0,0,0⟩:LI):=Dp Qk fun _=>rfl
theorem Pb:Tryz.prog.underlying Z5=some (.slice YF):=Qk
def Zv(b:UM)(m:MG):List Va:=[I b.IW,I b.Rv,I b.Sl,.slice m.lO b.locals.length m.lC,.slice m.dO b.Rw.length m.dC]
theorem Uw{a b:ByteArray}:Zy a b=true↔a=b:=by
 unfold Zy;rw[Is];constructor
 ·intro h
  have h1:∀x:ByteArray,x.toList=x.data.toList:=fun x=>by
   have key:∀(n i:Nat) (r:List UInt8),n=x.size-i->ByteArray.toList.loop x i r=r.reverse++x.data.toList.drop i:=by
    intro n
    induction n with
    | zero=>
     intro i r hn;unfold ByteArray.toList.loop;rw[B' Qo,List.drop_eq_nil_iff.2 (by simp only[Array.length_toList]; show x.size<=i; omega),List.append_nil]
    | succ n ih=>
     intro i r hn;unfold ByteArray.toList.loop;have hi:i<x.data.toList.length:=by simp only[Array.length_toList]; show i<x.size; omega
     rw[C' Qo,ih (i+1) _ Qo,List.reverse_cons,List.append_assoc,List.singleton_append,List.drop_eq_getElem_cons hi]
     have:x.get! i=x.data.toList[i]:=by
      have hi':i<x.data.size:=by simpa using hi
      simp[ByteArray.get!,getElem!_pos x.data i hi']
     rw[this]
   have:=key _ 0 [] rfl
   simpa[ByteArray.toList] using this
  rw[h1,h1] at h
  cases a; cases b
  simp only at h
  congr 1
  exact Array.ext' h
 ·rintro rfl; rfl
theorem Fu(a b:ByteArray):Zy a b=decide (a=b):=by
 cases h:Zy a b with
 | true=>rw[Ih (Uw.1 h)]
 | false=>rw[decide_eq_false fun e=>by rw[Uw.2 e] at h; cases h]
def TL(p:ZO×MG):List Va:=Yq p.1 p.2
def OU:ZO×MG:=(⟨false,0,ByteArray.empty,0,0,0,0,0,⟨0,0,0,[],[]⟩,[]⟩,⟨none,0,none,0,none,0⟩)
theorem Yk:zom Tryz.prog TL 14 QS 168 OU:=Dp Qk fun _=>rfl
theorem Pa:Tryz.prog.underlying Qz=some (.slice QS):=Qk
def Qr(m:MG):List Nat:=QI m.lO++QI m.dO++QI m.sO
structure Pj (base:Nat) (w:Wo) (p:ZO×MG):Prop where
 loc:Uz JI 1 Qb base w p.2.lO p.2.lC p.1.IQ.locals
 Rw:Uz Mm 1 Y4 base w p.2.dO p.2.dC p.1.IQ.Rw
 shl:Uz PG 5 YF base w p.2.sO p.2.sC p.1.IE
theorem Pj.ext{base:Nat}{w w':Wo}{p:ZO×MG}{bs:List Nat}(h:Pj base w p)(hx:Q0 bs w w')(hd:∀b∈Qr p.2,b∉bs):Pj base w' p:=
 ⟨h.loc.ext hx fun b hb=>hd b (by simp[Qr,hb]),h.Rw.ext hx fun b hb=>hd b (by simp[Qr,hb]),h.shl.ext hx fun b hb=>hd b (by simp[Qr,hb])⟩
theorem Pj.Wi{base:Nat}{w w':Wo}{p:ZO×MG}(h:Pj base w p)(hx:Q0 [] w w'):Pj base w' p:=h.ext hx Qs
theorem Pj.mono{base WW:Nat}{w:Wo}{p:ZO×MG}(h:Pj base w p)(hb:WW<=base):Pj WW w p:=⟨h.loc.mono hb,h.Rw.mono hb,h.shl.mono hb⟩
theorem Pj.lt{base:Nat}{w:Wo}{p:ZO×MG}(h:Pj base w p):∀b∈Qr p.2,base<=b/\b<w.heap.size:=by
 intro b hb;simp only[Qr,Im] at hb;rcases hb with (hb | hb) | hb
 ·exact h.loc.lt b hb
 ·exact h.Rw.lt b hb
 ·exact h.shl.lt b hb
structure KC (base:Nat) (w:Wo) (o:OA) (cap:Nat) (ps:List (ZO×MG)):Prop where
 row:Uz TL 14 QS base w o cap ps
 each:∀i:Int,0<=i->i<(ps.length:Int)->Pj base w (gi ps i)
 dj:∀i j:Int,0<=i->i<(ps.length:Int)->0<=j->j<(ps.length:Int)->i≠j->∀b∈Qr (gi ps i).2,b∉Qr (gi ps j).2
theorem KC.mono{base WW:Nat}{w:Wo}{o:OA}{cap:Nat}{ps:List (ZO×MG)}(h:KC base w o cap ps)(hb:WW<=base):KC WW w o cap ps:=
 ⟨h.row.mono hb,fun i a b=>(h.each i a b).mono hb,h.dj⟩
theorem Jh{base:Nat}{w:Wo}{o:OA}{cap:Nat}{ps:List (ZO×MG)}(h:Uz TL 14 QS base w o cap ps){WW:Nat}{p:ZO×MG}(hp:Pj WW w p):∀b∈Qr p.2,b∉QI o:=by
 intro b hb hx;simp only[Qr,Im] at hb;rcases hb with (hb | hb) | hb
 ·exact hp.loc.SR h Qd b hb hx
 ·exact hp.Rw.SR h Qd b hb hx
 ·exact hp.shl.SR h Qd b hb hx
theorem KC.put{base:Nat}{w:Wo}{o:OA}{cap:Nat}{ps:List (ZO×MG)}(h:KC base w o cap ps){i:Int}(h0:0<=i)(hi:i<(ps.length:Int)){p:ZO×MG}(hp:Pj base w p)(hd:∀j:Int,0<=j->j<(ps.length:Int)->i≠j->∀b∈Qr (gi ps j).2,b∉Qr p.2):KC base (Rl w o (Int.toNat i*14) (TL p)) o cap (ps.set i.toNat p):=by
 have hx:=h.row.qC (Int.toNat i*14) (TL p);have hlen:(ps.set i.toNat p).length=ps.length:=E';refine⟨?_,fun j hj hjl=>?_,fun j k hj hjl hk qZ eH b hb fD=>?_⟩
 ·have:=h.row.Rl Yk.len h0 hi (j:=0) (vs:=TL p) (x:=p) (by rw[List.take_zero,List.nil_append,List.drop_eq_nil_iff.2 (by rw[Nat.zero_add,Yk.len,Yk.len]; exact I7 _),List.append_nil]) (by rw[Nat.zero_add,Yk.len]; exact I7 _);exact this
 ·rw[hlen] at hjl;rw[QE _ _ h0 hi hj];split
  ·exact hp.ext hx (Jh h.row hp)
  ·exact(h.each j hj hjl).ext hx (Jh h.row (h.each j hj hjl))
 ·rw[hlen] at hjl qZ;rw[QE _ _ h0 hi hj] at hb;rw[QE _ _ h0 hi hk] at fD
  by_cases e1:i=j
  ·rw[C' e1] at hb
   by_cases e2:i=k
   ·omega
   ·rw[B' e2] at fD;exact hd k hk qZ e2 b fD hb
  ·rw[B' e1] at hb
   by_cases e2:i=k
   ·rw[C' e2] at fD;exact hd j hj hjl e1 b hb fD
   ·rw[B' e2] at fD;exact h.dj j k hj hjl hk qZ eH b hb fD
theorem JS{z:Int}(h1 : -9223372036854775808<=z)(h2:z<=9223372036854775807):Qq .i64 z:=⟨h1,h2⟩
def zhd(w:Int):Int:=Int.tdiv 232792560 w
def YK(n a b:Int):Bool:=decide (n>=a)&&decide (n<=b)
theorem Qu{n a b:Int}:YK n a b=true↔a<=n/\n<=b:=by simp[YK]
theorem zyu{n a b:Int}:YK n a b=false↔¬(a<=n/\n<=b):=by rw[<-Qu]; simp
def Za(n w:Int):Int:=if YK n 0 100000000&&YK w 1 20 then n*zhd w else 0
def ZD(w:Int):Int:=Za 149 w
theorem zyd:∀k:Fin 20,zhd ((k.val:Int)+1)*((k.val:Int)+1)=232792560:=Qd
theorem zye{w:Int}(h1:1<=w)(h2:w<=20):zhd w*w=232792560:=by
 have:=zyd ⟨(w-1).toNat,Qo⟩;have e:(((w-1).toNat:Nat):Int)+1=w:=Qo;simp only[e] at this;exact this
theorem zc7{w:Int}(h1:1<=w)(h2:w<=20):11639628<=zhd w/\zhd w<=232792560:=by
 have h:=zye h1 h2
 have hp:0<=zhd w:=by
  rcases Int.lt_or_le (zhd w) 0 with hn | hn
  ·have:=Int.mul_neg_of_neg_of_pos hn (show 0<w by omega);omega
  ·exact hn
 constructor
 ·have:=Int.mul_le_mul_of_nonneg_left h2 hp;omega
 ·have:=Int.mul_le_mul_of_nonneg_left h1 hp;omega
theorem OT{n w:Int}(h1:0<=n)(h2:n<=100000000)(h3:1<=w)(h4:w<=20):Za n w=n*zhd w:=by
 unfold Za;rw[C'];rw[A',Qu,Qu]; exact⟨⟨h1,h2⟩,h3,h4⟩
theorem Hh{n w:Int}(h:¬(0<=n/\n<=100000000/\1<=w/\w<=20)):Za n w=0:=by
 unfold Za;rw[B'];rw[A',Qu,Qu]; omega
theorem zi9{n w:Int}(h1:0<=n)(h2:n<=100000000)(h3:1<=w)(h4:w<=20):0<=n*zhd w/\n*zhd w<=23279256000000000:=by
 have hs:=zc7 h3 h4;refine⟨Int.mul_nonneg h1 Qo,?_⟩
 calc n*zhd w<=100000000*zhd w:=Int.mul_le_mul_of_nonneg_right h2 Qo
  _<=100000000*232792560:=Int.mul_le_mul_of_nonneg_left hs.2 Qd
  _=23279256000000000:=rfl
theorem GT(n w:Int):0<=Za n w/\Za n w<=23279256000000000:=by
 by_cases h:0<=n/\n<=100000000/\1<=w/\w<=20
 ·rw[OT h.1 h.2.1 h.2.2.1 h.2.2.2]; exact zi9 h.1 h.2.1 h.2.2.1 h.2.2.2
 ·rw[Hh h]; omega
theorem QK{n a b:Int}{w:Wo}{bs:List Nat}:PX bs Qy #[I n,I a,I b] w (.bool (YK n a b)):=
 zb9 n a b fun wr hx=>by unfold LP; rfl
theorem Qp{n a b:Int}{w:Wo}{bs:List Nat}:PX bs Qh #[I n,I a,I b] w (.bool (YK n a b)):=
 zlg n a b fun wr hx=>by unfold Na; rfl
theorem P6{n:Int}{w:Wo}{bs:List Nat}:PX bs J3 #[I n] w (.bool (YK n 1 20)):=
 AT n fun wr hx=>⟨_,QK,rfl⟩
theorem Jz{n:Int}{w:Wo}{bs:List Nat}:PX bs Yw #[I n] w (.bool (YK n 1 20)):=
 C2 n fun wr hx=>⟨_,Qp,rfl⟩
theorem HO{n:Int}{w:Wo}{bs:List Nat}:PX bs VY #[I n] w (.bool (YK n (-10) 9)):=
 zfi n fun wr hx=>⟨_,QK,rfl⟩
def VO(k j:Nat):Int:=if j<=k then zhd (j:Int) else 0
def z2k(k:Nat):List Va:=[I ((k:Int)+1),I 0,I (VO k 1),I (VO k 2),I (VO k 3),I (VO k 4),I (VO k 5),I (VO k 6),I (VO k 7),
 I (VO k 8),I (VO k 9),I (VO k 10),I (VO k 11),I (VO k 12),I (VO k 13),I (VO k 14),I (VO k 15),I (VO k 16),I (VO k 17),I (VO k 18),I (VO k 19),I (VO k 20)]
theorem Dy{w:Wo}{bs:List Nat}:PX bs UG #[] w (.agg #[I 0,I (VO 20 1),I (VO 20 2),I (VO 20 3),I (VO 20 4),I (VO 20 5),I (VO 20 6),I (VO 20 7),
 I (VO 20 8),I (VO 20 9),I (VO 20 10),I (VO 20 11),I (VO 20 12),I (VO 20 13),I (VO 20 14),I (VO 20 15),I (VO 20 16),I (VO 20 17),I (VO 20 18),I (VO 20 19),I (VO 20 20)]):=
 DN fun wr hx=>by
  intro _ _ _ _
  refine⟨fun vs=>∃k:Nat,k<=20/\vs=z2k k,fun vs=>match vs with
   | .int _ i::_=>(21-i).toNat
   | _=>0,⟨0,Qo,rfl⟩,?_⟩
  rintro i l l1 l2 l3 l4 l5 l6 l7 l8 l9 l10 l11 l12 l13 l14 l15 l16 l17 l18 l19 l20 ⟨k,hk,he⟩;simp only[z2k,I4,I5,true_and,and_true] at he;obtain⟨rfl,rfl,rfl,rfl,rfl,rfl,rfl,rfl,rfl,rfl,rfl,rfl,rfl,rfl,rfl,rfl,rfl,rfl,rfl,rfl,rfl,rfl⟩:=he;constructor
  ·intro h;have h:=Ot h;refine⟨⟨Qo,?_⟩,⟨Qo,Qo⟩,Qo,?_⟩
   ·have:=zc7 (w:=(k:Int)+1) Qo Qo;exact JS (by unfold zhd at this; omega) (by unfold zhd at this; omega)
   ·refine⟨_,_,_,_,_,_,_,_,_,_,_,_,_,_,_,_,_,_,_,_,_,?_,JS Qo Qo,⟨k+1,Qo,rfl⟩,?_⟩
    ·have:k=0\/k=1\/k=2\/k=3\/k=4\/k=5\/k=6\/k=7\/k=8\/k=9\/k=10\/k=11\/k=12\/k=13\/k=14\/k=15\/k=16\/k=17\/k=18\/k=19:=Qo;rcases this with rfl | rfl | rfl | rfl | rfl | rfl | rfl | rfl | rfl | rfl | rfl | rfl | rfl | rfl | rfl | rfl | rfl | rfl | rfl | rfl <;> rfl
    ·show (21-(((k:Int)+1)+1)).toNat<(21-((k:Int)+1)).toNat;omega
  ·intro h;have h:=Ou h;have hk:k=20:=Qo;subst hk;rfl
theorem z0n{k:Int}(h1:1<=k)(h2:k<=20):(#[I 0,I (VO 20 1),I (VO 20 2),I (VO 20 3),I (VO 20 4),I (VO 20 5),I (VO 20 6),I (VO 20 7),
 I (VO 20 8),I (VO 20 9),I (VO 20 10),I (VO 20 11),I (VO 20 12),I (VO 20 13),I (VO 20 14),I (VO 20 15),I (VO 20 16),I (VO 20 17),I (VO 20 18),I (VO 20 19),I (VO 20 20)]:Array Va)[Int.toNat k]? = some (I (zhd k)):=by
 have:k=1\/k=2\/k=3\/k=4\/k=5\/k=6\/k=7\/k=8\/k=9\/k=10\/k=11\/k=12\/k=13\/k=14\/k=15\/k=16\/k=17\/k=18\/k=19\/k=20:=Qo;rcases this with rfl | rfl | rfl | rfl | rfl | rfl | rfl | rfl | rfl | rfl | rfl | rfl | rfl | rfl | rfl | rfl | rfl | rfl | rfl | rfl <;> rfl
theorem Vy{n k:Int}{w:Wo}{bs:List Nat}:PX bs X1 #[I n,I k] w (I (Za n k)):=
 DG n k fun wr hx=>by
  refine⟨_,QK,_,fun _=>P6,fun h=>?_,fun h=>?_⟩
  ·congr 1; unfold Za; rw[B']; intro h2; simp only[A'] at h2; simp[h2] at h
  ·have h2:YK n 0 100000000=true/\YK k 1 20=true:=by simpa using h
   rw[Qu,Qu] at h2;have hm:=zi9 h2.1.1 h2.1.2 h2.2.1 h2.2.2;refine⟨_,_,_,_,_,_,_,_,_,_,_,_,_,_,_,_,_,_,_,_,_,Dy,zhd k,⟨Qo,Qo,z0n h2.2.1 h2.2.2⟩,JS Qo Qo,?_⟩;rw[OT h2.1.1 h2.1.2 h2.2.1 h2.2.2]
theorem Ge{k:Int}{w:Wo}{bs:List Nat}:PX bs V0 #[I k] w (I (ZD k)):=
 zb6 k fun wr hx=>⟨_,Vy,rfl⟩
def Mu(s:ByteArray):Bool:=(((((Zy s (⟨[119,101,105,103,104,116].toArray⟩))||(Zy s (⟨[109,97,120].toArray⟩)))||(Zy s (⟨[99,112,117,115].toArray⟩)))||(Zy s (⟨[112,114,111,99,115].toArray⟩)))||(Zy s (⟨[115,116,97,116].toArray⟩)))
def zwc(x:Int):Bool:=(((decide (x>=97))&&(decide (x<=122)))||((decide (x>=48))&&(decide (x<=57))))
def Ue(s:ByteArray):Bool:=YK (s.size:Int) 1 8 && !Mu s&&(List.range s.size).all fun i=>zwc (JW s (i:Int))
theorem KM{s:ByteArray}:Ue s=true↔(1<=s.size/\s.size<=8)/\Mu s=false/\∀i:Nat,i<s.size->zwc (JW s (i:Int))=true:=by
 unfold Ue;simp only[A',Qu,IB,List.all_eq_true,List.mem_range];constructor
 ·rintro⟨⟨h1,h2⟩,h3⟩; exact⟨⟨Qo,Qo⟩,h2,h3⟩
 ·rintro⟨⟨h0,h1⟩,h2,h3⟩; exact⟨⟨⟨Qo,Qo⟩,h2⟩,h3⟩
theorem Kl{s:ByteArray}(h:¬((1<=s.size/\s.size<=8)/\Mu s=false/\∀i:Nat,i<s.size->zwc (JW s (i:Int))=true)):Ue s=false:=by
 cases hn:Ue s with
 | false=>rfl
 | true=>exact Ir (KM.1 hn) h
theorem ze5{s:ByteArray}{w:Wo}{bs:List Nat}:PX bs PN #[.string s] w (.bool (Mu s)):=
 zft s fun wr hx=>rfl
theorem HT{s:ByteArray}{w:Wo}{bs:List Nat}:PX bs T6 #[.string s] w (.bool (Ue s)):=
 zfp s fun wr hx=>by
  refine⟨_,Qp,Mu s,fun _=>ze5,fun h=>?_,fun h=>?_⟩
  ·rw[Kl];rintro⟨h1,h2,_⟩;rw[h2,Qu.2 Qo] at h;cases h
  ·have h:YK (s.size:Int) 1 8=true/\Mu s=false:=by simpa using h
   have h1:=Qu.1 h.1;refine Xw s.size 0 rfl (fun k=>k<=s.size/\∀j:Nat,j<k->zwc (JW s (j:Int))=true) ⟨Ic _,fun j hj=>Ir hj (Nat.not_lt_zero j)⟩ fun k ⟨hk,hI⟩=>⟨fun IS=>?_,fun Ry=>?_⟩
   ·have IS:=Ot IS;have hr:0<=(k:Int)/\(k:Int)<(s.size:Int):=⟨Qo,IS⟩;refine⟨hr,fun _=>hr,fun _=>hr,fun _ _=>hr,fun iW=>?_,fun AH8=>⟨⟨Qo,Qo⟩,QB Qo ⟨Qo,fun j hj=>?_⟩⟩⟩
    ·rw[Kl];rintro⟨_,_,h3⟩;have:=h3 k Qo;unfold zwc at this;rw[this] at iW;cases iW
    ·by_cases eH:j<k
     ·exact hI j eH
     ·have:j=k:=Qo;subst this;unfold zwc;rw[I6] at AH8;exact AH8
   ·have Ry:=Ou Ry;have hk:k=s.size:=Qo;subst hk;rw[KM.2 ⟨⟨Qo,Qo⟩,h.2,hI⟩]
def Q6(gs:List ZO)(g:Int):Bool:=(decide (g>=0)&&decide (g<(gs.length:Int)))&&(gi gs g).used
theorem Q4{gs:List ZO}{g:Int}:Q6 gs g=true↔0<=g/\g<(gs.length:Int)/\(gi gs g).used=true:=by
 unfold Q6;simp[and_assoc]
def dep:Nat->List ZO->Int->Int
 | 0,_,g=>if g=0 then 0 else -1
 | f+1,gs,g=>if g=0 then 0 else if dep f gs (gi gs g).parent<0 then -1 else dep f gs (gi gs g).parent+1
def OP:Nat->List ZO->Int->Int->Int
 | 0,_,_,_ => -1
 | f+1,gs,g,n=>if Q6 gs g=false then -1 else if g=0 then n else OP f gs (gi gs g).parent (n+1)
theorem TK(gs:List ZO):∀(f:Nat) (g:Int),-1<=dep f gs g/\dep f gs g<=f
 | 0,g=>by simp only[dep]; split <;> omega
 | f+1,g=>by
  have:=TK gs f (gi gs g).parent;simp only[dep];split
  ·omega
  ·split <;> omega
theorem LZ(gs:List ZO):∀(f f':Nat) (g:Int),0<=dep f gs g->dep f gs g<=f'->dep f' gs g=dep f gs g
 | 0,f',g,h,_=>by
  simp only[dep] at h ⊢
  split at h
  ·rename_i hg
   cases f' <;> simp[dep,hg]
  ·omega
 | f+1,f',g,h,hle=>by
  simp only[dep] at h hle ⊢
  by_cases hg:g=0
  ·rw[C' hg]
   cases f' <;> simp[dep,hg]
  ·rw[B' hg] at h hle ⊢
   by_cases hd:dep f gs (gi gs g).parent<0
   ·rw[C' hd] at h; omega
   ·rw[B' hd] at hle ⊢
    cases f' with
    | zero=>omega
    | succ f'=>
     have:=LZ gs f f' (gi gs g).parent Qo Qo;simp only[dep];rw[B' hg,this,B' hd]
theorem ZZ(gs:List ZO)(f:Nat):dep f gs 0=0:=by cases f <;> simp[dep]
theorem ztm{gs:List ZO}{f:Nat}{g:Int}(h:dep f gs g=0):g=0:=by
 cases f with
 | zero=>simp only[dep] at h; split at h <;> first | assumption | omega
 | succ f=>
  simp only[dep] at h
  split at h
  ·assumption
  ·split at h <;> omega
structure Y5 (gs:List ZO):Prop where
 len:gs.length=8
 ru:(gi gs 0).used=true
 rp:(gi gs 0).parent = -1
 rn:(gi gs 0).name=⟨[].toArray⟩
 nm:∀g:Int,1<=g->g<8->(gi gs g).used=true->Ue (gi gs g).name=true
 par:∀g:Int,1<=g->g<8->(gi gs g).used=true->Q6 gs (gi gs g).parent=true
 dp:∀g:Int,1<=g->g<8->(gi gs g).used=true->0<=dep 3 gs g
 uniq:∀g h:Int,1<=h->h<g->g<8->(gi gs g).used=true->(gi gs h).used=true->¬((gi gs h).parent=(gi gs g).parent/\(gi gs h).name=(gi gs g).name)
noncomputable def MD(gs:List ZO):Bool:=@decide (Y5 gs) (Classical.propDecidable _)
theorem VK{gs:List ZO}:MD gs=true↔Y5 gs:=@decide_eq_true_iff _ (Classical.propDecidable _)
theorem Fy{gs:List ZO}(h:¬Y5 gs):MD gs=false:=by
 cases hb:MD gs with
 | false=>rfl
 | true=>exact Ir (VK.1 hb) h
theorem F0{gs:List ZO}(hp:∀g:Int,g≠0->Q6 gs g=true->Q6 gs (gi gs g).parent=true):∀(f:Nat) (g n:Int),Q6 gs g=true->OP (f+1) gs g n=if dep f gs g<0 then -1 else n+dep f gs g
 | 0,g,n,hu=>by
  simp only[OP,dep,hu]
  by_cases hg:g=0 <;> simp[hg]
 | f+1,g,n,hu=>by
  rw[OP];simp only[hu]
  by_cases hg:g=0
  ·simp[hg,dep]
  ·have ih:=F0 hp f (gi gs g).parent (n+1) (hp g hg hu);have hr:=TK gs f (gi gs g).parent;simp only[dep,B' hg];rw[ih]
   by_cases hd:dep f gs (gi gs g).parent<0
   ·simp[hd]
   ·have h2:¬(dep f gs (gi gs g).parent+1<0):=Qo;simp[hd,h2]; omega
theorem zrm{gs:List ZO}{f:Nat}{g n:Int}(hg:g≠0)(h:OP (f+1) gs g n≠-1):f≠0/\Q6 gs (gi gs g).parent=true:=by
 rw[OP] at h
 by_cases hu:Q6 gs g=false
 ·rw[C' hu] at h; exact Ir rfl h
 ·rw[B' hu,B' hg] at h
  cases f with
  | zero=>exact Ir rfl h
  | succ f=>
   rw[OP] at h
   by_cases hp:Q6 gs (gi gs g).parent=false
   ·rw[C' hp] at h; exact Ir rfl h
   ·exact⟨Qo,by simpa using hp⟩
structure zop (gs:List ZO) (k:Int):Prop where
 each:∀g:Int,1<=g->g<k->(gi gs g).used=true->Ue (gi gs g).name=true/\YK (OP 9 gs g 0) 1 3=true/\∀h:Int,1<=h->h<g->(gi gs h).used=true->¬((gi gs h).parent=(gi gs g).parent/\(gi gs h).name=(gi gs g).name)
theorem zsl{gs:List ZO}(hl:gs.length=8)(ru:(gi gs 0).used=true)(rp:(gi gs 0).parent = -1)(rn:(gi gs 0).name=⟨[].toArray⟩)(h:zop gs 8):Y5 gs:=by
 have par:∀g:Int,1<=g->g<8->(gi gs g).used=true->Q6 gs (gi gs g).parent=true:=fun g h1 h2 hu=>by
  have:=Qu.1 (h.each g h1 h2 hu).2.1;exact(zrm (f:=8) (n:=0) Qo (by show OP 9 gs g 0≠-1; omega)).2
 have hp:∀g:Int,g≠0->Q6 gs g=true->Q6 gs (gi gs g).parent=true:=fun g hg hu=>by
  obtain⟨a,b,c⟩:=Q4.1 hu;exact par g Qo Qo c
 refine⟨hl,ru,rp,rn,fun g h1 h2 hu=>(h.each g h1 h2 hu).1,par,fun g h1 h2 hu=>?_,fun g k h1 h2 h3 hu hk=>(h.each g Qo h3 hu).2.2 k h1 h2 hk⟩;have h9:=Qu.1 (h.each g h1 h2 hu).2.1;rw[F0 hp 8 g 0 (Q4.2 ⟨Qo,Qo,hu⟩)] at h9
 split at h9
 ·omega
 ·rename_i hd;have:=LZ gs 8 3 g Qo Qo;omega
theorem zqq{gs:List ZO}(h:Y5 gs):zop gs 8:=by
 have hp:∀g:Int,g≠0->Q6 gs g=true->Q6 gs (gi gs g).parent=true:=fun g hg hu=>by
  obtain⟨a,b,c⟩:=Q4.1 hu;have:=h.len;exact h.par g Qo Qo c
 refine⟨fun g h1 h2 hu=>⟨h.nm g h1 h2 hu,?_,fun k h3 h4 hk=>h.uniq g k h3 h4 h2 hu hk⟩⟩;have hl:=h.len;rw[F0 hp 8 g 0 (Q4.2 ⟨Qo,Qo,hu⟩)];have h3:=h.dp g h1 h2 hu;have hr:=TK gs 3 g;have:=LZ gs 3 8 g h3 Qo;rw[this,B' Qo];have hz:dep 3 gs g≠0:=fun e=>by have:=ztm e; omega
 exact Qu.2 Qo
section
variable {gs:List ZO}{ms:Nat->MG}{o:OA}{c:Nat}{w:Wo}{bs:List Nat}
theorem KX.used(h:KX bs w o gs ms){i:Int}(h0:0<=i)(h1:i<(gs.length:Int)):Q1 bs w o (Int.toNat i*14+0) [.bool (gi gs i).used]:=(h.cells i h0 h1).get 0 _ rfl
theorem KX.parent(h:KX bs w o gs ms){i:Int}(h0:0<=i)(h1:i<(gs.length:Int)):Q1 bs w o (Int.toNat i*14+1) [I (gi gs i).parent]:=(h.cells i h0 h1).get 1 _ rfl
theorem KX.name(h:KX bs w o gs ms){i:Int}(h0:0<=i)(h1:i<(gs.length:Int)):Q1 bs w o (Int.toNat i*14+2) [.string (gi gs i).name]:=(h.cells i h0 h1).get 2 _ rfl
theorem Xb{g:Int}(h:KX bs w o gs ms):PX bs Y1 #[.slice o gs.length c,I g] w (.bool (Q6 gs g)):=
 zfu o gs.length c g fun wr hx=>by
  have h:=(h.ext hx).less (cs:=[]) Qs;refine⟨fun q=>?_,(gi gs g).used,fun q=>?_,rfl⟩
  ·have q:0<=g/\g<(gs.length:Int):=by simpa using q
   exact h.ix q.1 q.2
  ·have q:0<=g/\g<(gs.length:Int):=by simpa using q
   exact h.used q.1 q.2
theorem M5{g:Int}(h:KX bs w o gs ms)(hl:gs.length<maxLen):PX bs Jy #[.slice o gs.length c,I g] w (I (OP (gs.length+1) gs g 0)):=
 zci o gs.length c g fun wr hx=>by
  have h:=(h.ext hx).less (cs:=[]) Qs;refine OQ (gs.length+1) 0 rfl (fun x k=>k<=gs.length+1/\OP (gs.length+1-k) gs x k=OP (gs.length+1) gs g 0) ⟨Qo,rfl⟩ fun x k ⟨hk,he⟩=>⟨fun IS=>?_,fun Ry=>?_⟩
  ·have IS:=Ot IS;have hf:gs.length+1-k=(gs.length-k)+1:=Qo;rw[hf,OP] at he;refine⟨_,Xb h,fun hu=>?_,fun hu=>?_⟩
   ·have hu:Q6 gs x=false:=by simpa using hu
    rw[C' hu] at he;rw[<-he]
   ·have hu:Q6 gs x=true:=by simpa using hu
    rw[B' (by simp[hu])] at he;obtain⟨u1,u2,u3⟩:=Q4.1 hu;refine⟨fun hz=>?_,fun hz=>?_⟩
    ·rw[C' (by simpa using hz)] at he;rw[<-he]
    ·rw[B' (by simpa using hz)] at he;have hm:=XA;refine⟨h.ix u1 u2,_,h.parent u1 u2,⟨Qo,Qo⟩,QJ Qo ⟨Qo,?_⟩⟩;rw[<-he,show gs.length+1-(k+1)=gs.length-k by omega];rfl
  ·have Ry:=Ou Ry;have:gs.length+1-k=0:=Qo;rw[this] at he;rw[<-he]; rfl
theorem HU(h:KX bs w o gs ms)(hl:gs.length<=maxLen):PX bs T8 #[.slice o gs.length c] w (.bool (MD gs)):=
 zfq o gs.length c fun wr hx=>by
  have h:=(h.ext hx).less (cs:=[]) Qs;have l8:((((gs.length:Nat):Int) != 8)=false)->gs.length=8:=fun q=>by have:=(bne_eq_false_iff_eq).1 q; omega
  have i0:∀q:(((gs.length:Nat):Int) != 8)=false,(0:Int)<(gs.length:Int):=fun q=>by have:=l8 q; omega
  refine⟨fun q=>h.ix (I2 _) (i0 q),(gi gs 0).used,fun q=>h.used (I2 _) (i0 q),fun q=>?_,(gi gs 0).parent,fun q=>?_,fun q=>?_,(gi gs 0).name,fun q=>?_,fun q=>?_,fun q=>?_⟩
  ·simp only[H'] at q; exact h.ix (I2 _) (i0 q.1)
  ·simp only[H'] at q; exact h.parent (I2 _) (i0 q.1)
  ·simp only[H'] at q; exact h.ix (I2 _) (i0 q.1.1)
  ·simp only[H'] at q; exact h.name (I2 _) (i0 q.1.1)
  ·rw[Fy];intro ht;have e:((gs.length:Nat):Int)=8:=by have:=ht.len; omega
   rw[e,ht.ru,ht.rp,ht.rn,Fu] at q;simp at q
  ·simp only[H',I6,bne_eq_false_iff_eq,Uw] at q;obtain⟨⟨⟨q1,ru⟩,rp⟩,rn⟩:=q;have hl8:gs.length=8:=Qo;refine Xw 8 1 rfl (fun k=>1<=k/\k<=8/\zop gs k) ⟨I7 _,Qo,⟨fun g h1 h2=>by omega⟩⟩ fun k ⟨hk1,hk,hS⟩=>⟨fun IS=>?_,fun Ry=>?_⟩
   ·have IS:=Ot IS;have cU:(0:Int)<=(k:Int):=Qo
    have step:((gi gs (k:Int)).used=true->Ue (gi gs (k:Int)).name=true/\YK (OP 9 gs (k:Int) 0) 1 3=true/\∀h:Int,1<=h->h<(k:Int)->(gi gs h).used=true->¬((gi gs h).parent=(gi gs (k:Int)).parent/\(gi gs h).name=(gi gs (k:Int)).name))->zop gs ((k+1:Nat):Int):=fun kW=>⟨fun g h1 h2 hu=>by
     by_cases qY:g<(k:Int)
     ·exact hS.each g h1 qY hu
     ·have:g=(k:Int):=Qo;subst this; exact kW hu⟩
    refine⟨h.ix cU IS,_,h.used cU IS,fun hu=>⟨⟨Qo,Qo⟩,QB Qo ⟨Qo,Qo,step fun hu'=>by rw[hu'] at hu; cases hu⟩⟩,fun hu=>?_⟩;have hu:(gi gs (k:Int)).used=true:=by simpa using hu
    refine⟨h.ix cU IS,_,h.name cU IS,_,HT,OP 9 gs (k:Int) 0,fun _=>?_,YK (OP 9 gs (k:Int) 0) 1 3,fun _=>Qp,fun q=>?_,fun q=>?_⟩
    ·have:=M5 (c:=c) (g:=(k:Int)) h (by rw[hl8]; simp[maxLen])
     rwa[hl8] at this ⊢
    ·rw[Fy];intro ht;have:=(zqq ht).each (k:Int) Qo Qo hu;rw[this.1,this.2.1] at q;cases q
    ·simp only[H',I6] at q;refine Xw k 1 rfl (fun j=>1<=j/\j<=k/\∀h:Int,1<=h->h<(j:Int)->(gi gs h).used=true->¬((gi gs h).parent=(gi gs (k:Int)).parent/\(gi gs h).name=(gi gs (k:Int)).name)) ⟨I7 _,hk1,fun g h1 h2=>by omega⟩ fun j ⟨hj1,eH,hJ⟩=>⟨fun Rr=>?_,fun aP=>?_⟩
     ·have Rr:=Ot Rr;have hj0:(0:Int)<=(j:Int):=Qo;have hjl:(j:Int)<(gs.length:Int):=Qo;refine⟨h.ix hj0 hjl,_,h.used hj0 hjl,fun _=>h.ix hj0 hjl,_,fun _=>h.parent hj0 hjl,fun _=>h.ix cU IS,_,fun _=>h.parent cU IS,fun _=>h.ix hj0 hjl,_,fun _=>h.name hj0 hjl,fun _=>h.ix cU IS,_,fun _=>h.name cU IS,fun hs=>?_,fun hs=>⟨⟨Qo,Qo⟩,QB Qo ⟨Qo,Qo,fun g h1 h2 hg=>?_⟩⟩⟩
      ·rw[Fy];intro ht;simp only[A',Is,Uw] at hs;exact ht.uniq (k:Int) (j:Int) Qo Rr Qo hu hs.1.1 ⟨hs.1.2,hs.2⟩
      ·by_cases hgj:g<(j:Int)
       ·exact hJ g h1 hgj hg
       ·have:g=(j:Int):=Qo;subst this;rintro⟨e1,e2⟩;rw[hg,e1,e2,Fu] at hs;simp at hs
     ·have aP:=Ou aP;have:j=k:=Qo;subst this;exact⟨⟨Qo,Qo⟩,QB Qo ⟨Qo,Qo,step fun _=>⟨q.1,q.2,hJ⟩⟩⟩
   ·have Ry:=Ou Ry;have:k=8:=Qo;subst this;rw[VK.2 (zsl hl8 ru rp rn hS)]
def Tu:Nat->List ZO->Int->Int->Bool
 | 0,_,g,h=>h==g
 | f+1,gs,g,h=>h==g||(h != 0&&Tu f gs g (gi gs h).parent)
noncomputable def Pc(gs:List ZO)(g h:Int):Bool:=MD gs&&Q6 gs g&&Q6 gs h&&Tu 3 gs g h
theorem Y6{gs:List ZO}(ht:Y5 gs){h:Int}(hu:Q6 gs h=true)(hz:h≠0):Q6 gs (gi gs h).parent=true/\0<=h/\h<(gs.length:Int)/\∃d:Nat,dep 3 gs h=(d:Int)+1/\dep 3 gs (gi gs h).parent=(d:Int)/\d<3:=by
 obtain⟨a,b,u⟩:=Q4.1 hu;have hl:=ht.len;have h1:1<=h:=Qo;have hd:=ht.dp h h1 Qo u;refine⟨ht.par h h1 Qo u,a,b,?_⟩;have hr:=TK gs 2 (gi gs h).parent;have e:dep 3 gs h=if dep 2 gs (gi gs h).parent<0 then -1 else dep 2 gs (gi gs h).parent+1:=by simp only[dep,B' hz]
 rw[e] at hd ⊢
 split at hd
 ·omega
 ·rename_i hn;rw[B' hn];have:=LZ gs 2 3 (gi gs h).parent Qo Qo;exact⟨(dep 2 gs (gi gs h).parent).toNat,Qo,Qo,Qo⟩
theorem zrd{gs:List ZO}(ht:Y5 gs)(g:Int):∀(f f':Nat) (h:Int),Q6 gs h=true->dep 3 gs h<=f->dep 3 gs h<=f'->Tu f gs g h=Tu f' gs g h:=by
 intro f
 induction f with
 | zero=>
  intro f' h hu h1 h2
  have hz:h=0:=Iq fun hz=>by
   obtain⟨_,_,_,d,e,_⟩:=Y6 ht hu hz;omega
  subst hz
  cases f' <;> simp[Tu]
 | succ f ih=>
  intro f' h hu h1 h2
  by_cases hz:h=0
  ·subst hz
   cases f' <;> simp[Tu]
  ·obtain⟨hp,_,_,d,e,e2,_⟩:=Y6 ht hu hz
   cases f' with
   | zero=>omega
   | succ f'=>
    simp only[Tu];rw[ih f' (gi gs h).parent hp Qo Qo]
theorem zgi{gs:List ZO}(ht:Y5 gs){g h:Int}(hu:Q6 gs h=true)(hz:h≠0)(hg:h≠g):Tu 3 gs g h=Tu 3 gs g (gi gs h).parent:=by
 obtain⟨hp,_,_,d,e,e2,hd⟩:=Y6 ht hu hz;rw[<-zrd ht g 2 3 (gi gs h).parent hp Qo Qo];have e3:Tu 3 gs g h=(h==g||(h != 0&&Tu 2 gs g (gi gs h).parent)):=rfl;rw[e3];have e4:(h==g)=false:=by simpa using hg
 have e5:(h != 0)=true:=by simpa using hz
 rw[e4,e5,Bool.false_or,Bool.true_and]
theorem O5{g h:Int}(hr:KX bs w o gs ms)(hl:gs.length<=maxLen):PX bs XH #[.slice o gs.length c,I g,I h] w (.bool (Pc gs g h)):=
 BS o gs.length c g h fun wr hx=>by
  have hr:=(hr.ext hx).less (cs:=[]) Qs;refine⟨_,HU hr hl,_,fun _=>Xb hr,_,fun _=>Xb hr,fun q=>?_,fun q=>?_⟩
  ·have:Pc gs g h=false:=by
    unfold Pc
    cases h1:MD gs <;> cases h2:Q6 gs g <;> cases h3:Q6 gs h <;> simp_all
   rw[this]
  ·simp only[H',I6] at q;obtain⟨⟨q1,q2⟩,q3⟩:=q;have ht:=VK.1 q1;have hU:Pc gs g h=Tu 3 gs g h:=by unfold Pc; rw[q1,q2,q3]; rfl
   refine⟨fun vs=>∃x:Int,vs=[I x]/\Q6 gs x=true/\Tu 3 gs g x=Tu 3 gs g h,fun vs=>(dep 3 gs (ZR 0 vs)).toNat,⟨h,rfl,q3,rfl⟩,?_⟩;rintro x ⟨x',he,hu,hI⟩;simp only[I4,I5,true_and,and_true] at he;subst he;refine⟨fun dE=>⟨fun hz=>?_,fun hz=>?_⟩,fun heq=>?_⟩
   ·have hz:x=0:=by simpa using hz
    subst hz
    have:Tu 3 gs g 0=false:=by
     have:¬(0=g):=by simpa using dE
     simp[Tu,this]
    rw[hU,<-hI,this]
   ·have hz:x≠0:=by simpa using hz
    have dE:x≠g:=by simpa using dE
    obtain⟨hp,a,b,d,e,e2,hd⟩:=Y6 ht hu hz;refine⟨hr.ix a b,_,hr.parent a b,⟨_,rfl,hp,by rw[<-zgi ht hu hz dE]; exact hI⟩,?_⟩;show (dep 3 gs (gi gs x).parent).toNat<(dep 3 gs x).toNat;omega
   ·have heq:x=g:=by simpa using heq
    subst heq;rw[hU,<-hI];simp[Tu]
end
theorem zrb{s:ByteArray}{i:Nat}(h:i<s.size):((s.get! i).toNat:Int)=JW s (i:Int):=by
 have hi:i<s.data.size:=h;unfold JW;rw[Ig];simp[ByteArray.get!,getElem!_pos s.data i hi,Array.getD,h]
theorem zgd{s:ByteArray}{i:Nat}(h:(s.get! i).toNat<128):Utf8.decode s i=((s.get! i).toNat,1):=by
 simp only[Utf8.decode,Nat.add_zero];rw[C' h]
theorem zq1{s:ByteArray}{i:Nat}(h:¬(s.get! i).toNat<128):128<=(Utf8.decode s i).1/\1<=(Utf8.decode s i).2:=by
 simp only[Utf8.decode,Nat.add_zero,Utf8.runeError];rw[B' h];split
 ·split
  ·rename_i h1; exact⟨h1,by show 1<=2; omega⟩
  ·exact⟨Qd,Qd⟩
 ·split
  ·split
   ·rename_i h1;simp only[ge_iff_le,A',Ij] at h1;exact⟨by show 128<=_; omega,by show 1<=3; omega⟩
   ·exact⟨Qd,Qd⟩
  ·split
   ·split
    ·rename_i h1;simp only[ge_iff_le,A',Ij] at h1;exact⟨by show 128<=_; omega,by show 1<=4; omega⟩
    ·exact⟨Qd,Qd⟩
   ·exact⟨Qd,Qd⟩
theorem zrg(w:Wo)(b:Nat)(s:ByteArray)(p:Nat):Q0 [b] w (M1 w b s p):=
 ⟨rfl,rfl,rfl,by simp[M1],fun k _ hk=>by
  have:b≠k:=fun e=>hk (by simp[e])
  simp only[M1];rw[Array.getElem?_setIfInBounds_ne this]⟩
theorem zud{w:Wo}{b:Nat}{s:ByteArray}{p:Nat}(h:b<w.heap.size):(M1 w b s p).heap[b]? = some (.stringIter s p):=by
 simp[M1,h]
def zy4(b:Nat)(w:Wo):Nat:=match w.heap[b]? with
 | some (.stringIter s p)=>s.size+1-p
 | _=>0
theorem zkl{s:ByteArray}(h1:Zy s (⟨[119,101,105,103,104,116].toArray⟩)=false)(h2:Zy s (⟨[109,97,120].toArray⟩)=false)(h3:Zy s (⟨[99,112,117,115].toArray⟩)=false)(h4:Zy s (⟨[112,114,111,99,115].toArray⟩)=false)(h5:Zy s (⟨[115,116,97,116].toArray⟩)=false):Mu s=false:=by
 unfold Mu; rw[h1,h2,h3,h4,h5]; rfl
theorem OR{s:ByteArray}(h:Mu s=true):Ue s=false:=Kl fun ⟨_,h2,_⟩=>by rw[h] at h2; cases h2
theorem zew{s:ByteArray}{w:Wo}{bs:List Nat}:PX bs PJ #[.string s] w (.bool (Ue s)):=by
 refine Fk fun wr hx=>zek s (R:=fun v w'=>v=.bool (Ue s)/\Q0 [] wr w') ?_
 refine⟨fun h=>?_,fun h1=>⟨fun h=>?_,fun h2=>⟨fun h=>?_,fun h3=>⟨fun h=>?_,fun h4=>⟨fun h=>?_,fun h5=>?_⟩⟩⟩⟩⟩
 ·intro w1 S9; rw[OR (by unfold Mu; rw[h]; rfl)]; exact⟨rfl,S9⟩
 ·intro w1 S9; rw[OR (by unfold Mu; rw[h]; simp)]; exact⟨rfl,S9⟩
 ·intro w1 S9; rw[OR (by unfold Mu; rw[h]; simp)]; exact⟨rfl,S9⟩
 ·intro w1 S9; rw[OR (by unfold Mu; rw[h]; simp)]; exact⟨rfl,S9⟩
 ·intro w1 S9; rw[OR (by unfold Mu; rw[h]; simp)]; exact⟨rfl,S9⟩
 ·have hf:=zkl h1 h2 h3 h4 h5;refine⟨_,QK,fun h=>?_,fun h=>?_⟩
  ·intro w1 S9;have h:YK (s.size:Int) 1 8=false:=by simpa using h
   have h:=zyu.1 h;rw[Kl fun ⟨h6,_⟩=>h Qo];exact⟨rfl,S9⟩
  ·have h:YK (s.size:Int) 1 8=true:=by simpa using h
   have h:=Qu.1 h;intro w1 S9 _;refine⟨some ⟨w1.heap.size,0,none⟩,w1.alloc (.stringIter s 0),by simp[Instr.range,run_underlying zdb],Yf,?_⟩;have hb0:(w1.alloc (.stringIter s 0)).heap[w1.heap.size]? = some (.stringIter s 0):=Array.getElem?_push_size ..;have hX0:Q0 [] wr (w1.alloc (.stringIter s 0)):=S9.trans (Z4 w1 _);have hbr:wr.heap.size<=w1.heap.size:=S9.size;generalize w1.heap.size=b at hb0 hbr;generalize w1.alloc (.stringIter s 0)=w2 at hb0 hX0;refine⟨fun vs w'=>vs=[]/\Q0 [] wr w'/\∃p:Nat,p<=s.size/\w'.heap[b]? = some (.stringIter s p)/\∀j:Nat,j<p->zwc (JW s (j:Int))=true,fun _ w'=>zy4 b w',fun w3 R4 _=>⟨rfl,hX0.trans R4,0,Ic _,QM hb0 R4 Qs,fun j hj=>Ir hj (Nat.not_lt_zero j)⟩,?_⟩;intro w3 _ ⟨_,hX,p,hp,hb,hI⟩ w4 SD _;have hb4:=QM hb SD Qs;refine⟨b,s,p,rfl,Qs,hb4,fun Ry=>⟨(by intro q; cases q),fun _ w5 Sg=>?_⟩,fun IS=>⟨fun _=>?_,by intro q; cases q⟩⟩
   ·have:p=s.size:=Qo;subst this;rw[KM.2 ⟨⟨Qo,Qo⟩,hf,hI⟩];exact⟨rfl,(hX.trans SD).trans Sg⟩
   ·have hX5:Q0 [] wr (M1 w4 b s (p+(Utf8.decode s p).2)):=(hX.trans SD).fresh (zrg w4 b s _) fun x hm=>.inl (by rw[Iz.1 hm]; exact hbr)
    have hg:=zrb IS;refine⟨fun iW=>?_,fun AH8=>?_⟩
    ·intro w5 Sg
     have Ci9:Ue s=false:=Kl fun ⟨_,_,h3⟩=>by
      have h3:=h3 p IS
      by_cases hlo:(s.get! p).toNat<128
      ·rw[zgd hlo] at iW;simp only[hg] at iW;unfold zwc at h3;rw[h3] at iW;cases iW
      ·unfold zwc at h3;simp only[Iu,A',Ij] at h3;omega
     rw[Ci9];exact⟨rfl,hX5.trans Sg⟩
    ·intro w5 Sg _
     by_cases hlo:(s.get! p).toNat<128
     ·rw[zgd hlo] at AH8 hX5 Sg;simp only[hg] at AH8;have hat:=QM (zud (s:=s) (p:=p+1) (JF hb4)) Sg Qs;refine⟨⟨rfl,hX5.trans Sg,p+1,Qo,hat,fun j hj=>?_⟩,?_⟩
      ·by_cases hjp:j<p
       ·exact hI j hjp
       ·have:j=p:=Qo;subst this;unfold zwc;rw[I6] at AH8;exact AH8
      ·simp only[zy4,hat,hb];omega
     ·exfalso
      have:=zq1 hlo;rw[I6] at AH8;simp only[Iu,A',Ij] at AH8;omega
end Go.Proofs.YtnclplgaicdapaaGreatDoor
