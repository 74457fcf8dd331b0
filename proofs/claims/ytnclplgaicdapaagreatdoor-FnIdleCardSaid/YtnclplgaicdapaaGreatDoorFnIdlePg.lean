/- Part 7 of what the law FnIdle needs. -/
import Derived.Test.YtnclplgaicdapaaGreatDoorFnIdlePf
set_option linter.unusedVariables false
set_option linter.unusedSimpArgs false
set_option maxRecDepth 100000
set_option maxHeartbeats 8000000
namespace Go.Proofs.YtnclplgaicdapaaGreatDoor
open Go.RowKit
def zb0(v:Int)(t:OA)(s u:Nat)(p:OA)(B x:Nat)(q:OA)(r A:Nat)(w:Wo)(R:RT):=∀f e,Q0 [] w e->w.heap.size<=f->e.heap[f]? = some (Obj.cells ([I v,S t s u,S p B x,S q r A]:LV).toArray Q5 (0,0))->f∉([]:List Nat)->NB e λb=>∃(h:LQ) (j:LM),(AX [] [b] e λy=>h [.bool true,I 0] y)/\∀(d:Bool) (a:Int) c,(∀bq∈[b],bq<c.heap.size)->h [.bool d,I a] c->Bf (decide (a<5)) (∃(n:Fn) (l:Array Va) (k:Array Va),(0<=a/\a<(5:Int)/\(#[.func (.func XP) #[] #[],.func (.func Xu) #[] #[],.func (.func XQ) #[] #[],.func (.func Xh) #[] #[],.func (.func J3) #[] #[]]:Array Va)[Int.toNat a]? = some (.func n l k))/\AY [b] c λm=>Tb Tryz.prog (.func n l k) [.pointer ((some (Addr.mk f 0 none)).map (·.add 0))] m λz i=>∃g,z=.returned (.bool g)/\Q9 [b] m i/\Bf (!g) (AR [b] i R (.bool false)) (Qz (a+1)/\AY [b] i λo=>h [.bool d,I (a+1)] o/\j [.bool d,I (a+1)] o<j [.bool d,I a] c)) (AR [b] c R (.bool d))
theorem zc2(a b c d e f g h i j):Jy (zb0 a b c d e f g h i j) VB #[Wv a b c d e f g h i j]:=eV [1] false [(4,⟨[(4,.bool),(9,Ri)],[],[1,8],[],[]⟩)] Tryz.func21 Qk Qk
def C6(t s B:Int)(A:OA)(k x:Nat)(y:OA)(h v:Nat)(w:Wo)(R:RT):=NB w λa=>NB w λb=>AX [] [a,b] w λo=>∃c m l,∃g,((Instr.makeSlice Z9 (I (k:Int)) (I (k:Int))):Sem Va).run Tryz.prog o=.ok (S c m l) g/\Q9 [a,b] o g/\AY [a,b] g λq=>∃u,∃i,(builtin .copy #[Z9,Z9] Qc #[false,false] #[S c m l,S A k x]).run Tryz.prog q=.ok (.value (I u)) i/\Q9 [a,b] q i/\AY [a,b] i λp=>∃f e d,∃n,((Instr.makeSlice Jg (I (h:Int)) (I (h:Int))):Sem Va).run Tryz.prog p=.ok (S f e d) n/\Q9 [a,b] p n/\AY [a,b] n λr=>∃z,∃j,(builtin .copy #[Jg,Jg] Qc #[false,false] #[S f e d,S y h v]).run Tryz.prog r=.ok (.value (I z)) j/\Q9 [a,b] r j/\AR [a,b] j R (.agg #[I t,I s,I B,S c m l,S f e d])
theorem CN(a b c d e f g h i):Jy (C6 a b c d e f g h i) Oh #[.agg #[I a,I b,I c,S d e f,S g h i]]:=eV [] false [] Tryz.func242 Qk Qk
def N6(p:Int)(b1:OA)(b0 b2:Nat)(a8:OA)(c4 b4:Nat)(r:OA)(H c3:Nat)(w:Wo)(R:RT):=NB w λb=>NB w λa=>NB w λc=>AX [] [b,a,c] w λQ=>∃o i k,∃t,(builtin .append #[Zr,Zr] Zr #[false,false] #[S none 0 0,S b1 b0 b2]).run Tryz.prog Q=.ok (.value (S o i k)) t/\Q9 [b,a,c] Q t/\AY [b,a,c] t λV=>∃m j l,∃u,(builtin .append #[Z0,Z0] Z0 #[false,false] #[S none 0 0,S a8 c4 b4]).run Tryz.prog V=.ok (.value (S m j l)) u/\Q9 [b,a,c] V u/\AY [b,a,c] u λT=>∃e f n,∃x,(builtin .append #[QE,QE] QE #[false,false] #[S none 0 0,S r H c3]).run Tryz.prog T=.ok (.value (S e f n)) x/\Q9 [b,a,c] T x/\∃(s:LQ) (z:LM),(AY [b,a,c] x λb6=>s [I 0] b6)/\∀(d:Int) h,(∀bq∈[b,a,c],bq<h.heap.size)->s [I d] h->Bf (decide (d<(f:Int))) (Ix r H d/\∃(b5:Bool) (b8:Int) (b7:ByteArray) (b3 c0 a9 c1 b9 A G a5:Int) (O:OA) (Y F:Nat) (J:OA) (a2 U:Nat) (K:OA) (a3 X:Nat),Q1 [b,a,c] h r (d.toNat*14) [.bool b5,I b8,.string b7,I b3,I c0,I a9,I c1,I b9,I A,I G,I a5,S O Y F,S J a2 U,S K a3 X]/\NB h λg=>AX [b,a,c] [b,a,c,g] h λB=>Cz Oh #[.agg #[I A,I G,I a5,S O Y F,S J a2 U]] B λc2 v=>∃a1 N a7 C E D y a6 Z,c2=.returned (.agg #[I a1,I N,I a7,S C E D,S y a6 Z])/\Q9 [b,a,c,g] B v/\(some (Q5,([I p,S o i k,S m j l,S e f n]:LV))=some (Q5,([I p,S o i k,S m j l,S e f n]:LV)))/\Ix e f d/\Xm [b,a,c,g] v e (d.toNat*14+8) 5/\AY [b,a,c,g] (R9 v e (d.toNat*14+8) [I a1,I N,I a7,S C E D,S y a6 Z]) λa0=>∃P L M,∃q,(builtin .append #[Z8,Z8] Z8 #[true,false] #[S none 0 0,S K a3 X]).run Tryz.prog a0=.ok (.value (S P L M)) q/\Q9 [b,a,c,g] a0 q/\(some (Q5,([I p,S o i k,S m j l,S e f n]:LV))=some (Q5,([I p,S o i k,S m j l,S e f n]:LV)))/\Ix e f d/\Xm [b,a,c,g] q e (d.toNat*14+13) 1/\Qz (d+1)/\AY [b,a,c,g] (R9 q e (d.toNat*14+13) [S P L M]) λa4=>s [I (d+1)] a4/\z [I (d+1)] a4<z [I d] h) (AR [b,a,c] h R (Wv p o i k m j l e f n))
theorem Nz(a b c d e f g h i j):Jy (N6 a b c d e f g h i j) Ug #[Wv a b c d e f g h i j]:=eV [] false [(6,⟨[(30,Ri)],[],[1,2,3,29],[],[]⟩)] Tryz.func172 Qk Qk
def zb1(o:Int)(m:OA)(l n:Nat)(h:OA)(u p:Nat)(i:OA)(k t:Nat)(b1:Fn)(b0:Array Va)(Z:Array Va)(w:Wo)(R:RT):=NB w λb=>NB w λa=>∃j,PX [] VB #[Wv o m l n h u p i k t] w (.bool j)/\Bf (!j) (AR [] w R (.tuple #[Wv 0 none 0 0 none 0 0 none 0 0,I 1])) (CWx [] [b,a] Ug #[Wv o m l n h u p i k t] w λz K C E L M D Q N X A=>∀c e,Q0 [b,a] A e->A.heap.size<=c->e.heap[c]? = some (Obj.cells ([I 0,S none 0 0,S none 0 0,S none 0 0]:LV).toArray Q5 (0,0))->c∉([b,a]:List Nat)->Xm [b,a] e (some (Addr.mk c 0 none)) 0 4/\∀d q,Q0 [b,a] (R9 e (some (Addr.mk c 0 none)) 0 [I z,S K C E,S L M D,S Q N X]) q->(R9 e (some (Addr.mk c 0 none)) 0 [I z,S K C E,S L M D,S Q N X]).heap.size<=d->q.heap[d]? = some (Obj.cells ([I 0]:LV).toArray Zp (0,0))->d∉([b,a]:List Nat)->AY [b,a] q λG=>Tb Tryz.prog (.func b1 b0 Z) [.pointer ((some (Addr.mk c 0 none)).map (·.add 0))] G λa7 J=>∃(y:Va),a7=.returned y/\Q9 [b,a] G J/\AY [b,a] J λT=>Cz Lw #[y,.iface Jb (.pointer ((some (Addr.mk d 0 none)).map (·.add 0)))] T λb3 f=>∃s,b3=.returned (.bool s)/\Q9 [b,a] T f/\Bf s (∃g,Q1 [b,a] f (some (Addr.mk d 0 none)) (0+0) [I g]/\CW [b,a] Ug #[Wv o m l n h u p i k t] f λa1 a5 a6 a9 a8 a0 a4 a2 b2 a3 r=>Q1 [b,a] r (some (Addr.mk d 0 none)) (0+0) [I g]/\Q1 [b,a] r (some (Addr.mk d 0 none)) (0+0) [I g]/\AR [b,a] r R (.tuple #[Wv a1 a5 a6 a9 a8 a0 a4 a2 b2 a3,I g])) (∃F Y v H V U O x P B,Q1 [b,a] f (some (Addr.mk c 0 none)) 0 [I F,S Y v H,S V U O,S x P B]/\AR [b,a] f R (.tuple #[Wv F Y v H V U O x P B,I 0])))
theorem zc3(a b c d e f g h i j k l m):Jy (zb1 a b c d e f g h i j k l m) VC #[Wv a b c d e f g h i j,.func k l m]:=eV [6,7] false [] Tryz.func76 Qk Qk
def Fl(B:Int)(y:OA)(v z:Nat)(k:OA)(P C:Nat)(o:OA)(q O:Nat)(x:Int)(F:Bool)(M:Fn)(G:Array Va)(m:Array Va)(N:Fn)(L:Array Va)(l:Array Va)(w:Wo)(R:RT):=NB w λa=>∀b c,Q0 [] w c->w.heap.size<=b->c.heap[b]? = some (Obj.cells ([I x]:LV).toArray Qc (0,0))->b∉([a]:List Nat)->∀i d,Q0 [a] c d->c.heap.size<=i->d.heap[i]? = some (Obj.cells ([.bool F]:LV).toArray Yg (0,0))->i∉([a]:List Nat)->∀f e,Q0 [a] d e->d.heap.size<=f->e.heap[f]? = some (Obj.cells ([.func M G m]:LV).toArray 70 (0,0))->f∉([a]:List Nat)->∀h g,Q0 [a] e g->e.heap.size<=h->g.heap[h]? = some (Obj.cells ([.func N L l]:LV).toArray 76 (0,0))->h∉([a]:List Nat)->NB g λj=>CVx [a] [a,j] VC #[Wv B y v z k P C o q O,.func (.func J5) #[] #[.pointer ((some (Addr.mk b 0 none)).map (·.add 0)),.pointer ((some (Addr.mk i 0 none)).map (·.add 0)),.pointer ((some (Addr.mk f 0 none)).map (·.add 0)),.pointer ((some (Addr.mk h 0 none)).map (·.add 0))]] g λn p K s A J D t H E u r=>AR [a,j] r R (.tuple #[Wv n p K s A J D t H E,I u])
theorem FO(a b c d e f g h i j k l m n o p q r):Jy (Fl a b c d e f g h i j k l m n o p q r) VW #[Wv a b c d e f g h i j,I k,.bool l,.func m n o,.func p q r]:=eV [6,7,8,9] false [] Tryz.func62 Qk Qk
def C8(d:OA)(c:Int)(w:Wo)(R:RT):=NB w λf=>d.isSome=true/\∃a b e,Q1 [] w d (0+1) [S a b e]/\Ix a b c/\R (.pointer (a.map (·.add (c.toNat*5)))) w
theorem zal(a b):Yw (C8 a b) Y7 #[.agg #[.pointer a,I b]]:=pV [] false [] Tryz.func64 Qk Qk
def Gv(d:OA)(c:Int)(w:Wo)(R:RT):=NB w λe=>∃a,PX [] Y7 #[.agg #[.pointer d,I c]] w (.pointer a)/\∃b,PX [] Y7 #[.agg #[.pointer d,I c]] w (.pointer b)/\a.isSome=true/\Xm [] w a (0+1) 1/\b.isSome=true/\Xm [] (R9 w a (0+1) [I (-1)]) b (0+2) 1/\AR [] (R9 (R9 w a (0+1) [I (-1)]) b (0+2) [I 0]) R (.tuple #[])
theorem GG(a b):Jy (Gv a b) Yh #[.agg #[.pointer a,I b]]:=eV [] false [] Tryz.func65 Qk Qk
def E9(a:OA)(d:Int)(w:Wo)(R:RT):=a.isSome=true/\∃b e k,Q1 [] w a (0+2) [S b e k]/\Ix b e d/\∃p i h n r m s q l,Q1 [] w b (d.toNat*9) [I p,I i,I h,I n,I r,I m,I s,I q,I l]/\NB w λo=>∃j f,PX [] QG #[.pointer a,I h] w (.agg #[.pointer j,I f])/\∃c,PX [] Qy #[.agg #[.pointer j,I f],I i] w (.pointer c)/\c.isSome=true/\∃g,Q1 [] w c (0+0) [I g]/\R (I g) w
theorem EP(a b):Yw (E9 a b) Ji #[.pointer a,I b]:=pV [] false [] Tryz.func126 Qk Qk
def zgd(b c:Int)(w:Wo)(R:RT):=∃a,PX [] Vz #[I c] w (I a)/\R (I (if (if a<b then a else b)>0 then (if a<b then a else b) else 0)) w
theorem zia(a b):Yw (zgd a b) Uz #[I a,I b]:=pV [] false [] Tryz.func127 Qk Qk
def D8(b:OA)(c:Int)(w:Wo)(R:RT):=b.isSome=true/\∃a e g,Q1 [] w b (0+2) [S a e g]/\Ix a e c/\∃d,Q1 [] w a (c.toNat*9+3) [I d]/\∃f,PX [] Jm #[I d] w (I f)/\R (I f) w
theorem Dz(a b):Yw (D8 a b) Yq #[.pointer a,I b]:=pV [] false [] Tryz.func128 Qk Qk
def BY(e:OA)(a c d:Int)(w:Wo)(R:RT):=e.isSome=true/\∃b n q,Q1 [] w e (0+2) [S b n q]/\Ix b n a/\∃i,Q1 [] w b (a.toNat*9+5) [I i]/\∃j,PX [] Ji #[.pointer e,I a] w (I j)/\Qz (i-j)/\∃l,PX [] Yq #[.pointer e,I a] w (I l)/\∃g,PX [] Uz #[I (i-j),I l] w (I g)/\Xm [] w b (a.toNat*9+1) 1/\Xm [] (R9 w b (a.toNat*9+1) [I c]) b (a.toNat*9+2) 1/\∃f,PX [] Ji #[.pointer e,I a] (R9 (R9 w b (a.toNat*9+1) [I c]) b (a.toNat*9+2) [I d]) (I f)/\Qz (f+g)/\Xm [] (R9 (R9 w b (a.toNat*9+1) [I c]) b (a.toNat*9+2) [I d]) b (a.toNat*9+5) 1/\∃h,Q1 [] (R9 (R9 (R9 w b (a.toNat*9+1) [I c]) b (a.toNat*9+2) [I d]) b (a.toNat*9+5) [I (f+g)]) b (a.toNat*9+0) [I h]/\Bf (h==1) (∃p o,PX [] QG #[.pointer e,I d] (R9 (R9 (R9 w b (a.toNat*9+1) [I c]) b (a.toNat*9+2) [I d]) b (a.toNat*9+5) [I (f+g)]) (.agg #[.pointer p,I o])/\AY [] (R9 (R9 (R9 w b (a.toNat*9+1) [I c]) b (a.toNat*9+2) [I d]) b (a.toNat*9+5) [I (f+g)]) λm=>Cz Yh #[.agg #[.pointer p,I o]] m λr k=>r=.returned (.tuple #[])/\Q9 [] m k/\AR [] k R (.tuple #[])) (AR [] (R9 (R9 (R9 w b (a.toNat*9+1) [I c]) b (a.toNat*9+2) [I d]) b (a.toNat*9+5) [I (f+g)]) R (.tuple #[]))
theorem Nw(a b c d):Jy (BY a b c d) Tu #[.pointer a,I b,I c,I d]:=eV [] false [] Tryz.func108 Qk Qk
def E8(f:OA)(j:Int)(w:Wo)(R:RT):=∃(e:LP) (h:LN),e [I j,I 0]/\∀(b a:Int),e [I b,I a]->Bf (b != 0) (Qz (a+1)/\f.isSome=true/\∃d g i,Q1 [] w f (0+3) [S d g i]/\Ix d g b/\∃c,Q1 [] w d (b.toNat*14+1) [I c]/\e [I c,I (a+1)]/\h [I c,I (a+1)]<h [I b,I a]) (R (I a) w)
theorem EO(a b):Yw (E8 a b) Vi #[.pointer a,I b]:=pV [] false [(2,⟨[(1,Ri),(5,Ri)],[],[0],[],[]⟩)] Tryz.func234 Qk Qk
def Kp(e:OA)(m:Int)(w:Wo)(R:RT):=NB w λa=>∃(s:LQ) (y:LM),(AX [] [a] w λH=>s [I 3] H)/\∀(f:Int) j,(∀bq∈[a],bq<j.heap.size)->s [I f] j->Bf (decide (f>=1)) (e.isSome=true/\∃J t M,Q1 [a] j e (0+3) [S J t M]/\∃(l:LQ) (i:LM),(AY [a] j λK=>l [I 0] K)/\∀(c:Int) b,(∀bq∈[a],bq<b.heap.size)->l [I c] b->Bf (decide (c<(t:Int))) (e.isSome=true/\∃v A L,Q1 [a] b e (0+3) [S v A L]/\Ix v A c/\∃n,Q1 [a] b v (c.toNat*14+0) [.bool n]/\∃p,((!n)=false->PX [a] Vi #[.pointer e,I c] b (I p))/\Bf ((!n)||(p != f)) (Qz (c+1)/\AY [a] b λC=>l [I (c+1)] C/\i [I (c+1)] C<i [I c] b) (∃d,PX [a] Qy #[.agg #[.pointer e,I m],I c] b (.pointer d)/\∃g,PX [a] Xq #[.agg #[.pointer e,I m],I c] b (.bool g)/\∃h,(g=true->PX [a] Jp #[.agg #[.pointer e,I m],I c] b (.bool h))/\((g&&(!h))=true->d.isSome=true)/\∃r,((g&&(!h))=true->Q1 [a] b d (0+1) [.bool r])/\Bf ((g&&(!h))&&(!r)) (e.isSome=true/\∃x B N,Q1 [a] b e (0+3) [S x B N]/\Ix x B c/\∃D,Q1 [a] b x (c.toNat*14+1) [I D]/\∃u,PX [a] Qy #[.agg #[.pointer e,I m],I D] b (.pointer u)/\u.isSome=true/\∃k,Q1 [a] b u (0+0) [I k]/\d.isSome=true/\∃q,Q1 [a] b d (0+2) [I q]/\Qz (q-k)/\d.isSome=true/\∃G,Q1 [a] b d (0+3) [I G]/\∃o,PX [a] Uz #[I (q-k),I G] b (I o)/\Qz (k+o)/\d.isSome=true/\Xm [a] b d (0+2) 1/\d.isSome=true/\Xm [a] (R9 b d (0+2) [I (k+o)]) d (0+1) 1/\Qz (c+1)/\AY [a] (R9 (R9 b d (0+2) [I (k+o)]) d (0+1) [.bool (g&&(!h))]) λF=>l [I (c+1)] F/\i [I (c+1)] F<i [I c] b) (d.isSome=true/\Xm [a] b d (0+1) 1/\Qz (c+1)/\AY [a] (R9 b d (0+1) [.bool (g&&(!h))]) λz=>l [I (c+1)] z/\i [I (c+1)] z<i [I c] b))) (Qz (f-1)/\AY [a] b λE=>s [I (f-1)] E/\y [I (f-1)] E<y [I f] j)) (AR [a] j R (.tuple #[]))
theorem Kr(a b):Jy (Kp a b) YO #[.agg #[.pointer a,I b]]:=eV [] false [(2,⟨[(2,Ri)],[],[1],[],[]⟩),(5,⟨[(17,Ri)],[],[1,2,16],[],[]⟩)] Tryz.func164 Qk Qk
def C4(d:OA)(w:Wo)(R:RT):=d.isSome=true/\∃j e l,Q1 [] w d (0+4) [S j e l]/\∃(f:LQ) (h:LM),(AY [] w λm=>f [I 0] m)/\∀(a:Int) b,(∀bq∈([]:List Nat),bq<b.heap.size)->f [I a] b->Bf (decide (a<(e:Int))) (d.isSome=true/\∃c i k,Q1 [] b d (0+4) [S c i k]/\Ix c i a/\Xm [] b c (a.toNat*1) 1/\Qz (a+1)/\AY [] (R9 b c (a.toNat*1) [.bool false]) λg=>f [I (a+1)] g/\h [I (a+1)] g<h [I a] b) (AR [] b R (.tuple #[]))
theorem CM(a):Jy (C4 a) UU #[.pointer a]:=eV [] false [(1,⟨[(8,Ri)],[],[0,7],[],[]⟩)] Tryz.func262 Qk Qk
def D1(a:OA)(w:Wo)(R:RT):=a.isSome=true/\∃e,Q1 [] w a (0+0) [I e]/\a.isSome=true/\Xm [] w a (0+1) 1/\a.isSome=true/\Xm [] (R9 w a (0+1) [I e]) a (0+2) 1/\a.isSome=true/\∃m f q,Q1 [] (R9 (R9 w a (0+1) [I e]) a (0+2) [I 0]) a (0+3) [S m f q]/\∃(g:LQ) (j:LM),(AY [] (R9 (R9 w a (0+1) [I e]) a (0+2) [I 0]) λp=>g [I 0] p)/\∀(b:Int) c,(∀bq∈([]:List Nat),bq<c.heap.size)->g [I b] c->Bf (decide (b<(f:Int))) (a.isSome=true/\∃d k n,Q1 [] c a (0+3) [S d k n]/\Ix d k b/\Xm [] c d (b.toNat*1) 1/\Qz (b+1)/\AY [] (R9 c d (b.toNat*1) [I 0]) λi=>g [I (b+1)] i/\j [I (b+1)] i<j [I b] c) (AY [] c λl=>Cz UU #[.pointer a] l λo h=>o=.returned (.tuple #[])/\Q9 [] l h/\AR [] h R (I 0))
theorem De(a):Jy (D1 a) Ux #[.pointer a]:=eV [] false [(3,⟨[(19,Ri)],[],[0,18],[],[]⟩)] Tryz.func237 Qk Qk
def Ff(b:OA)(c:Int)(w:Wo)(R:RT):=b.isSome=true/\∃g i n,Q1 [] w b (0+3) [S g i n]/\Ix g i c/\∃h,Q1 [] w g (c.toNat*1) [I h]/\Bf (decide (h>0)) (AR [] w R (I 0)) (b.isSome=true/\∃a,Q1 [] w b (0+1) [I a]/\Bf ((if a<20 then a else 20)==0) (b.isSome=true/\∃f j m,Q1 [] w b (0+4) [S f j m]/\Ix f j c/\Xm [] w f (c.toNat*1) 1/\AR [] (R9 w f (c.toNat*1) [.bool true]) R (I 2)) (b.isSome=true/\∃d,Q1 [] w b (0+1) [I d]/\Qz (d-(if a<20 then a else 20))/\b.isSome=true/\Xm [] w b (0+1) 1/\b.isSome=true/\∃e k l,Q1 [] (R9 w b (0+1) [I (d-(if a<20 then a else 20))]) b (0+3) [S e k l]/\Ix e k c/\Xm [] (R9 w b (0+1) [I (d-(if a<20 then a else 20))]) e (c.toNat*1) 1/\AR [] (R9 (R9 w b (0+1) [I (d-(if a<20 then a else 20))]) e (c.toNat*1) [I (if a<20 then a else 20)]) R (I 0)))
theorem FM(a b):Jy (Ff a b) VR #[.pointer a,I b]:=eV [] false [] Tryz.func238 Qk Qk
def E6(c:OA)(b a:Int)(w:Wo)(R:RT):=((decide (a<1))=false->c.isSome=true)/\∃f j l,((decide (a<1))=false->Q1 [] w c (0+3) [S f j l])/\((decide (a<1))=false->Ix f j b)/\∃h,((decide (a<1))=false->Q1 [] w f (b.toNat*1) [I h])/\Bf ((decide (a<1))||(decide (a>h))) (AR [] w R (I 3)) (c.isSome=true/\∃d g k,Q1 [] w c (0+3) [S d g k]/\Ix d g b/\∃e,Q1 [] w d (b.toNat*1) [I e]/\Qz (e-a)/\Ix d g b/\Xm [] w d (b.toNat*1) 1/\c.isSome=true/\∃i,Q1 [] (R9 w d (b.toNat*1) [I (e-a)]) c (0+2) [I i]/\Qz (i+a)/\c.isSome=true/\Xm [] (R9 w d (b.toNat*1) [I (e-a)]) c (0+2) 1/\AR [] (R9 (R9 w d (b.toNat*1) [I (e-a)]) c (0+2) [I (i+a)]) R (I 0))
theorem Eo(a b c):Jy (E6 a b c) Vh #[.pointer a,I b,I c]:=eV [] false [] Tryz.func239 Qk Qk
def D2(a:OA)(b:Int)(w:Wo)(R:RT):=a.isSome=true/\∃c,Q1 [] w a (0+1) [I c]/\a.isSome=true/\∃f i n,Q1 [] w a (0+3) [S f i n]/\Ix f i b/\∃d,Q1 [] w f (b.toNat*1) [I d]/\Qz (c+d)/\a.isSome=true/\Xm [] w a (0+1) 1/\a.isSome=true/\∃e k l,Q1 [] (R9 w a (0+1) [I (c+d)]) a (0+3) [S e k l]/\Ix e k b/\Xm [] (R9 w a (0+1) [I (c+d)]) e (b.toNat*1) 1/\a.isSome=true/\∃g,Q1 [] (R9 (R9 w a (0+1) [I (c+d)]) e (b.toNat*1) [I 0]) a (0+1) [I g]/\Bf (decide (g>0)) (AY [] (R9 (R9 w a (0+1) [I (c+d)]) e (b.toNat*1) [I 0]) λj=>Cz UU #[.pointer a] j λm h=>m=.returned (.tuple #[])/\Q9 [] j h/\AR [] h R (I 0)) (AR [] (R9 (R9 w a (0+1) [I (c+d)]) e (b.toNat*1) [I 0]) R (I 0))
theorem Df(a b):Jy (D2 a b) Uy #[.pointer a,I b]:=eV [] false [] Tryz.func240 Qk Qk
def zbv(c:OA)(b d q:Int)(w:Wo)(R:RT):=NB w λa=>Bf (b==4) (CIx [] [a] Ux #[.pointer c] w λl g=>AR [a] g R (I l)) (c.isSome=true/\∃k f o,Q1 [] w c (0+3) [S k f o]/\Qz ((f:Int)-1)/\∃e,PX [] Qr #[I d,I 0,I ((f:Int)-1)] w (.bool e)/\Bf (!e) (AR [] w R (I 1)) (Bf (b==1) (CIx [] [a] VR #[.pointer c,I d] w λh i=>AR [a] i R (I h)) (Bf (b==2) (CIx [] [a] Vh #[.pointer c,I d,I q] w λj n=>AR [a] n R (I j)) (Bf (b==3) (CIx [] [a] Uy #[.pointer c,I d] w λp m=>AR [a] m R (I p)) (AR [] w R (I 1))))))
theorem zc0(a b c d):Jy (zbv a b c d) Pp #[.pointer a,.agg #[I b,I c,I d]]:=eV [] false [] Tryz.func166 Qk Qk
def N4(g:OA)(o:Int)(w:Wo)(R:RT):=NB w λa=>g.isSome=true/\∃X y a8,Q1 [] w g (0+3) [S X y a8]/\∃(n:LQ) (k:LM),(AX [] [a] w λV=>n [I 0] V)/\∀(b:Int) h,(∀bq∈[a],bq<h.heap.size)->n [I b] h->Bf (decide (b<(y:Int))) (g.isSome=true/\∃E J a3,Q1 [a] h g (0+3) [S E J a3]/\Ix E J b/\∃F,Q1 [a] h E (b.toNat*14+0) [.bool F]/\Bf (!F) (Qz (b+1)/\AY [a] h λM=>n [I (b+1)] M/\k [I (b+1)] M<k [I b] h) (g.isSome=true/\∃C r Q,Q1 [a] h g (0+2) [S C r Q]/\∃(u:LQ) (p:LM),(AY [a] h λZ=>u [I 100000000000000001,I 0] Z)/\∀(j d:Int) i,(∀bq∈[a],bq<i.heap.size)->u [I j,I d] i->Bf (decide (d<(r:Int))) (Ix C r d/\∃Y a0 a2 U a5 m a7 a4 T,Q1 [a] i C (d.toNat*9) [I Y,I a0,I a2,I U,I a5,I m,I a7,I a4,I T]/\NB i λv=>∃x,PX [a] Jj #[.agg #[.pointer g,I o],I d,I b] i (.bool x)/\Bf x (Qz (d+1)/\AX [a] [a,v] i λN=>u [I (if m<j then m else j),I (d+1)] N/\p [I (if m<j then m else j),I (d+1)] N<p [I j,I d] i) (Qz (d+1)/\AX [a] [a,v] i λH=>u [I j,I (d+1)] H/\p [I j,I (d+1)] H<p [I j,I d] i)) (g.isSome=true/\∃a6 z a9,Q1 [a] i g (0+3) [S a6 z a9]/\∃(s:LQ) (t:LM),(AY [a] i λa1=>s [I j,I 0] a1)/\∀(f e:Int) c,(∀bq∈[a],bq<c.heap.size)->s [I f,I e] c->Bf (decide (e<(z:Int))) (∃A,PX [a] JM #[.agg #[.pointer g,I o],I e,I b] c (.bool A)/\Bf A (∃G,PX [a] Qy #[.agg #[.pointer g,I o],I e] c (.pointer G)/\G.isSome=true/\∃l,Q1 [a] c G (0+2) [I l]/\Qz (e+1)/\AY [a] c λO=>s [I (if l<f then l else f),I (e+1)] O/\t [I (if l<f then l else f),I (e+1)] O<t [I f,I e] c) (Qz (e+1)/\AY [a] c λL=>s [I f,I (e+1)] L/\t [I f,I (e+1)] L<t [I f,I e] c)) (Bf (decide (f<=100000000000000000)) (∃q,PX [a] Qy #[.agg #[.pointer g,I o],I b] c (.pointer q)/\∃B,PX [a] Qy #[.agg #[.pointer g,I o],I b] c (.pointer B)/\B.isSome=true/\∃D,Q1 [a] c B (0+0) [I D]/\q.isSome=true/\Xm [a] c q (0+0) 1/\Qz (b+1)/\AY [a] (R9 c q (0+0) [I (if f>D then f else D)]) λK=>n [I (b+1)] K/\k [I (b+1)] K<k [I b] h) (Qz (b+1)/\AY [a] c λP=>n [I (b+1)] P/\k [I (b+1)] P<k [I b] h))))) (AR [a] h R (.tuple #[]))
theorem Ny(a b):Jy (N4 a b) Tx #[.agg #[.pointer a,I b]]:=eV [] false [(2,⟨[(13,Ri)],[],[1,12],[],[]⟩),(7,⟨[(3,Ri),(32,Ri)],[],[1,2,12,13,30,31],[],[]⟩),(13,⟨[(3,Ri),(52,Ri)],[],[1,2,12,13,51],[],[]⟩)] Tryz.func167 Qk Qk
def D7(d:OA)(w:Wo)(R:RT):=d.isSome=true/\∃b3 D b8,Q1 [] w d (0+1) [S b3 D b8]/\∃(v:LQ) (G:LM),(AY [] w λa9=>v [I 0] a9)/\∀(h:Int) m,(∀bq∈([]:List Nat),bq<m.heap.size)->v [I h] m->Bf (decide (h<(D:Int))) (∃a4 P,PX [] QG #[.pointer d,I h] m (.agg #[.pointer a4,I P])/\AY [] m λX=>Cz YO #[.agg #[.pointer a4,I P]] X λb9 a3=>b9=.returned (.tuple #[])/\Q9 [] X a3/\Qz (h+1)/\AY [] a3 λT=>v [I (h+1)] T/\G [I (h+1)] T<G [I h] m) (d.isSome=true/\∃b0 x c0,Q1 [] m d (0+3) [S b0 x c0]/\∃(F:LQ) (L:LM),(AY [] m λb5=>F [I 0] b5)/\∀(e:Int) j,(∀bq∈([]:List Nat),bq<j.heap.size)->F [I e] j->Bf (decide (e<(x:Int))) (d.isSome=true/\∃s M b7,Q1 [] j d (0+3) [S s M b7]/\Ix s M e/\∃z p b2,Q1 [] j s (e.toNat*14+8+3) [S z p b2]/\∃(r:LQ) (t:LM),(AY [] j λa6=>r [I 0] a6)/\∀(a:Int) f,(∀bq∈([]:List Nat),bq<f.heap.size)->r [I a] f->Bf (decide (a<(p:Int))) (Ix z p a/\∃o,Q1 [] f z (a.toNat*1) [I o]/\∃V a0,((decide (o>0))=true->PX [] QG #[.pointer d,I a] f (.agg #[.pointer V,I a0]))/\∃E,((decide (o>0))=true->PX [] Xq #[.agg #[.pointer V,I a0],I e] f (.bool E))/\Bf ((decide (o>0))&&(!E)) (CI [] Pp #[.pointer (s.map (·.add (e.toNat*14+8))),.agg #[I 3,I a,I 0]] f λc2 b4=>Qz (a+1)/\AY [] b4 λa2=>r [I (a+1)] a2/\t [I (a+1)] a2<t [I a] f) (Qz (a+1)/\AY [] f λQ=>r [I (a+1)] Q/\t [I (a+1)] Q<t [I a] f)) (Qz (e+1)/\AY [] f λN=>F [I (e+1)] N/\L [I (e+1)] N<L [I e] j)) (d.isSome=true/\∃a5 A b6,Q1 [] j d (0+1) [S a5 A b6]/\∃(q:LQ) (u:LM),(AY [] j λc1=>q [I 0] c1)/\∀(c:Int) g,(∀bq∈([]:List Nat),bq<g.heap.size)->q [I c] g->Bf (decide (c<(A:Int))) (∃k l,PX [] QG #[.pointer d,I c] g (.agg #[.pointer k,I l])/\NB g λb=>AX [] [b] g λH=>Cz YO #[.agg #[.pointer k,I l]] H λa8 J=>a8=.returned (.tuple #[])/\Q9 [b] H J/\AY [b] J λK=>Cz Tx #[.agg #[.pointer k,I l]] K λa7 i=>a7=.returned (.tuple #[])/\Q9 [b] K i/\∃y,PX [b] Y7 #[.agg #[.pointer k,I l]] i (.pointer y)/\y.isSome=true/\∃n,Q1 [b] i y (0+1) [I n]/\∃B,((n != (-1))=true->PX [b] Y7 #[.agg #[.pointer k,I l]] i (.pointer B))/\((n != (-1))=true->B.isSome=true)/\∃Z,((n != (-1))=true->Q1 [b] i B (0+1) [I Z])/\∃C,((n != (-1))=true->PX [b] YG #[.agg #[.pointer k,I l],I Z] i (.bool C))/\Bf ((n != (-1))&&(!C)) (AY [b] i λO=>Cz Yh #[.agg #[.pointer k,I l]] O λb1 U=>b1=.returned (.tuple #[])/\Q9 [b] O U/\Qz (c+1)/\AY [b] U λa1=>q [I (c+1)] a1/\u [I (c+1)] a1<u [I c] g) (Qz (c+1)/\AY [b] i λY=>q [I (c+1)] Y/\u [I (c+1)] Y<u [I c] g)) (AR [] g R (.tuple #[]))))
theorem Dh(a):Jy (D7 a) J4 #[.pointer a]:=eV [] false [(1,⟨[(14,Ri)],[],[0,13],[],[]⟩),(6,⟨[(27,Ri)],[],[0,26],[],[]⟩),(10,⟨[(42,Ri)],[],[0,3,4,26,27,40,41],[],[]⟩),(17,⟨[(68,Ri)],[],[0,67],[],[]⟩)] Tryz.func67 Qk Qk
def zgn(q s o:Int)(t:OA)(d B:Nat)(n:OA)(h A:Nat)(l k u:Int)(r:OA)(j z:Nat)(p:OA)(f y:Nat)(w:Wo)(R:RT):=NB w λv=>NB w λx=>Bf (((((q != l)||(s != k))||(o != u))||((d:Int) != (j:Int)))||((h:Int) != (f:Int))) (R (.bool false) w) (∃(e:LP) (m:LN),e [I 0]/\∀(a:Int),e [I a]->Bf (decide (a<(d:Int))) (Ix t d a/\∃b,Q1 [] w t (a.toNat*1) [I b]/\Ix r j a/\∃c,Q1 [] w r (a.toNat*1) [I c]/\((b != c)=false->Ix n h a)/\∃i,((b != c)=false->Q1 [] w n (a.toNat*1) [.bool i])/\((b != c)=false->Ix p f a)/\∃g,((b != c)=false->Q1 [] w p (a.toNat*1) [.bool g])/\Bf ((b != c)||(!(i==g))) (R (.bool false) w) (Qz (a+1)/\e [I (a+1)]/\m [I (a+1)]<m [I a])) (R (.bool true) w))
theorem zih(a b c d e f g h i j k l m n o p q r):Yw (zgn a b c d e f g h i j k l m n o p q r) Mo #[.agg #[I a,I b,I c,S d e f,S g h i],.agg #[I j,I k,I l,S m n o,S p q r]]:=pV [] false [(4,⟨[(5,Ri)],[],[2,3],[],[]⟩)] Tryz.func185 Qk Qk
def zb3(p:Bool)(B:Int)(m:ByteArray)(i r F e l Z a7 a0:Int)(a4:OA)(M N:Nat)(Y:OA)(a8 a5:Nat)(J:OA)(b a9:Nat)(d:Bool)(c:Int)(G:ByteArray)(z h t s u O T V:Int)(a2:OA)(a3 U:Nat)(a6:OA)(X a1:Nat)(K:OA)(v b0:Nat)(w:Wo)(R:RT):=NB w λQ=>NB w λP=>∃E,(((((((((!(p==d))||(B != c))||(!Zv m G))||(i != z))||(r != h))||(F != t))||(e != s))||(l != u))=false->PX [] Mo #[.agg #[I Z,I a7,I a0,S a4 M N,S Y a8 a5],.agg #[I O,I T,I V,S a2 a3 U,S a6 X a1]] w (.bool E))/\Bf ((((((((((!(p==d))||(B != c))||(!Zv m G))||(i != z))||(r != h))||(F != t))||(e != s))||(l != u))||(!E))||((b:Int) != (v:Int))) (R (.bool false) w) (∃(g:LP) (H:LN),g [I 0]/\∀(a:Int),g [I a]->Bf (decide (a<(b:Int))) (Ix J b a/\∃o A x j C,Q1 [] w J (a.toNat*5) [I o,.bool A,I x,I j,I C]/\Ix K v a/\∃k q D n f,Q1 [] w K (a.toNat*5) [I k,.bool q,I D,I n,I f]/\∃y,(∀L,((do eqGuard .neq ZD (.tmp 88) (.tmp 93) (.agg #[I o,.bool A,I x,I j,I C]) (.agg #[I k,.bool q,I D,I n,I f]); binOp .neq ZD (.agg #[I o,.bool A,I x,I j,I C]) (.agg #[I k,.bool q,I D,I n,I f])):Sem Va).run Tryz.prog L=.ok (.bool y) L)/\Bf y (R (.bool false) w) (Qz (a+1)/\g [I (a+1)]/\H [I (a+1)]<H [I a])) (R (.bool true) w))
theorem zez(a b c d e f g h i j k l m n o p q r s t u v w x y z A B C D E F G H J K L M N O):Yw (zb3 a b c d e f g h i j k l m n o p q r s t u v w x y z A B C D E F G H J K L M N O) Pr #[.agg #[.bool a,I b,.string c,I d,I e,I f,I g,I h,I i,I j,I k,S l m n,S o p q,S r s t],.agg #[.bool u,I v,.string w,I x,I y,I z,I A,I B,I C,I D,I E,S F G H,S J K L,S M N O]]:=pV [] false [(4,⟨[(5,Ri)],[],[2,3],[],[]⟩)] Tryz.func86 Qk Qk
def zgp(c9:Int)(e4:OA)(f f5:Nat)(a4:OA)(e f2:Nat)(a8:OA)(d f3:Nat)(d7:Int)(b6:OA)(q f1:Nat)(Z:OA)(B f6:Nat)(d0:OA)(v f4:Nat)(w:Wo)(R:RT):=NB w λe9=>NB w λf0=>Bf ((((c9 != d7)||((f:Int) != (q:Int)))||((e:Int) != (B:Int)))||((d:Int) != (v:Int))) (R (.bool false) w) (∃(n:LP) (b5:LN),n [I 0]/\∀(c:Int),n [I c]->Bf (decide (c<(f:Int))) (Ix e4 f c/\∃p Q t g H,Q1 [] w e4 (c.toNat*5) [.bool p,I Q,I t,I g,I H]/\Ix b6 q c/\∃h M T j z,Q1 [] w b6 (c.toNat*5) [.bool h,I M,I T,I j,I z]/\∃O,(∀c2,((do eqGuard .neq Zb (.tmp 51) (.tmp 56) (.agg #[.bool p,I Q,I t,I g,I H]) (.agg #[.bool h,I M,I T,I j,I z]); binOp .neq Zb (.agg #[.bool p,I Q,I t,I g,I H]) (.agg #[.bool h,I M,I T,I j,I z])):Sem Va).run Tryz.prog c2=.ok (.bool O) c2)/\Bf O (R (.bool false) w) (Qz (c+1)/\n [I (c+1)]/\b5 [I (c+1)]<b5 [I c])) (∃(J:LP) (c6:LN),J [I 0]/\∀(b:Int),J [I b]->Bf (decide (b<(e:Int))) (Ix a4 e b/\∃C r m D y l U u L,Q1 [] w a4 (b.toNat*9) [I C,I r,I m,I D,I y,I l,I U,I u,I L]/\Ix Z B b/\∃K P G x i F k o N,Q1 [] w Z (b.toNat*9) [I K,I P,I G,I x,I i,I F,I k,I o,I N]/\∃E,(∀e5,((do eqGuard .neq QO (.tmp 69) (.tmp 74) (.agg #[I C,I r,I m,I D,I y,I l,I U,I u,I L]) (.agg #[I K,I P,I G,I x,I i,I F,I k,I o,I N]); binOp .neq QO (.agg #[I C,I r,I m,I D,I y,I l,I U,I u,I L]) (.agg #[I K,I P,I G,I x,I i,I F,I k,I o,I N])):Sem Va).run Tryz.prog e5=.ok (.bool E) e5)/\Bf E (R (.bool false) w) (Qz (b+1)/\J [I (b+1)]/\c6 [I (b+1)]<c6 [I b])) (∃(s:LP) (d2:LN),s [I 0]/\∀(a:Int),s [I a]->Bf (decide (a<(d:Int))) (Ix a8 d a/\∃(b7:Bool) (c7:Int) (a0:ByteArray) (b0 b3 c0 e3 a6 a5 Y c3:Int) (c4:OA) (X e6:Nat) (e2:OA) (b2 a9:Nat) (a2:OA) (e1 e7:Nat),Q1 [] w a8 (a.toNat*14) [.bool b7,I c7,.string a0,I b0,I b3,I c0,I e3,I a6,I a5,I Y,I c3,S c4 X e6,S e2 b2 a9,S a2 e1 e7]/\Ix d0 v a/\∃(d8:Bool) (e8:Int) (a7:ByteArray) (c1 a1 c5 d3 b9 b1 d6 c8:Int) (V:OA) (d5 d1:Nat) (e0:OA) (d4 d9:Nat) (b8:OA) (a3 b4:Nat),Q1 [] w d0 (a.toNat*14) [.bool d8,I e8,.string a7,I c1,I a1,I c5,I d3,I b9,I b1,I d6,I c8,S V d5 d1,S e0 d4 d9,S b8 a3 b4]/\∃A,PX [] Pr #[.agg #[.bool b7,I c7,.string a0,I b0,I b3,I c0,I e3,I a6,I a5,I Y,I c3,S c4 X e6,S e2 b2 a9,S a2 e1 e7],.agg #[.bool d8,I e8,.string a7,I c1,I a1,I c5,I d3,I b9,I b1,I d6,I c8,S V d5 d1,S e0 d4 d9,S b8 a3 b4]] w (.bool A)/\Bf (!A) (R (.bool false) w) (Qz (a+1)/\s [I (a+1)]/\d2 [I (a+1)]<d2 [I a])) (R (.bool true) w))))
theorem zij(a b c d e f g h i j k l m n o p q r s t):Yw (zgp a b c d e f g h i j k l m n o p q r s t) Mr #[Wv a b c d e f g h i j,Wv k l m n o p q r s t]:=pV [] false [(4,⟨[(5,Ri)],[],[2,3],[],[]⟩),(9,⟨[(6,Ri)],[],[2,3],[],[]⟩),(14,⟨[(7,Ri)],[],[2,3],[],[]⟩)] Tryz.func20 Qk Qk
def N8(p:OA)(h q:Nat)(w:Wo)(R:RT):=NB w λa=>AX [] [a] w λc=>Cz VG #[S p h q] c λr b=>∃d,r=.returned (.pointer d)/\Q9 [a] c b/\CW [a] Vm #[.pointer d] b λf n e o k j g m s i l=>AR [a] l R (Wv f n e o k j g m s i)
theorem NA(a b c):Jy (N8 a b c) TF #[S a b c]:=eV [] false [] Tryz.func26 Qk Qk
def zgo(d:OA)(b e:Nat)(a:Int)(w:Wo)(R:RT):=Bf (decide (a<(b:Int))) (Ix d b a/\∃c,Q1 [] w d (a.toNat*1) [.int .u8 c]/\Qz c/\R (I c) w) (Qz (a*37)/\(251:Int)≠0/\R (I (Int.tmod (a*37) 251)) w)
theorem zii(a b c d):Yw (zgo a b c d) Mq #[S a b c,I d]:=pV [] false [] Tryz.func27 Qk Qk
def zb2(a:OA)(w:Wo)(R:RT):=R .nilIface w
theorem zey(a):Yw (zb2 a) VD #[.pointer a]:=pV [] false [] Tryz.func101 Qk Qk
def Fg(t:Int)(q:OA)(o r:Nat)(f:OA)(C u:Nat)(h:OA)(j B:Nat)(p:Int)(w:Wo)(R:RT):=NB w λa=>∀b c,Q0 [] w c->w.heap.size<=b->c.heap[b]? = some (Obj.cells ([I p]:LV).toArray Qc (0,0))->b∉([a]:List Nat)->NB c λd=>∃e,Q1 [a] c (some (Addr.mk b 0 none)) 0 [I e]/\CVx [a] [a,d] VW #[Wv t q o r f C u h j B,I e,.bool true,.func (.func VD) #[] #[],.func (.func J1) #[] #[.pointer ((some (Addr.mk b 0 none)).map (·.add 0))]] c λg i A l s z x m y v n k=>AR [a,d] k R (.tuple #[Wv g i A l s z x m y v,I n])
theorem FN(a b c d e f g h i j k):Jy (Fg a b c d e f g h i j k) VS #[Wv a b c d e f g h i j,I k]:=eV [3] false [] Tryz.func44 Qk Qk
def zb5(h:Int)(f:OA)(b g:Nat)(d:OA)(m j:Nat)(i:OA)(n k:Nat)(e:Int)(w:Wo)(R:RT):=NB w λo=>∃a,PX [] Zz #[Wv h f b g d m j i n k] w (.bool a)/\((!a)=false->Qz ((b:Int)-1))/\∃c,((!a)=false->PX [] Qh #[I e,I 0,I ((b:Int)-1)] w (.bool c))/\Bf ((!a)||(!c)) (R (I 0) w) (∃l,PX [] Xj #[Wv h f b g d m j i n k,I e] w (I l)/\R (I l) w)
theorem ze0(a b c d e f g h i j k):Yw (zb5 a b c d e f g h i j k) Pt #[Wv a b c d e f g h i j,I k]:=pV [] false [] Tryz.func46 Qk Qk
def Ng(g:Int)(d:OA)(c f:Nat)(b:OA)(k i:Nat)(h:OA)(l j:Nat)(m:Int)(w:Wo)(R:RT):=NB w λo=>∃a,PX [] Zz #[Wv g d c f b k i h l j] w (.bool a)/\∃e,(a=true->PX [] Yl #[Wv g d c f b k i h l j,I m] w (.bool e))/\∃n,((a&&e)=true->PX [] Yr #[Wv g d c f b k i h l j,I m] w (.bool n))/\R (.bool ((a&&e)&&n)) w
theorem An(a b c d e f g h i j k):Yw (Ng a b c d e f g h i j k) TL #[Wv a b c d e f g h i j,I k]:=pV [] false [] Tryz.func47 Qk Qk
def Nh(i:Int)(f:OA)(e h:Nat)(a:OA)(c k:Nat)(j:OA)(m l:Nat)(b:Int)(w:Wo)(R:RT):=NB w λq=>∃d,PX [] Zz #[Wv i f e h a c k j m l] w (.bool d)/\∃g,((!d)=false->PX [] Yl #[Wv i f e h a c k j m l,I b] w (.bool g))/\Bf ((!d)||(!g)) (R (I 0) w) (Ix a c b/\∃o,Q1 [] w a (b.toNat*9+1) [I o]/\Ix a c b/\∃n,Q1 [] w a (b.toNat*9+4) [I n]/\∃p,PX [] Yn #[Wv i f e h a c k j m l,I o,I n] w (I p)/\R (I p) w)
theorem Ao(a b c d e f g h i j k):Yw (Nh a b c d e f g h i j k) TM #[Wv a b c d e f g h i j,I k]:=pV [] false [] Tryz.func49 Qk Qk
def Cm(m:Int)(k:OA)(c l:Nat)(h:OA)(p n:Nat)(d:OA)(g f:Nat)(i j:Int)(w:Wo)(R:RT):=NB w λq=>∃a,PX [] Zz #[Wv m k c l h p n d g f] w (.bool a)/\∃b,(a=true->PX [] ZQ #[S d g f,I i] w (.bool b))/\((a&&b)=true->Qz ((c:Int)-1))/\∃e,((a&&b)=true->PX [] Qh #[I j,I 0,I ((c:Int)-1)] w (.bool e))/\∃o,(((a&&b)&&e)=true->PX [] U3 #[Wv m k c l h p n d g f,I i,I j] w (.bool o))/\R (.bool (((a&&b)&&e)&&o)) w
theorem zaq(a b c d e f g h i j k l):Yw (Cm a b c d e f g h i j k l) Oo #[Wv a b c d e f g h i j,I k,I l]:=pV [] false [] Tryz.func50 Qk Qk
def G7(b:OA)(d:Int)(w:Wo)(R:RT):=b.isSome=true/\∃f a e,Q1 [] w b (0+1) [S f a e]/\Qz ((a:Int)-1)/\∃c,PX [] Qr #[I d,I 0,I ((a:Int)-1)] w (.bool c)/\R (.bool c) w
theorem Gh(a b):Yw (G7 a b) Xt #[.pointer a,I b]:=pV [] false [] Tryz.func78 Qk Qk
def zkt(g:OA)(d h:Nat)(w:Wo)(R:RT):=∃(e:LP) (f:LN),e [I 0,I 0]/\∀(b a:Int),e [I b,I a]->Bf (decide (a<(d:Int))) (Ix g d a/\∃c,Q1 [] w g (a.toNat*1) [I c]/\Qz (b+c)/\Qz (a+1)/\e [I (b+c),I (a+1)]/\f [I (b+c),I (a+1)]<f [I b,I a]) (R (I b) w)
theorem zmh(a b c):Yw (zkt a b c) Vr #[S a b c]:=pV [] false [(3,⟨[(3,Ri),(8,Ri)],[],[6,7],[],[]⟩)] Tryz.func211 Qk Qk
def N2(j:OA)(z:Int)(w:Wo)(R:RT):=NB w λb=>j.isSome=true/\∃y l v,Q1 [] w j (0+2) [S y l v]/\∃(i:LQ) (h:LM),(AX [] [b] w λx=>i [S none 0 0,I 0] x)/\∀(d:OA) (e f:Nat) (a:Int) c,(∀bq∈[b],bq<c.heap.size)->i [S d e f,I a] c->Bf (decide (a<(l:Int))) (∃p,PX [b] YG #[.agg #[.pointer j,I z],I a] c (.bool p)/\Bf p (∃r,PX [b] Yq #[.pointer j,I a] c (I r)/\NB c λg=>AX [b] [b,g] c λn=>n.heap[g]? = some (Obj.cells ([I r]:LV).toArray Qc (0,0))->∃q k o,∃m,(builtin .append #[Z9,Z9] Z9 #[false,false] #[S d e f,S (some (Addr.mk g 0 none)) 1 1]).run Tryz.prog n=.ok (.value (S q k o)) m/\Q9 [b,g] n m/\Qz (a+1)/\AY [b,g] m λs=>i [S q k o,I (a+1)] s/\h [S q k o,I (a+1)] s<h [S d e f,I a] c) (Qz (a+1)/\AY [b] c λu=>i [S d e f,I (a+1)] u/\h [S d e f,I (a+1)] u<h [S d e f,I a] c)) (∃t,PX [b] Vr #[S d e f] c (I t)/\AR [b] c R (I t))
theorem Nx(a b):Jy (N2 a b) YB #[.agg #[.pointer a,I b]]:=eV [] false [(3,⟨[(3,Rs),(11,Ri)],[],[1,10],[],[]⟩)] Tryz.func148 Qk Qk
def zbw(z:Int)(x:OA)(v y:Nat)(s:OA)(C A:Nat)(t:OA)(u B:Nat)(h:Int)(w:Wo)(R:RT):=∀b a,Q0 [] w a->w.heap.size<=b->a.heap[b]? = some (Obj.cells ([I z,S x v y,S s C A,S t u B]:LV).toArray Q5 (0,0))->b∉([]:List Nat)->∃j q e k o n l f m g,Q1 [] a (some (Addr.mk b 0 none)) 0 [I j,S q e k,S o n l,S f m g]/\∃c,PX [] VB #[Wv j q e k o n l f m g] a (.bool c)/\∃d,((!c)=false->PX [] Xt #[.pointer ((some (Addr.mk b 0 none)).map (·.add 0)),I h] a (.bool d))/\Bf ((!c)||(!d)) (AR [] a R (I 0)) (∃r i,PX [] QG #[.pointer ((some (Addr.mk b 0 none)).map (·.add 0)),I h] a (.agg #[.pointer r,I i])/\∃p,PX [] YB #[.agg #[.pointer r,I i]] a (I p)/\AR [] a R (I p))
theorem zc1(a b c d e f g h i j k):Jy (zbw a b c d e f g h i j k) Pq #[Wv a b c d e f g h i j,I k]:=eV [2] false [] Tryz.func51 Qk Qk
def zgm(b4:OA)(M d0:Nat)(b7:OA)(J b1:Nat)(w:Wo)(R:RT):=Bf ((decide ((M:Int)>1048576))||(decide ((J:Int)>1048576))) (AR [] w R (.bool true)) (CW [] TF #[S b4 M d0] w λz n c x m j y k o u L=>NB L λa=>∃g,PX [] Mq #[S b7 J b1,I 0] L (I g)/\(c:Int)≠0/\CVx [] [a] VS #[Wv z n c x m j y k o u,I (Int.tmod g (c:Int))] L λa3 a0 V Z a1 Q T X a5 a2 t O=>NB O λb=>CVx [a] [a,b] JN #[Wv z n c x m j y k o u,I (Int.tmod g (c:Int))] O λc9 c8 c7 b3 c3 b8 c0 b2 c5 b5 D v=>NB v λe=>∃H,((t != D)=false->PX [a,b] Mr #[Wv a3 a0 V Z a1 Q T X a5 a2,Wv c9 c8 c7 b3 c3 b8 c0 b2 c5 b5] v (.bool H))/\Bf ((t != D)||(!H)) (AR [a,b] v R (.bool false)) (∃F,((t != 0)=false->PX [a,b] Pt #[Wv z n c x m j y k o u,I (Int.tmod g (c:Int))] v (I F))/\Bf ((t != 0)||(decide (F>0))) (AR [a,b] v R (.bool true)) (∃(C:LQ) (B:LM),(AX [a,b] [a,b,e] v λc4=>C [.bool false,I 0] c4)/\∀(i:Bool) (d:Int) f,(∀bq∈[a,b,e],bq<f.heap.size)->C [.bool i,I d] f->Bf (decide (d<(j:Int))) (Ix m j d/\∃b9 a8 h b0 c2 b6 d1 c1 c6,Q1 [a,b,e] f m (d.toNat*9) [I b9,I a8,I h,I b0,I c2,I b6,I d1,I c1,I c6]/\NB f λl=>∃p,PX [a,b,e] TL #[Wv z n c x m j y k o u,I d] f (.bool p)/\(((!p)||(h==(Int.tmod g (c:Int))))=false->Ix n c h)/\∃A,(((!p)||(h==(Int.tmod g (c:Int))))=false->Q1 [a,b,e] f n (Int.toNat h*5+1) [I A])/\∃P,((((!p)||(h==(Int.tmod g (c:Int))))||(A==d))=false->PX [a,b,e] TM #[Wv z n c x m j y k o u,I d] f (I P))/\∃E,((((!p)||(h==(Int.tmod g (c:Int))))||(A==d))=false->PX [a,b,e] Zf #[I P,I (Int.tmod g (c:Int))] f (.bool E))/\Bf ((((!p)||(h==(Int.tmod g (c:Int))))||(A==d))||(!E)) (Qz (d+1)/\AX [a,b,e] [a,b,e,l] f λa6=>C [.bool i,I (d+1)] a6/\B [.bool i,I (d+1)] a6<B [.bool i,I d] f) (∃(K:LQ) (a4:LM),(AX [a,b,e] [a,b,e,l] f λa9=>K [.bool true,I a8] a9)/\∀(r:Bool) (s:Int) q,(∀bq∈[a,b,e,l],bq<q.heap.size)->K [.bool r,I s] q->Bf (decide (s>0)) (∃G,(r=true->PX [a,b,e,l] Oo #[Wv z n c x m j y k o u,I s,I (Int.tmod g (c:Int))] q (.bool G))/\Ix k o s/\∃N,Q1 [a,b,e,l] q k (s.toNat*14+1) [I N]/\AY [a,b,e,l] q λU=>K [.bool (r&&(!G)),I N] U/\a4 [.bool (r&&(!G)),I N] U<a4 [.bool r,I s] q) (Qz (d+1)/\AY [a,b,e,l] q λY=>C [.bool (i||r),I (d+1)] Y/\B [.bool (i||r),I (d+1)] Y<B [.bool i,I d] f))) (∃a7,((!i)=false->PX [a,b,e] Pq #[Wv a3 a0 V Z a1 Q T X a5 a2,I (Int.tmod g (c:Int))] f (I a7))/\AR [a,b,e] f R (.bool ((!i)||(decide (a7>0))))))))
theorem zhf(a b c d e f):Jy (zgm a b c d e f) GJ #[S a b c,S d e f]:=eV [] false [(13,⟨[(11,.bool),(12,Ri)],[],[5,6,7],[],[]⟩),(19,⟨[(14,.bool),(15,Ri)],[],[5,6,7,11,12],[],[]⟩)] Tryz.func9 Qk Qk
def zkr(f:OA)(b g:Nat)(w:Wo)(R:RT):=∃(d:LP) (e:LN),d [I 0]/\∀(a:Int),d [I a]->Bf (decide (a<(b:Int))) (Ix f b a/\∃c,Q1 [] w f (a.toNat*1) [I c]/\Bf (decide (c>50000000000000000)) (R (.bool false) w) (Qz (a+1)/\d [I (a+1)]/\e [I (a+1)]<e [I a])) (R (.bool true) w)
theorem zmg(a b c):Yw (zkr a b c) ZY #[S a b c]:=pV [] false [(2,⟨[(7,Ri)],[],[5,6],[],[]⟩)] Tryz.func196 Qk Qk
def Fk(k:OA)(w:Wo)(R:RT):=k.isSome=true/\∃a6,Q1 [] w k (0+0) [I a6]/\NB w λC=>∃a7,(∀B,Q0 [] w B->B.heap[C]? = some (Obj.cells ([I a6]:LV).toArray Qc (0,0))->PX [] ZY #[S (some (Addr.mk C 0 none)) 1 1] B (.bool a7))/\k.isSome=true/\∃U A e0,Q1 [] w k (0+1) [S U A e0]/\∃(o:LP) (n:LN),o [.bool a7,I 0]/\∀(i:Bool) (e:Int),o [.bool i,I e]->Bf (decide (e<(A:Int))) (Ix U A e/\∃c8 e8 d1 Y b0,Q1 [] w U (e.toNat*5) [.bool c8,I e8,I d1,I Y,I b0]/\NB w λb3=>(i=true->NB w λN=>∃M,(i=true->∀P,Q0 [] w P->P.heap[N]? = some (Obj.cells ([I Y,I b0]:LV).toArray Qc (0,0))->PX [] ZY #[S (some (Addr.mk N 0 none)) 2 2] P (.bool M))/\Qz (e+1)/\o [.bool (i&&M),I (e+1)]/\n [.bool (i&&M),I (e+1)]<n [.bool i,I e])/\((i=true->False)->Qz (e+1)/\o [.bool false,I (e+1)]/\n [.bool false,I (e+1)]<n [.bool i,I e])) (k.isSome=true/\∃L x b4,Q1 [] w k (0+2) [S L x b4]/\∃(v:LP) (q:LN),v [.bool i,I 0]/\∀(h:Bool) (c:Int),v [.bool h,I c]->Bf (decide (c<(x:Int))) (Ix L x c/\∃b6 e4 e9 b7 d6 a8 b2 a5 e2,Q1 [] w L (c.toNat*9) [I b6,I e4,I e9,I b7,I d6,I a8,I b2,I a5,I e2]/\NB w λc0=>(h=true->NB w λV=>∃Q,(h=true->∀O,Q0 [] w O->O.heap[V]? = some (Obj.cells ([I a8,I b2,I a5]:LV).toArray Qc (0,0))->PX [] ZY #[S (some (Addr.mk V 0 none)) 3 3] O (.bool Q))/\Qz (c+1)/\v [.bool (h&&Q),I (c+1)]/\q [.bool (h&&Q),I (c+1)]<q [.bool h,I c])/\((h=true->False)->Qz (c+1)/\v [.bool false,I (c+1)]/\q [.bool false,I (c+1)]<q [.bool h,I c])) (k.isSome=true/\∃H r c4,Q1 [] w k (0+3) [S H r c4]/\∃(p:LP) (t:LN),p [.bool h,I 0]/\∀(j:Bool) (a:Int),p [.bool j,I a]->Bf (decide (a<(r:Int))) (Ix H r a/\∃(d7:Bool) (d0:Int) (c6:ByteArray) (d8 d5 c9 b9 a4 e7 e1 d2:Int) (d4:OA) (b5 e5:Nat) (e3:OA) (c3 c1:Nat) (m:OA) (l e6:Nat),Q1 [] w H (a.toNat*14) [.bool d7,I d0,.string c6,I d8,I d5,I c9,I b9,I a4,I e7,I e1,I d2,S d4 b5 e5,S e3 c3 c1,S m l e6]/\NB w λd9=>(j=true->NB w λK=>∃a1,(j=true->∀D,Q0 [] w D->D.heap[K]? = some (Obj.cells ([I a4]:LV).toArray Qc (0,0))->PX [] ZY #[S (some (Addr.mk K 0 none)) 1 1] D (.bool a1))/\∃(s:LP) (u:LN),s [.bool (j&&a1),I 0]/\∀(g:Bool) (d:Int),s [.bool g,I d]->Bf (decide (d<(l:Int))) (Ix m l d/\∃b1 f0 a9 d3 a0,Q1 [] w m (d.toNat*5) [I b1,.bool f0,I a9,I d3,I a0]/\NB w λb8=>(g=true->NB w λG=>∃X,(g=true->∀T,Q0 [] w T->T.heap[G]? = some (Obj.cells ([I b1,I a9,I a0]:LV).toArray Qc (0,0))->PX [] ZY #[S (some (Addr.mk G 0 none)) 3 3] T (.bool X))/\Qz (d+1)/\s [.bool (g&&X),I (d+1)]/\u [.bool (g&&X),I (d+1)]<u [.bool g,I d])/\((g=true->False)->Qz (d+1)/\s [.bool false,I (d+1)]/\u [.bool false,I (d+1)]<u [.bool g,I d])) (Qz (a+1)/\p [.bool g,I (a+1)]/\t [.bool g,I (a+1)]<t [.bool j,I a]))/\((j=true->False)->∃(y:LP) (z:LN),y [.bool false,I 0]/\∀(f:Bool) (b:Int),y [.bool f,I b]->Bf (decide (b<(l:Int))) (Ix m l b/\∃a3 c5 Z c2 a2,Q1 [] w m (b.toNat*5) [I a3,.bool c5,I Z,I c2,I a2]/\NB w λc7=>(f=true->NB w λJ=>∃F,(f=true->∀E,Q0 [] w E->E.heap[J]? = some (Obj.cells ([I a3,I Z,I a2]:LV).toArray Qc (0,0))->PX [] ZY #[S (some (Addr.mk J 0 none)) 3 3] E (.bool F))/\Qz (b+1)/\y [.bool (f&&F),I (b+1)]/\z [.bool (f&&F),I (b+1)]<z [.bool f,I b])/\((f=true->False)->Qz (b+1)/\y [.bool false,I (b+1)]/\z [.bool false,I (b+1)]<z [.bool f,I b])) (Qz (a+1)/\p [.bool f,I (a+1)]/\t [.bool f,I (a+1)]<t [.bool j,I a]))) (R (.bool j) w)))
theorem Bu(a):Yw (Fk a) VV #[.pointer a]:=pV [] false [(3,⟨[(3,.bool),(23,Ri)],[],[0,21,22],[],[]⟩),(8,⟨[(3,.bool),(42,Ri)],[],[0,40,41],[],[]⟩),(13,⟨[(3,.bool),(63,Ri)],[],[61,62],[],[]⟩),(17,⟨[(3,.bool),(77,Ri)],[],[61,62,63,75,76],[],[]⟩)] Tryz.func96 Qk Qk
def zgh(d:OA)(g i:Nat)(f h:Int)(w:Wo)(R:RT):=∃(c:LP) (e:LN),c [I h]/\∀(a:Int),c [I a]->Bf (a != f) (Bf (a==0) (R (.bool false) w) (Ix d g a/\∃b,Q1 [] w d (a.toNat*14+1) [I b]/\c [I b]/\e [I b]<e [I a])) (R (.bool true) w)
theorem zic(a b c d e):Yw (zgh a b c d e) UB #[S a b c,I d,I e]:=pV [] false [(1,⟨[(2,Ri)],[],[0,1],[],[]⟩)] Tryz.func209 Qk Qk
def Ee(c:OA)(i j b:Int)(w:Wo)(R:RT):=NB w λh=>∃a,PX [] Qy #[.agg #[.pointer c,I i],I j] w (.pointer a)/\a.isSome=true/\∃o,Q1 [] w a (0+3) [I o]/\Bf (o==b) (AR [] w R (.tuple #[])) (a.isSome=true/\Xm [] w a (0+3) 1/\a.isSome=true/\∃l,Q1 [] (R9 w a (0+3) [I b]) a (0+1) [.bool l]/\Bf l (c.isSome=true/\∃s z T,Q1 [] (R9 w a (0+3) [I b]) c (0+3) [S s z T]/\Ix s z j/\∃E,Q1 [] (R9 w a (0+3) [I b]) s (j.toNat*14+1) [I E]/\∃p,PX [] Qy #[.agg #[.pointer c,I i],I E] (R9 w a (0+3) [I b]) (.pointer p)/\p.isSome=true/\∃d,Q1 [] (R9 w a (0+3) [I b]) p (0+0) [I d]/\a.isSome=true/\∃k,Q1 [] (R9 w a (0+3) [I b]) a (0+2) [I k]/\Qz (k-d)/\∃g,PX [] Uz #[I (k-d),I b] (R9 w a (0+3) [I b]) (I g)/\Qz (d+g)/\a.isSome=true/\Xm [] (R9 w a (0+3) [I b]) a (0+2) 1/\∃q,PX [] Y7 #[.agg #[.pointer c,I i]] (R9 (R9 w a (0+3) [I b]) a (0+2) [I (d+g)]) (.pointer q)/\q.isSome=true/\∃f,Q1 [] (R9 (R9 w a (0+3) [I b]) a (0+2) [I (d+g)]) q (0+1) [I f]/\((f != (-1))=true->c.isSome=true)/\∃G y H,((f != (-1))=true->Q1 [] (R9 (R9 w a (0+3) [I b]) a (0+2) [I (d+g)]) c (0+3) [S G y H])/\((f != (-1))=true->c.isSome=true)/\∃u C N,((f != (-1))=true->Q1 [] (R9 (R9 w a (0+3) [I b]) a (0+2) [I (d+g)]) c (0+2) [S u C N])/\((f != (-1))=true->Ix u C f)/\∃v,((f != (-1))=true->Q1 [] (R9 (R9 w a (0+3) [I b]) a (0+2) [I (d+g)]) u (Int.toNat f*9+1) [I v])/\∃n,((f != (-1))=true->PX [] UB #[S G y H,I j,I v] (R9 (R9 w a (0+3) [I b]) a (0+2) [I (d+g)]) (.bool n))/\Bf ((f != (-1))&&n) (AX [] [h] (R9 (R9 w a (0+3) [I b]) a (0+2) [I (d+g)]) λF=>Cz Yh #[.agg #[.pointer c,I i]] F λQ D=>Q=.returned (.tuple #[])/\Q9 [h] F D/\AR [h] D R (.tuple #[])) (AR [] (R9 (R9 w a (0+3) [I b]) a (0+2) [I (d+g)]) R (.tuple #[]))) (∃r,PX [] Y7 #[.agg #[.pointer c,I i]] (R9 w a (0+3) [I b]) (.pointer r)/\r.isSome=true/\∃e,Q1 [] (R9 w a (0+3) [I b]) r (0+1) [I e]/\((e != (-1))=true->c.isSome=true)/\∃K B M,((e != (-1))=true->Q1 [] (R9 w a (0+3) [I b]) c (0+3) [S K B M])/\((e != (-1))=true->c.isSome=true)/\∃m A O,((e != (-1))=true->Q1 [] (R9 w a (0+3) [I b]) c (0+2) [S m A O])/\((e != (-1))=true->Ix m A e)/\∃J,((e != (-1))=true->Q1 [] (R9 w a (0+3) [I b]) m (Int.toNat e*9+1) [I J])/\∃t,((e != (-1))=true->PX [] UB #[S K B M,I j,I J] (R9 w a (0+3) [I b]) (.bool t))/\Bf ((e != (-1))&&t) (AX [] [h] (R9 w a (0+3) [I b]) λx=>Cz Yh #[.agg #[.pointer c,I i]] x λP L=>P=.returned (.tuple #[])/\Q9 [h] x L/\AR [h] L R (.tuple #[])) (AR [] (R9 w a (0+3) [I b]) R (.tuple #[]))))
theorem Er(a b c d):Jy (Ee a b c d) Vk #[.agg #[.pointer a,I b],I c,I d]:=eV [] false [] Tryz.func139 Qk Qk
def Ec(l:OA)(k L:Int)(w:Wo)(R:RT):=NB w λa=>l.isSome=true/\∃u o F,Q1 [] w l (0+2) [S u o F]/\∃(n:LQ) (m:LM),(AX [] [a] w λK=>n [S none 0 0,I 0] K)/\∀(d:OA) (e f:Nat) (c:Int) b,(∀bq∈[a],bq<b.heap.size)->n [S d e f,I c] b->Bf (decide (c<(o:Int))) (Ix u o c/\∃g D h J N H O M G,Q1 [a] b u (c.toNat*9) [I g,I D,I h,I J,I N,I H,I O,I M,I G]/\NB b λj=>(((g==1)&&(h==k))=true->l.isSome=true)/\∃z x E,(((g==1)&&(h==k))=true->Q1 [a] b l (0+3) [S z x E])/\∃q,(((g==1)&&(h==k))=true->PX [a] UB #[S z x E,I L,I D] b (.bool q))/\Bf (((g==1)&&(h==k))&&q) (∃y,PX [a] Yq #[.pointer l,I c] b (I y)/\NB b λi=>AX [a] [a,j,i] b λs=>s.heap[i]? = some (Obj.cells ([I y]:LV).toArray Qc (0,0))->∃v p t,∃r,(builtin .append #[Z9,Z9] Z9 #[false,false] #[S d e f,S (some (Addr.mk i 0 none)) 1 1]).run Tryz.prog s=.ok (.value (S v p t)) r/\Q9 [a,j,i] s r/\Qz (c+1)/\AY [a,j,i] r λA=>n [S v p t,I (c+1)] A/\m [S v p t,I (c+1)] A<m [S d e f,I c] b) (Qz (c+1)/\AX [a] [a,j] b λC=>n [S d e f,I (c+1)] C/\m [S d e f,I (c+1)] C<m [S d e f,I c] b)) (∃B,PX [a] Vr #[S d e f] b (I B)/\AR [a] b R (I B))
theorem Ep(a b c):Jy (Ec a b c) Vj #[.agg #[.pointer a,I b],I c]:=eV [] false [(3,⟨[(5,Rs),(14,Ri)],[],[1,2,12,13],[],[]⟩)] Tryz.func210 Qk Qk
def Fp(j:OA)(A o:Int)(w:Wo)(R:RT):=NB w λa=>j.isSome=true/\∃D s E,Q1 [] w j (0+1) [S D s E]/\∃(m:LQ) (u:LM),(AX [] [a] w λC=>m [S none 0 0,I 0] C)/\∀(f:OA) (h k:Nat) (c:Int) b,(∀bq∈[a],bq<b.heap.size)->m [S f h k,I c] b->Bf (decide (c<(s:Int))) (∃B y,PX [a] QG #[.pointer j,I c] b (.agg #[.pointer B,I y])/\∃v,PX [a] Vj #[.agg #[.pointer B,I y],I o] b (I v)/\NB b λe=>AX [a] [a,e] b λq=>q.heap[e]? = some (Obj.cells ([I v]:LV).toArray Qc (0,0))->∃t l r,∃p,(builtin .append #[Z9,Z9] Z9 #[false,false] #[S f h k,S (some (Addr.mk e 0 none)) 1 1]).run Tryz.prog q=.ok (.value (S t l r)) p/\Q9 [a,e] q p/\Qz (c+1)/\AY [a,e] p λz=>m [S t l r,I (c+1)] z/\u [S t l r,I (c+1)] z<u [S f h k,I c] b) (j.isSome=true/\∃n x F,Q1 [a] b j (0+3) [S n x F]/\Ix n x o/\∃g,Q1 [a] b n (o.toNat*14+3) [I g]/\∃d,PX [a] Vr #[S f h k] b (I d)/\Bf (d==0) (AR [a] b R (I g)) (Ix f h A/\∃i,Q1 [a] b f (A.toNat*1) [I i]/\Qz (g*i)/\(d≠0/\Qz (Int.tdiv (g*i) d))/\AR [a] b R (I (if (Int.tdiv (g*i) d)>1 then (Int.tdiv (g*i) d) else 1))))
theorem FP(a b c):Jy (Fp a b c) VX #[.agg #[.pointer a,I b],I c]:=eV [] false [(3,⟨[(5,Rs),(15,Ri)],[],[1,2,14],[],[]⟩)] Tryz.func140 Qk Qk
def D4(c:Int)(w:Wo)(R:RT):=∃b,PX [] Qr #[I c,I 1,I 4] w (.bool b)/\Bf (!b) (R (I 0) w) (∃(d:LP) (e:LN),d [I 0]/\∀(a:Int),d [I a]->(0<=a/\Qz (1*2 ^ (min (a.toNat) 64)))/\Bf (decide (1*2 ^ (min (a.toNat) 64)<c)) (Qz (a+1)/\d [I (a+1)]/\e [I (a+1)]<e [I a]) (R (I a) w))
theorem Dw(a):Yw (D4 a) J2 #[I a]:=pV [] false [(4,⟨[(3,Ri)],[],[0],[],[]⟩)] Tryz.func212 Qk Qk
def Da(j:OA)(i l:Int)(w:Wo)(R:RT):=∀a c,Q0 [] w c->w.heap.size<=a->c.heap[a]? = some (Obj.cells ([.pointer j,I i]:LV).toArray zm1 (0,0))->a∉([]:List Nat)->∀b e,Q0 [] c e->c.heap.size<=b->e.heap[b]? = some (Obj.cells ([I l]:LV).toArray Qc (0,0))->b∉([]:List Nat)->AY [] e λh=>Cz KQ #[.func (.func JL) #[] #[.pointer ((some (Addr.mk a 0 none)).map (·.add 0)),.pointer ((some (Addr.mk b 0 none)).map (·.add 0))],.func (.func YA) #[] #[.pointer ((some (Addr.mk a 0 none)).map (·.add 0))]] h λk d=>∃(g:Int) (f:Bool),k=.returned (.tuple #[I g,.bool f])/\Q9 [] h d/\Bf (!f) (AR [] d R (I (-1))) (AR [] d R (I g))
theorem Dj(a b c):Jy (Da a b c) UC #[.agg #[.pointer a,I b],I c]:=eV [2,3] false [] Tryz.func213 Qk Qk
def Gu(d:OA)(g a:Int)(w:Wo)(R:RT):=NB w λC=>d.isSome=true/\∃p t y,Q1 [] w d (0+2) [S p t y]/\Ix p t a/\∃n u f B E A F D z,Q1 [] w p (a.toNat*9) [I n,I u,I f,I B,I E,I A,I F,I D,I z]/\NB w λx=>Bf ((n != 1)||(f==g)) (R (.bool false) w) (∃q l,PX [] QG #[.pointer d,I f] w (.agg #[.pointer q,I l])/\NB w λH=>∃b,PX [] YG #[.agg #[.pointer q,I l],I a] w (.bool b)/\∃k,((!b)=false->PX [] Y7 #[.agg #[.pointer q,I l]] w (.pointer k))/\((!b)=false->k.isSome=true)/\∃e,((!b)=false->Q1 [] w k (0+1) [I e])/\∃v,(((!b)||(e==a))=false->PX [] XN #[.pointer d,I a] w (I v))/\∃h,(((!b)||(e==a))=false->PX [] VA #[I v,I g] w (.bool h))/\Bf (((!b)||(e==a))||(!h)) (R (.bool false) w) (∃(i:LP) (r:LN),i [I u]/\∀(c:Int),i [I c]->Bf (c != (-1)) (∃j,PX [] Jp #[.agg #[.pointer d,I g],I c] w (.bool j)/\Bf j (R (.bool false) w) (d.isSome=true/\∃m s G,Q1 [] w d (0+3) [S m s G]/\Ix m s c/\∃o,Q1 [] w m (c.toNat*14+1) [I o]/\i [I o]/\r [I o]<r [I c])) (R (.bool true) w)))
theorem Hi(a b c):Yw (Gu a b c) XR #[.agg #[.pointer a,I b],I c]:=pV [] false [(8,⟨[(7,Ri)],[],[2],[],[]⟩)] Tryz.func214 Qk Qk
def N3(c:OA)(q:Int)(w:Wo)(R:RT):=NB w λA=>∃d,PX [] YB #[.agg #[.pointer c,I q]] w (I d)/\c.isSome=true/\∃D s F,Q1 [] w c (0+1) [S D s F]/\∃n,PX [] J2 #[I (s:Int)] w (I n)/\∃(i:LP) (g:LN),i [I 0]/\∀(b:Int),i [I b]->Bf (decide (b<n)) (∃f,PX [] UC #[.agg #[.pointer c,I q],I b] w (I f)/\Bf (decide (f<0)) (Qz (b+1)/\i [I (b+1)]/\g [I (b+1)]<g [I b]) (∃t r,PX [] QG #[.pointer c,I f] w (.agg #[.pointer t,I r])/\∃l,PX [] YB #[.agg #[.pointer t,I r]] w (I l)/\c.isSome=true/\∃p j v,Q1 [] w c (0+2) [S p j v]/\∃(m:LP) (h:LN),m [I 0]/\∀(a:Int),m [I a]->Bf (decide (a<(j:Int))) (Ix p j a/\∃B C k z E y H G x,Q1 [] w p (a.toNat*9) [I B,I C,I k,I z,I E,I y,I H,I G,I x]/\NB w λu=>∃o,((k != f)=false->PX [] XR #[.agg #[.pointer c,I q],I a] w (.bool o))/\Bf ((k != f)||(!o)) (Qz (a+1)/\m [I (a+1)]/\h [I (a+1)]<h [I a]) (∃e,PX [] Yq #[.pointer c,I a] w (I e)/\((d==0)=false->Qz (d+e))/\((d==0)=false->Qz (l-e))/\Bf ((d==0)||(decide (d+e<=l-e))) (R (.tuple #[I a,.bool true]) w) (Qz (a+1)/\m [I (a+1)]/\h [I (a+1)]<h [I a]))) (Qz (b+1)/\i [I (b+1)]/\g [I (b+1)]<g [I b]))) (R (.tuple #[I 0,.bool false]) w)
theorem Ah(a b):Yw (N3 a b) Tw #[.agg #[.pointer a,I b]]:=pV [] false [(3,⟨[(20,Ri)],[],[1,4,19],[],[]⟩),(9,⟨[(39,Ri)],[],[1,4,6,7,19,20,37,38],[],[]⟩)] Tryz.func141 Qk Qk
def D3(d n:OA)(l:Int)(K:OA)(w:Wo)(R:RT):=NB w λa=>∃(g:LQ) (f:LM),(AX [] [a] w λF=>g [I 1] F)/\∀(b:Int) c,(∀bq∈[a],bq<c.heap.size)->g [I b] c->Bf (decide (b<8)) (d.isSome=true/\∃j q J,Q1 [a] c d (0+3) [S j q J]/\Ix j q b/\∃m,Q1 [a] c j (b.toNat*14+0) [.bool m]/\Bf m (∃u,PX [a] VX #[.agg #[.pointer n,I l],I b] c (I u)/\AY [a] c λv=>Cz Vk #[.agg #[.pointer n,I l],I b,I u] v λH C=>H=.returned (.tuple #[])/\Q9 [a] v C/\Qz (b+1)/\AY [a] C λt=>g [I (b+1)] t/\f [I (b+1)] t<f [I b] c) (Qz (b+1)/\AY [a] c λA=>g [I (b+1)] A/\f [I (b+1)] A<f [I b] c)) (AY [a] c λp=>Cz J4 #[.pointer d] p λG e=>G=.returned (.tuple #[])/\Q9 [a] p e/\∃h i,PX [a] Tw #[.agg #[.pointer n,I l]] e (.tuple #[I h,.bool i])/\Bf i (d.isSome=true/\∃k r D,Q1 [a] e d (0+2) [S k r D]/\Ix k r h/\∃o,Q1 [a] e k (Int.toNat h*9+1) [I o]/\∃s,Q1 [a] e K 0 [I s]/\AY [a] e λy=>Cz Tu #[.pointer d,I h,I o,I s] y λL x=>L=.returned (.tuple #[])/\Q9 [a] y x/\AY [a] x λB=>Cz J4 #[.pointer d] B λE z=>E=.returned (.tuple #[])/\Q9 [a] B z/\AR [a] z R (.tuple #[])) (AR [a] e R (.tuple #[])))
theorem Dg(a b c d):Jy (D3 a b c d) J1 #[.pointer a,.agg #[.pointer b,I c],.pointer d]:=eV [] false [(2,⟨[(5,Ri)],[],[0,2,4],[],[]⟩)] Tryz.func138 Qk Qk
def D9(b k C G B:OA)(w:Wo)(R:RT):=∃r,Q1 [] w k 0 [I r]/\∃d,PX [] Xt #[.pointer b,I r] w (.bool d)/\Bf (!d) (AR [] w R (.iface Zp (.agg #[I 1]))) (b.isSome=true/\∃g x E,Q1 [] w b (0+1) [S g x E]/\∃j,Q1 [] w k 0 [I j]/\Ix g x j/\∃e,Q1 [] w g (Int.toNat j*5+0) [.bool e]/\∃h,Q1 [] w C 0 [.bool h]/\Bf (!(e==h)) (AR [] w R (.iface Zp (.agg #[I 6]))) (∃(v:Fn) (m:Array Va) (l:Array Va),Q1 [] w G 0 [.func v m l]/\AY [] w λt=>Tb Tryz.prog (.func v m l) [.pointer b] t λF a=>∃(c:Va),F=.returned c/\Q9 [] t a/\∃i,(∀y,((do eqGuard .neq zpd (.tmp 29) (.const .nilIface) c .nilIface; binOp .neq zpd c .nilIface):Sem Va).run Tryz.prog y=.ok (.bool i) y)/\Bf i (AR [] a R c) (∃f,PX [] VV #[.pointer b] a (.bool f)/\Bf (!f) (AR [] a R (.iface Zp (.agg #[I 10]))) (∃(s:Fn) (n:Array Va) (p:Array Va),Q1 [] a B 0 [.func s n p]/\∃o,Q1 [] a k 0 [I o]/\∃A q,PX [] QG #[.pointer b,I o] a (.agg #[.pointer A,I q])/\AY [] a λu=>Tb Tryz.prog (.func s n p) [.pointer b,.agg #[.pointer A,I q]] u λD z=>D=.returned (.tuple #[])/\Q9 [] u z/\AR [] z R .nilIface))))
theorem Di(a b c d e):Jy (D9 a b c d e) J5 #[.pointer a,.pointer b,.pointer c,.pointer d,.pointer e]:=eV [] false [] Tryz.func163 Qk Qk
def KJ(m:Fn)(o:Array Va)(q:Array Va)(l:OA)(w:Wo)(R:RT):=∃(e:LQ) (d:LM),(AY [] w λp=>e [I 0] p)/\∀(a:Int) b,(∀bq∈([]:List Nat),bq<b.heap.size)->e [I a] b->Bf (decide (a<4)) (∃h,Q1 [] b l 0 [I h]/\∃c,PX [] JJ #[I h,I a] b (.bool c)/\(c=true->AY [] b λi=>Tb Tryz.prog (.func m o q) [I a] i λn f=>∃g,n=.returned (.bool g)/\Q9 [] i f/\Bf (c&&(!g)) (AR [] f R (.tuple #[])) (Qz (a+1)/\AY [] f λk=>e [I (a+1)] k/\d [I (a+1)] k<d [I a] b))/\((c=true->False)->Bf false (AR [] b R (.tuple #[])) (Qz (a+1)/\AY [] b λj=>e [I (a+1)] j/\d [I (a+1)] j<d [I a] b))) (AR [] b R (.tuple #[]))
theorem KP(a b c d):Jy (KJ a b c d) Z5 #[.func a b c,.pointer d]:=eV [] false [(1,⟨[(4,Ri)],[],[0,1],[],[]⟩)] Tryz.func233 Qk Qk
def N5(l o b:Int)(w:Wo)(R:RT):=NB w λp=>NB w λn=>∃(j:LP) (m:LN),j [I 0,.bool false,.bool false,.bool false,.bool false]/\∀(a:Int) (c f e d:Bool),j [I a,.bool c,.bool f,.bool e,.bool d]->Bf (decide (a<l)) (Qz (b+1)/\0<=b+1/\Qz (b+1)/\0<=b+1/\(0<=a/\a<(4:Int))/\(a.toNat+0<4)/\∃g k h i,([.bool c,.bool f,.bool e,.bool d]:LV).set (a.toNat+0) (.bool ((Int.fdiv a (2 ^ (min (Int.toNat (b+1)) 64)))==(Int.fdiv o (2 ^ (min (Int.toNat (b+1)) 64)))))=[.bool g,.bool k,.bool h,.bool i]/\Qz (a+1)/\j [I (a+1),.bool g,.bool k,.bool h,.bool i]/\m [I (a+1),.bool g,.bool k,.bool h,.bool i]<m [I a,.bool c,.bool f,.bool e,.bool d]) (R (.agg #[.bool c,.bool f,.bool e,.bool d]) w)
theorem Ai(a b c):Yw (N5 a b c) Tz #[I a,I b,I c]:=pV [] false [(3,⟨[(10,Ri)],[(1,[.bool,.bool,.bool,.bool])],[1,2,6,7,9],[],[]⟩)] Tryz.func274 Qk Qk
def Fh(e m p:Int)(w:Wo)(R:RT):=∃c,PX [] Qr #[I e,I 1,I 4] w (.bool c)/\((!c)=false->Qz (e-1))/\∃d,((!c)=false->PX [] Qr #[I m,I 0,I (e-1)] w (.bool d))/\∃h,(((!c)||(!d))=false->PX [] J2 #[I e] w (I h))/\(((!c)||(!d))=false->Qz (h-1))/\∃j,(((!c)||(!d))=false->PX [] Qr #[I p,I 0,I (h-1)] w (.bool j))/\Bf (((!c)||(!d))||(!j)) (R (I 0) w) (∃k o n l,PX [] Tz #[I e,I m,I p] w (.agg #[.bool k,.bool o,.bool n,.bool l])/\∃(g:LP) (f:LN),g [I 0,I 0]/\∀(b a:Int),g [I b,I a]->Bf (decide (a<4)) (∃i,(0<=a/\a<(4:Int)/\(#[.bool k,.bool o,.bool n,.bool l]:Array Va)[Int.toNat a]? = some (.bool i))/\Bf i ((0<=a/\Qz (1*2 ^ (min (a.toNat) 64)))/\Qz (a+1)/\g [I (Tg .or .i64 b (1*2 ^ (min (a.toNat) 64))),I (a+1)]/\f [I (Tg .or .i64 b (1*2 ^ (min (a.toNat) 64))),I (a+1)]<f [I b,I a]) (Qz (a+1)/\g [I b,I (a+1)]/\f [I b,I (a+1)]<f [I b,I a])) (R (I b) w))
theorem Br(a b c):Yw (Fh a b c) VT #[I a,I b,I c]:=pV [] false [(5,⟨[(7,Ri),(32,Ri)],[],[31],[],[]⟩)] Tryz.func256 Qk Qk
def Ga(j k:Int)(a:OA)(w:Wo)(R:RT):=a.isSome=true/\∃e,Q1 [] w a 0 [.pointer e]/\∃i g,PX [] QG #[.pointer e,I j] w (.agg #[.pointer i,I g])/\∃b,PX [] YB #[.agg #[.pointer i,I g]] w (I b)/\a.isSome=true/\∃h,Q1 [] w a 0 [.pointer h]/\∃c d,PX [] QG #[.pointer h,I k] w (.agg #[.pointer c,I d])/\∃f,PX [] YB #[.agg #[.pointer c,I d]] w (I f)/\R (.bool (decide (b>f))) w
theorem Gj(a b c):Yw (Ga a b c) YA #[I a,I b,.pointer c]:=pV [] false [] Tryz.func257 Qk Qk
noncomputable def PL(l:Option Nat):UQ:={ P:=Tryz.prog,T:=Ta zvn,pf:=zvx,ef:=zvu,tt:=zzv,vis:=[3,6,7],n:=22,pm:=false,wr:=false,rd:=l }
noncomputable def DE:List (Nat×Yi):=[]
noncomputable def Xs:List Code:=[cL ((JH Tryz.f198)),cL (cR ((JH Tryz.f198))),cL (cR (cR ((JH Tryz.f198))))]
def PH(h:Fn)(j:Array Va)(i:Array Va)(w:Wo)(R:Exit->List Va->Wo->Prop):Prop:= (∀e f,Q0 [] w f->w.heap.size<=e->f.heap[e]? = some (Obj.cells ([.func h j i]:List Va).toArray 59 (0,0))->e∉([]:List Nat)->(∀c b,Q0 [] f b->f.heap.size<=c->b.heap[c]? = some (Obj.cells ([I 0]:List Va).toArray Qc (0,0))->c∉([]:List Nat)->(∀a d,Q0 [] b d->b.heap.size<=a->d.heap[a]? = some (Obj.cells ([.bool false]:List Va).toArray Yg (0,0))->a∉([]:List Nat)->Xm [] d (some (Addr.mk a 0 none)) 0 1/\(∀g,Q0 [] (R9 d (some (Addr.mk a 0 none)) 0 [.bool false]) g->R .normal [.pointer ((some (Addr.mk e 0 none)).map (·.add 0)),.pointer ((some (Addr.mk c 0 none)).map (·.add 0)),.pointer ((some (Addr.mk a 0 none)).map (·.add 0))] g))))
theorem DH(l:Option Nat)(pZ:Fn)(pY:Array Va)(p':Array Va)(w:Wo)(R:Exit->List Va->Wo->Prop):z4s (PL l) DE Xs (UF [(1,.func pZ pY p')]) w (KR [3,6,7] R)=PH pZ pY p' w R:=Qk
theorem Dq(l:Option Nat)(pZ:Fn)(pY:Array Va)(p':Array Va){w:Wo}{R:Exit->List Va->Wo->Prop}{X:Code}{Q:Exit->Act->Wo->Prop}{a:Act}(hn:a.tmps.size=22)(sZ:GP [(1,.func pZ pY p')] a)(hvc:PH pZ pY p' w R)(hX:∀vs a1 w1,R .normal vs w1->zrt (Pn Xs) [3,6,7] a a1 vs->X.wpIn (Tk l) 0 Tryz.prog Q a1 w1)(hQ:∀e vs a1 w1,e≠.normal->R e vs w1->zrt (Pn Xs) [3,6,7] a a1 vs->Q e a1 w1):(zra Xs X).wpIn (Tk l) 0 Tryz.prog Q a w:=
 z2d (C:=PL l) (zzs _ _ _ _ _) hn sZ (by rw[DH]; exact hvc) hX hQ
noncomputable def PK(l:Option Nat):UQ:={ P:=Tryz.prog,T:=Ta zvn,pf:=zvx,ef:=zvu,tt:=zzv,vis:=[],n:=22,pm:=false,wr:=false,rd:=l }
noncomputable def DD:List (Nat×Yi):=[]
noncomputable def Jl:Code:=(cL (cL (cR (cR (cR ((JH Tryz.f198)))))))
def PG(d:Fn)(c:Array Va)(b:Array Va)(w:Wo)(R:Exit->List Va->Wo->Prop):Prop:= (∀a,Q0 [] w a->R .normal [.func d c b] a)
theorem DG(l:Option Nat)(vH:Fn)(vG:Array Va)(vI:Array Va)(w:Wo)(R:Exit->List Va->Wo->Prop):NH (PK l) DD Jl (UF [(0,.func vH vG vI)]) w (KR [9] R)=PG vH vG vI w R:=Qk
theorem Dp(l:Option Nat)(vH:Fn)(vG:Array Va)(vI:Array Va){w:Wo}{R:Exit->List Va->Wo->Prop}{Q:Exit->Act->Wo->Prop}{a:Act}(hn:a.tmps.size=22)(sZ:GP [(0,.func vH vG vI)] a)(hvc:PG vH vG vI w R)(hQ:∀e vs a1 w1,R e vs w1->zrt (Xo Jl) [9] a a1 vs->Q e a1 w1):Jl.wpIn (Tk l) 0 Tryz.prog Q a w:=
 zjo (C:=PK l) (zzs _ _ _ _ _) hn sZ (by rw[DG]; exact hvc) hQ
noncomputable def PJ(l:Option Nat):UQ:={ P:=Tryz.prog,T:=Ta zvn,pf:=zvx,ef:=zvu,tt:=zzv,vis:=[],n:=22,pm:=false,wr:=false,rd:=l }
noncomputable def DC:List (Nat×Yi):=[]
noncomputable def Jk:Code:=(z50 (cB (cR (cL (cR (cR (cR ((JH Tryz.f198)))))))))
def PF(b:Int)(w:Wo)(R:Exit->List Va->Wo->Prop):Prop:= (∀a,Q0 [] w a->R .normal [I b] a)
theorem DF(l:Option Nat)(x:Int)(w:Wo)(R:Exit->List Va->Wo->Prop):NH (PJ l) DC Jk (UF [(10,.int .i64 x)]) w (KR [8] R)=PF x w R:=Qk
theorem Do(l:Option Nat)(x:Int){w:Wo}{R:Exit->List Va->Wo->Prop}{Q:Exit->Act->Wo->Prop}{a:Act}(hn:a.tmps.size=22)(sZ:GP [(10,.int .i64 x)] a)(hvc:PF x w R)(hQ:∀e vs a1 w1,R e vs w1->zrt (Xo Jk) [8] a a1 vs->Q e a1 w1):Jk.wpIn (Tk l) 0 Tryz.prog Q a w:=
 zjo (C:=PJ l) (zzs _ _ _ _ _) hn sZ (by rw[DF]; exact hvc) hQ
noncomputable def P6(l:Option Nat):UQ:={ P:=Tryz.prog,T:=Ta zvn,pf:=zvx,ef:=zvu,tt:=zzv,vis:=[],n:=22,pm:=false,wr:=false,rd:=l }
noncomputable def Hk:List (Nat×Yi):=[]
noncomputable def J9:Code:=(z51 (cB (cR (cL (cR (cR (cR ((JH Tryz.f198)))))))))
def P2(q b d:OA)(e:Int)(w:Wo)(R:Exit->List Va->Wo->Prop):Prop:= (∃(a:Bool),Q1 [] w d 0 [.bool a]/\(∃(g:Fn) (i:Array Va) (j:Array Va),((!a)=false->Q1 [] w q 0 [.func g i j])/\(∃(k:Int),((!a)=false->Q1 [] w b 0 [I k])/\((!a)=false->(AY [] w λm=>Tb Tryz.prog (.func g i j) [I e,I k] m λp c=>(∃(f:Bool),p=.returned (.bool f)/\Q9 [] m c/\(((!a)||f)=true->Xm [] c b 0 1/\Xm [] (R9 c b 0 [I e]) d 0 1/\(∀h,Q0 [] (R9 (R9 c b 0 [I e]) d 0 [.bool true]) h->R .normal [] h))/\(((!a)||f)=false->(∀n,Q0 [] c n->R .normal [] n)))))/\(((!a)=false->False)->(true=true->Xm [] w b 0 1/\Xm [] (R9 w b 0 [I e]) d 0 1/\(∀o,Q0 [] (R9 (R9 w b 0 [I e]) d 0 [.bool true]) o->R .normal [] o))/\(true=false->(∀l,Q0 [] w l->R .normal [] l))))))
theorem Hq(l:Option Nat)(before:OA)(aY:OA)(bI:OA)(x:Int)(w:Wo)(R:Exit->List Va->Wo->Prop):NH (P6 l) Hk J9 (UF [(3,.pointer before),(6,.pointer aY),(7,.pointer bI),(8,.int .i64 x)]) w (KR [] R)=P2 before aY bI x w R:=Qk
theorem GL(l:Option Nat)(before:OA)(aY:OA)(bI:OA)(x:Int){w:Wo}{R:Exit->List Va->Wo->Prop}{Q:Exit->Act->Wo->Prop}{a:Act}(hn:a.tmps.size=22)(sZ:GP [(3,.pointer before),(6,.pointer aY),(7,.pointer bI),(8,.int .i64 x)] a)(hvc:P2 before aY bI x w R)(hQ:∀e vs a1 w1,R e vs w1->zrt (Xo J9) [] a a1 vs->Q e a1 w1):J9.wpIn (Tk l) 0 Tryz.prog Q a w:=
 zjo (C:=P6 l) (zzs _ _ _ _ _) hn sZ (by rw[Hq]; exact hvc) hQ
noncomputable def P7(l:Option Nat):UQ:={ P:=Tryz.prog,T:=Ta zvn,pf:=zvx,ef:=zvu,tt:=zzv,vis:=[],n:=22,pm:=false,wr:=false,rd:=l }
noncomputable def Hl:List (Nat×Yi):=[]
noncomputable def Ja:Code:=(cR (cR (cR (cR ((JH Tryz.f198))))))
def P3(e d:OA)(w:Wo)(R:Exit->List Va->Wo->Prop):Prop:= (∃(c:Int),Q1 [] w e 0 [I c]/\(∃(a:Bool),Q1 [] w d 0 [.bool a]/\(∀b,Q0 [] w b->R .ret [I c,.bool a] b)))
theorem Hr(l:Option Nat)(aY:OA)(bI:OA)(w:Wo)(R:Exit->List Va->Wo->Prop):NH (P7 l) Hl Ja (UF [(6,.pointer aY),(7,.pointer bI)]) w (KR [4,5] R)=P3 aY bI w R:=Qk
theorem GM(l:Option Nat)(aY:OA)(bI:OA){w:Wo}{R:Exit->List Va->Wo->Prop}{Q:Exit->Act->Wo->Prop}{a:Act}(hn:a.tmps.size=22)(sZ:GP [(6,.pointer aY),(7,.pointer bI)] a)(hvc:P3 aY bI w R)(hQ:∀e vs a1 w1,R e vs w1->zrt (Xo Ja) [4,5] a a1 vs->Q e a1 w1):Ja.wpIn (Tk l) 0 Tryz.prog Q a w:=
 zjo (C:=P7 l) (zzs _ _ _ _ _) hn sZ (by rw[Hr]; exact hvc) hQ
noncomputable def V8(l:Option Nat):UQ:={ P:=Tryz.prog,T:=Ta zvn,pf:=zvx,ef:=zvu,tt:=zzv,vis:=[3],n:=44,pm:=false,wr:=false,rd:=l }
noncomputable def K4:List (Nat×Yi):=[]
noncomputable def Ya:List Code:=[cL ((JH Tryz.f255)),cL (cR ((JH Tryz.f255)))]
def V6(o:Fn)(p:Array Va)(u:Array Va)(c r:OA)(w:Wo)(R:Exit->List Va->Wo->Prop):Prop:= (∀b a,Q0 [] w a->w.heap.size<=b->a.heap[b]? = some (Obj.cells ([.func o p u]:List Va).toArray 82 (0,0))->b∉([]:List Nat)->c.isSome=true/\(∃(d:OA),Q1 [] a c 0 [.pointer d]/\d.isSome=true/\(∃(q:OA) (n s:Nat),Q1 [] a d (0+1) [S q n s]/\c.isSome=true/\(∃(e:Int),Q1 [] a c 1 [I e]/\(∃(m:Int),Q1 [] a r 0 [I m]/\(∃(j:Int),PX [] VT #[I (n:Int),I e,I m] a (I j)/\(AY [] a λh=>Cz JK #[I j] h λt f=>(∃(g:Fn) (i:Array Va) (l:Array Va),t=.returned (.func g i l)/\Q9 [] h f/\(∀k,Q0 [] f k->R .normal [.func g i l,.pointer ((some (Addr.mk b 0 none)).map (·.add 0))] k)))))))))
theorem K6(l:Option Nat)(rF:Fn)(rD:Array Va)(rG:Array Va)(x:OA)(x1:OA)(w:Wo)(R:Exit->List Va->Wo->Prop):z4s (V8 l) K4 Ya (UF [(0,.func rF rD rG),(1,.pointer x),(2,.pointer x1)]) w (KR [17,3] R)=V6 rF rD rG x x1 w R:=Qk
theorem K0(l:Option Nat)(rF:Fn)(rD:Array Va)(rG:Array Va)(x:OA)(x1:OA){w:Wo}{R:Exit->List Va->Wo->Prop}{X:Code}{Q:Exit->Act->Wo->Prop}{a:Act}(hn:a.tmps.size=44)(sZ:GP [(0,.func rF rD rG),(1,.pointer x),(2,.pointer x1)] a)(hvc:V6 rF rD rG x x1 w R)(hX:∀vs a1 w1,R .normal vs w1->zrt (Pn Ya) [17,3] a a1 vs->X.wpIn (Tk l) 0 Tryz.prog Q a1 w1)(hQ:∀e vs a1 w1,e≠.normal->R e vs w1->zrt (Pn Ya) [17,3] a a1 vs->Q e a1 w1):(zra Ya X).wpIn (Tk l) 0 Tryz.prog Q a w:=
 z2d (C:=V8 l) (zzs _ _ _ _ _) hn sZ (by rw[K6]; exact hvc) hX hQ
noncomputable def V7(l:Option Nat):UQ:={ P:=Tryz.prog,T:=Ta zvn,pf:=zvx,ef:=zvu,tt:=zzv,vis:=[],n:=44,pm:=false,wr:=false,rd:=l }
noncomputable def K3:List (Nat×Yi):=[]
noncomputable def YR:Code:=(z50 (cB (cR (cR ((JH Tryz.f255))))))
def V4(b:Int)(w:Wo)(R:Exit->List Va->Wo->Prop):Prop:= (∀a,Q0 [] w a->R .normal [I b] a)
theorem K5(l:Option Nat)(x:Int)(w:Wo)(R:Exit->List Va->Wo->Prop):NH (V7 l) K3 YR (UF [(18,.int .i64 x)]) w (KR [4] R)=V4 x w R:=Qk
theorem MZ(l:Option Nat)(x:Int){w:Wo}{R:Exit->List Va->Wo->Prop}{Q:Exit->Act->Wo->Prop}{a:Act}(hn:a.tmps.size=44)(sZ:GP [(18,.int .i64 x)] a)(hvc:V4 x w R)(hQ:∀e vs a1 w1,R e vs w1->zrt (Xo YR) [4] a a1 vs->Q e a1 w1):YR.wpIn (Tk l) 0 Tryz.prog Q a w:=
 zjo (C:=V7 l) (zzs _ _ _ _ _) hn sZ (by rw[K5]; exact hvc) hQ
noncomputable def Uw(l:Option Nat):UQ:={ P:=Tryz.prog,T:=Ta zvn,pf:=zvx,ef:=zvu,tt:=zzv,vis:=[],n:=44,pm:=false,wr:=false,rd:=l }
noncomputable def MO:List (Nat×Yi):=[(4,⟨[(25,.int .i64)],[],[1,3,4,23,24],[],[]⟩)]
noncomputable def YD:Code:=(z51 (cB (cR (cR ((JH Tryz.f255))))))
def Uu(j L:OA)(d:Int)(w:Wo)(R:Exit->List Va->Wo->Prop):Prop:= j.isSome=true/\(∃(g:OA),Q1 [] w j 0 [.pointer g]/\g.isSome=true/\(∃(m:OA) (f z:Nat),Q1 [] w g (0+2) [S m f z]/\(∃(i:List Va->Wo->Prop) (o:List Va->Wo->Nat),(AY [] w λD=>i [I 0] D)/\∀(b:Int) a,(∀bq∈([]:List Nat),bq<a.heap.size)->i [I b] a->((decide (b<(f:Int)))=true->Ix m f b/\(∃(E F e C H B J G A:Int),Q1 [] a m (Int.toNat b*9) [I E,I F,I e,I C,I H,I B,I J,I G,I A]/\(∀c,a.heap.size<=c->(∃(r:OA) (u:Int),((e==d)=true->Q1 [] a j 0 [.pointer r,I u])/\(∃(l:Bool),((e==d)=true->PX [] XR #[.agg #[.pointer r,I u],I b] a (.bool l))/\(((e==d)&&l)=true->(∃(n:Fn) (x:Array Va) (q:Array Va),Q1 [] a L 0 [.func n x q]/\(AX [] [c] a λt=>Tb Tryz.prog (.func n x q) [I d] t λK k=>(∃(h:Bool),K=.returned (.bool h)/\Q9 [c] t k/\((!h)=true->(∀s,Q0 [c] k s->R .ret [] s))/\((!h)=false->(∀y,Q0 [c] k y->R .normal [] y))))))/\(((e==d)&&l)=false->Ql .i64 (b+1)/\(AX [] [c] a λp=>i [I (b+1)] p/\o [I (b+1)] p<o [I b] a)))))))/\((decide (b<(f:Int)))=false->(∀v,Q0 [] a v->R .normal [] v)))))
theorem MU(l:Option Nat)(x:OA)(yield:OA)(other:Int)(w:Wo)(R:Exit->List Va->Wo->Prop):NH (Uw l) MO YD (UF [(1,.pointer x),(3,.pointer yield),(4,.int .i64 other)]) w (KR [] R)=Uu x yield other w R:=Qk
theorem MA(l:Option Nat)(x:OA)(yield:OA)(other:Int){w:Wo}{R:Exit->List Va->Wo->Prop}{Q:Exit->Act->Wo->Prop}{a:Act}(hn:a.tmps.size=44)(sZ:GP [(1,.pointer x),(3,.pointer yield),(4,.int .i64 other)] a)(hvc:Uu x yield other w R)(hQ:∀e vs a1 w1,R e vs w1->zrt (Xo YD) [] a a1 vs->Q e a1 w1):YD.wpIn (Tk l) 0 Tryz.prog Q a w:=
 zjo (C:=Uw l) (zzs _ _ _ _ _) hn sZ (by rw[MU]; exact hvc) hQ
theorem M7:zrr Tryz.prog Po 5 ZD 40 (⟨0,false,0,0,0⟩:LR):=Ev Qk λ_=>rfl
theorem PD:Tryz.prog.underlying Z8=some (.slice ZD):=Qk
def Zy(b:Ve)(m:MG):List Va:=[I b.IX,I b.RD,I b.Sl,.slice m.lO b.locals.length m.lC,.slice m.dO b.Ry.length m.dC]
theorem U8{a b:ByteArray}:Zv a b=true↔a=b:=by
 unfold Zv;rw[Is];constructor
 ·intro h
  have h1:∀x:ByteArray,x.toList=x.data.toList:=λx=>by
   have key:∀(n i:Nat) (r:List UInt8),n=x.size-i->ByteArray.toList.loop x i r=r.reverse++x.data.toList.drop i:=by
    intro n
    induction n with
    | zero=>
     intro i r hn;unfold ByteArray.toList.loop;rw[B' Qo,List.drop_eq_nil_iff.2 (by simp only[Array.length_toList]; show x.size<=i; omega),List.append_nil]
    | succ n ih=>
     intro i r hn;unfold ByteArray.toList.loop;have hi:i<x.data.toList.length:=by simp only[Array.length_toList]; show i<x.size; omega
     rw[C' Qo,ih (i+1) _ Qo,List.reverse_cons,List.append_assoc,List.singleton_append,List.drop_eq_getElem_cons hi]
     have:x.get! i=x.data.toList[i]:=by
      have hi':i<x.data.size:=by simpa using hi
      simp[ByteArray.get!,getElem!_pos x.data i hi']
     rw[this]
   have:=key _ 0 [] rfl
   simpa[ByteArray.toList] using this
  rw[h1,h1] at h
  cases a; cases b
  simp only at h
  congr 1
  exact Array.ext' h
 ·rintro rfl; rfl
theorem BL(a b:ByteArray):Zv a b=decide (a=b):=by
 cases h:Zv a b with
 | true=>rw[Ih (U8.1 h)]
 | false=>rw[decide_eq_false λe=>by rw[U8.2 e] at h; cases h]
def Og(p:ZX×MG):List Va:=YJ p.1 p.2
def Pi:ZX×MG:=(⟨false,0,ByteArray.empty,0,0,0,0,0,⟨0,0,0,[],[]⟩,[]⟩,⟨none,0,none,0,none,0⟩)
theorem YF:zrr Tryz.prog Og 14 QV 168 Pi:=Ev Qk λ_=>rfl
theorem PC:Tryz.prog.underlying QE=some (.slice QV):=Qk
def Qt(m:MG):List Nat:=QL m.lO++QL m.dO++QL m.sO
structure PR (base:Nat) (w:Wo) (p:ZX×MG):Prop where
 loc:V3 Jz 1 Qc base w p.2.lO p.2.lC p.1.IP.locals
 Ry:V3 MY 1 Yg base w p.2.dO p.2.dC p.1.IP.Ry
 shl:V3 Po 5 ZD base w p.2.sO p.2.sC p.1.IF
theorem PR.ext{base:Nat}{w w':Wo}{p:ZX×MG}{bs:List Nat}(h:PR base w p)(hx:Q0 bs w w')(hd:∀b∈Qt p.2,b∉bs):PR base w' p:=
 ⟨h.loc.ext hx λb hb=>hd b (by simp[Qt,hb]),h.Ry.ext hx λb hb=>hd b (by simp[Qt,hb]),h.shl.ext hx λb hb=>hd b (by simp[Qt,hb])⟩
theorem PR.Wt{base:Nat}{w w':Wo}{p:ZX×MG}(h:PR base w p)(hx:Q0 [] w w'):PR base w' p:=h.ext hx Qs
theorem PR.mono{base aC:Nat}{w:Wo}{p:ZX×MG}(h:PR base w p)(hb:aC<=base):PR aC w p:=⟨h.loc.mono hb,h.Ry.mono hb,h.shl.mono hb⟩
theorem PR.lt{base:Nat}{w:Wo}{p:ZX×MG}(h:PR base w p):∀b∈Qt p.2,base<=b/\b<w.heap.size:=by
 intro b hb;simp only[Qt,Im] at hb;rcases hb with (hb | hb) | hb
 ·exact h.loc.lt b hb
 ·exact h.Ry.lt b hb
 ·exact h.shl.lt b hb
structure Lo (base:Nat) (w:Wo) (o:OA) (cap:Nat) (ps:List (ZX×MG)):Prop where
 row:V3 Og 14 QV base w o cap ps
 each:∀i:Int,0<=i->i<(ps.length:Int)->PR base w (gi ps i)
 dj:∀i j:Int,0<=i->i<(ps.length:Int)->0<=j->j<(ps.length:Int)->i≠j->∀b∈Qt (gi ps i).2,b∉Qt (gi ps j).2
theorem Lo.mono{base aC:Nat}{w:Wo}{o:OA}{cap:Nat}{ps:List (ZX×MG)}(h:Lo base w o cap ps)(hb:aC<=base):Lo aC w o cap ps:=
 ⟨h.row.mono hb,λi a b=>(h.each i a b).mono hb,h.dj⟩
theorem JC{base:Nat}{w:Wo}{o:OA}{cap:Nat}{ps:List (ZX×MG)}(h:V3 Og 14 QV base w o cap ps){aC:Nat}{p:ZX×MG}(hp:PR aC w p):∀b∈Qt p.2,b∉QL o:=by
 intro b hb hx;simp only[Qt,Im] at hb;rcases hb with (hb | hb) | hb
 ·exact hp.loc.U' h Qd b hb hx
 ·exact hp.Ry.U' h Qd b hb hx
 ·exact hp.shl.U' h Qd b hb hx
theorem Lo.put{base:Nat}{w:Wo}{o:OA}{cap:Nat}{ps:List (ZX×MG)}(h:Lo base w o cap ps){i:Int}(h0:0<=i)(hi:i<(ps.length:Int)){p:ZX×MG}(hp:PR base w p)(hd:∀j:Int,0<=j->j<(ps.length:Int)->i≠j->∀b∈Qt (gi ps j).2,b∉Qt p.2):Lo base (R9 w o (Int.toNat i*14) (Og p)) o cap (ps.set i.toNat p):=by
 have hx:=h.row.qW (Int.toNat i*14) (Og p);have hlen:(ps.set i.toNat p).length=ps.length:=E';refine⟨?_,λj hj hjl=>?_,λj k hj hjl hk rY fN b hb fM=>?_⟩
 ·have:=h.row.R9 YF.len h0 hi (j:=0) (vs:=Og p) (x:=p) (by rw[List.take_zero,List.nil_append,List.drop_eq_nil_iff.2 (by rw[Nat.zero_add,YF.len,YF.len]; exact I7 _),List.append_nil]) (by rw[Nat.zero_add,YF.len]; exact I7 _);exact this
 ·rw[hlen] at hjl;rw[QM _ _ h0 hi hj];split
  ·exact hp.ext hx (JC h.row hp)
  ·exact(h.each j hj hjl).ext hx (JC h.row (h.each j hj hjl))
 ·rw[hlen] at hjl rY;rw[QM _ _ h0 hi hj] at hb;rw[QM _ _ h0 hi hk] at fM
  by_cases e1:i=j
  ·rw[C' e1] at hb
   by_cases e2:i=k
   ·omega
   ·rw[B' e2] at fM;exact hd k hk rY e2 b fM hb
  ·rw[B' e1] at hb
   by_cases e2:i=k
   ·rw[C' e2] at fM;exact hd j hj hjl e1 b hb fM
   ·rw[B' e2] at fM;exact h.dj j k hj hjl hk rY fN b hb fM
theorem Ul{z:Int}(h1 : -9223372036854775808<=z)(h2:z<=9223372036854775807):Ql .i64 z:=⟨h1,h2⟩
def zkj(w:Int):Int:=Int.tdiv 232792560 w
def YP(n a b:Int):Bool:=decide (n>=a)&&decide (n<=b)
theorem Qv{n a b:Int}:YP n a b=true↔a<=n/\n<=b:=by simp[YP]
theorem z2e{n a b:Int}:YP n a b=false↔¬(a<=n/\n<=b):=by rw[<-Qv]; simp
def Ze(n w:Int):Int:=if YP n 0 100000000&&YP w 1 20 then n*zkj w else 0
def ZM(w:Int):Int:=Ze 149 w
theorem z1z:∀k:Fin 20,zkj ((k.val:Int)+1)*((k.val:Int)+1)=232792560:=Qd
theorem z10{w:Int}(h1:1<=w)(h2:w<=20):zkj w*w=232792560:=by
 have:=z1z ⟨(w-1).toNat,Qo⟩;have e:(((w-1).toNat:Nat):Int)+1=w:=Qo;simp only[e] at this;exact this
theorem zfx{w:Int}(h1:1<=w)(h2:w<=20):11639628<=zkj w/\zkj w<=232792560:=by
 have h:=z10 h1 h2
 have hp:0<=zkj w:=by
  rcases Int.lt_or_le (zkj w) 0 with hn | hn
  ·have:=Int.mul_neg_of_neg_of_pos hn (show 0<w by omega);omega
  ·exact hn
 constructor
 ·have:=Int.mul_le_mul_of_nonneg_left h2 hp;omega
 ·have:=Int.mul_le_mul_of_nonneg_left h1 hp;omega
theorem Ph{n w:Int}(h1:0<=n)(h2:n<=100000000)(h3:1<=w)(h4:w<=20):Ze n w=n*zkj w:=by
 unfold Ze;rw[C'];rw[A',Qv,Qv]; exact⟨⟨h1,h2⟩,h3,h4⟩
theorem HX{n w:Int}(h:¬(0<=n/\n<=100000000/\1<=w/\w<=20)):Ze n w=0:=by
 unfold Ze;rw[B'];rw[A',Qv,Qv]; omega
theorem zmd{n w:Int}(h1:0<=n)(h2:n<=100000000)(h3:1<=w)(h4:w<=20):0<=n*zkj w/\n*zkj w<=23279256000000000:=by
 have hs:=zfx h3 h4;refine⟨Int.mul_nonneg h1 Qo,?_⟩
 calc n*zkj w<=100000000*zkj w:=Int.mul_le_mul_of_nonneg_right h2 Qo
  _<=100000000*232792560:=Int.mul_le_mul_of_nonneg_left hs.2 Qd
  _=23279256000000000:=rfl
theorem Ht(n w:Int):0<=Ze n w/\Ze n w<=23279256000000000:=by
 by_cases h:0<=n/\n<=100000000/\1<=w/\w<=20
 ·rw[Ph h.1 h.2.1 h.2.2.1 h.2.2.2]; exact zmd h.1 h.2.1 h.2.2.1 h.2.2.2
 ·rw[HX h]; omega
theorem QC{n a b:Int}{w:Wo}{bs:List Nat}:PX bs Qr #[I n,I a,I b] w (.bool (YP n a b)):=
 zex n a b λwr hx=>by unfold Gt; rfl
theorem Qm{n a b:Int}{w:Wo}{bs:List Nat}:PX bs Qh #[I n,I a,I b] w (.bool (YP n a b)):=
 zoo n a b λwr hx=>by unfold AH; rfl
theorem Pz{n:Int}{w:Wo}{bs:List Nat}:PX bs Jq #[I n] w (.bool (YP n 1 20)):=
 zao n λwr hx=>⟨_,QC,rfl⟩
theorem JY{n:Int}{w:Wo}{bs:List Nat}:PX bs X1 #[I n] w (.bool (YP n 1 20)):=
 zaw n λwr hx=>⟨_,Qm,rfl⟩
theorem DS{n:Int}{w:Wo}{bs:List Nat}:PX bs TA #[I n] w (.bool (YP n (-10) 9)):=
 zie n λwr hx=>⟨_,QC,rfl⟩
def Tl(k j:Nat):Int:=if j<=k then zkj (j:Int) else 0
def z53(k:Nat):List Va:=[I ((k:Int)+1),I 0,I (Tl k 1),I (Tl k 2),I (Tl k 3),I (Tl k 4),I (Tl k 5),I (Tl k 6),I (Tl k 7),
 I (Tl k 8),I (Tl k 9),I (Tl k 10),I (Tl k 11),I (Tl k 12),I (Tl k 13),I (Tl k 14),I (Tl k 15),I (Tl k 16),I (Tl k 17),I (Tl k 18),I (Tl k 19),I (Tl k 20)]
theorem EE{w:Wo}{bs:List Nat}:PX bs Vl #[] w (.agg #[I 0,I (Tl 20 1),I (Tl 20 2),I (Tl 20 3),I (Tl 20 4),I (Tl 20 5),I (Tl 20 6),I (Tl 20 7),
 I (Tl 20 8),I (Tl 20 9),I (Tl 20 10),I (Tl 20 11),I (Tl 20 12),I (Tl 20 13),I (Tl 20 14),I (Tl 20 15),I (Tl 20 16),I (Tl 20 17),I (Tl 20 18),I (Tl 20 19),I (Tl 20 20)]):=
 ET λwr hx=>by
  intro _ _ _ _
  refine⟨λvs=>∃k:Nat,k<=20/\vs=z53 k,λvs=>match vs with
   | .int _ i::_=>(21-i).toNat
   | _=>0,⟨0,Qo,rfl⟩,?_⟩
  rintro i l l1 l2 l3 l4 l5 l6 l7 l8 l9 l10 l11 l12 l13 l14 l15 l16 l17 l18 l19 l20 ⟨k,hk,he⟩;simp only[z53,I4,I5,true_and,and_true] at he;obtain⟨rfl,rfl,rfl,rfl,rfl,rfl,rfl,rfl,rfl,rfl,rfl,rfl,rfl,rfl,rfl,rfl,rfl,rfl,rfl,rfl,rfl,rfl⟩:=he;constructor
  ·intro h;have h:=Ot h;refine⟨⟨Qo,?_⟩,⟨Qo,Qo⟩,Qo,?_⟩
   ·have:=zfx (w:=(k:Int)+1) Qo Qo;exact Ul (by unfold zkj at this; omega) (by unfold zkj at this; omega)
   ·refine⟨_,_,_,_,_,_,_,_,_,_,_,_,_,_,_,_,_,_,_,_,_,?_,Ul Qo Qo,⟨k+1,Qo,rfl⟩,?_⟩
    ·have:k=0\/k=1\/k=2\/k=3\/k=4\/k=5\/k=6\/k=7\/k=8\/k=9\/k=10\/k=11\/k=12\/k=13\/k=14\/k=15\/k=16\/k=17\/k=18\/k=19:=Qo;rcases this with rfl | rfl | rfl | rfl | rfl | rfl | rfl | rfl | rfl | rfl | rfl | rfl | rfl | rfl | rfl | rfl | rfl | rfl | rfl | rfl <;> rfl
    ·show (21-(((k:Int)+1)+1)).toNat<(21-((k:Int)+1)).toNat;omega
  ·intro h;have h:=Ou h;have hk:k=20:=Qo;subst hk;rfl
theorem z36{k:Int}(h1:1<=k)(h2:k<=20):(#[I 0,I (Tl 20 1),I (Tl 20 2),I (Tl 20 3),I (Tl 20 4),I (Tl 20 5),I (Tl 20 6),I (Tl 20 7),
 I (Tl 20 8),I (Tl 20 9),I (Tl 20 10),I (Tl 20 11),I (Tl 20 12),I (Tl 20 13),I (Tl 20 14),I (Tl 20 15),I (Tl 20 16),I (Tl 20 17),I (Tl 20 18),I (Tl 20 19),I (Tl 20 20)]:Array Va)[Int.toNat k]? = some (I (zkj k)):=by
 have:k=1\/k=2\/k=3\/k=4\/k=5\/k=6\/k=7\/k=8\/k=9\/k=10\/k=11\/k=12\/k=13\/k=14\/k=15\/k=16\/k=17\/k=18\/k=19\/k=20:=Qo;rcases this with rfl | rfl | rfl | rfl | rfl | rfl | rfl | rfl | rfl | rfl | rfl | rfl | rfl | rfl | rfl | rfl | rfl | rfl | rfl | rfl <;> rfl
theorem T5{n k:Int}{w:Wo}{bs:List Nat}:PX bs Xp #[I n,I k] w (I (Ze n k)):=
 EN n k λwr hx=>by
  refine⟨_,QC,_,λ_=>Pz,λh=>?_,λh=>?_⟩
  ·congr 1; unfold Ze; rw[B']; intro h2; simp only[A'] at h2; simp[h2] at h
  ·have h2:YP n 0 100000000=true/\YP k 1 20=true:=by simpa using h
   rw[Qv,Qv] at h2;have hm:=zmd h2.1.1 h2.1.2 h2.2.1 h2.2.2;refine⟨_,_,_,_,_,_,_,_,_,_,_,_,_,_,_,_,_,_,_,_,_,EE,zkj k,⟨Qo,Qo,z36 h2.2.1 h2.2.2⟩,Ul Qo Qo,?_⟩;rw[Ph h2.1.1 h2.1.2 h2.2.1 h2.2.2]
theorem GQ{k:Int}{w:Wo}{bs:List Nat}:PX bs Vz #[I k] w (I (ZM k)):=
 zeu k λwr hx=>⟨_,T5,rfl⟩
def Kd(s:ByteArray):Bool:=(((((Zv s (⟨[119,101,105,103,104,116].toArray⟩))||(Zv s (⟨[109,97,120].toArray⟩)))||(Zv s (⟨[99,112,117,115].toArray⟩)))||(Zv s (⟨[112,114,111,99,115].toArray⟩)))||(Zv s (⟨[115,116,97,116].toArray⟩)))
def zzu(x:Int):Bool:=(((decide (x>=97))&&(decide (x<=122)))||((decide (x>=48))&&(decide (x<=57))))
def UL(s:ByteArray):Bool:=YP (s.size:Int) 1 8 && !Kd s&&(List.range s.size).all λi=>zzu (Uq s (i:Int))
theorem LB{s:ByteArray}:UL s=true↔(1<=s.size/\s.size<=8)/\Kd s=false/\∀i:Nat,i<s.size->zzu (Uq s (i:Int))=true:=by
 unfold UL;simp only[A',Qv,IC,List.all_eq_true,List.mem_range];constructor
 ·rintro⟨⟨h1,h2⟩,h3⟩; exact⟨⟨Qo,Qo⟩,h2,h3⟩
 ·rintro⟨⟨h0,h1⟩,h2,h3⟩; exact⟨⟨⟨Qo,Qo⟩,h2⟩,h3⟩
theorem L5{s:ByteArray}(h:¬((1<=s.size/\s.size<=8)/\Kd s=false/\∀i:Nat,i<s.size->zzu (Uq s (i:Int))=true)):UL s=false:=by
 cases hn:UL s with
 | false=>rfl
 | true=>exact Ir (LB.1 hn) h
theorem zh0{s:ByteArray}{w:Wo}{bs:List Nat}:PX bs Mt #[.string s] w (.bool (Kd s)):=
 zis s λwr hx=>rfl
theorem DW{s:ByteArray}{w:Wo}{bs:List Nat}:PX bs TI #[.string s] w (.bool (UL s)):=
 zin s λwr hx=>by
  refine⟨_,Qm,Kd s,λ_=>zh0,λh=>?_,λh=>?_⟩
  ·rw[L5];rintro⟨h1,h2,_⟩;rw[h2,Qv.2 Qo] at h;cases h
  ·have h:YP (s.size:Int) 1 8=true/\Kd s=false:=by simpa using h
   have h1:=Qv.1 h.1;refine YV s.size 0 rfl (λk=>k<=s.size/\∀j:Nat,j<k->zzu (Uq s (j:Int))=true) ⟨Ic _,λj hj=>Ir hj (Nat.not_lt_zero j)⟩ λk ⟨hk,hI⟩=>⟨λIN=>?_,λRx=>?_⟩
   ·have IN:=Ot IN;have hr:0<=(k:Int)/\(k:Int)<(s.size:Int):=⟨Qo,IN⟩;refine⟨hr,λ_=>hr,λ_=>hr,λ_ _=>hr,λiX=>?_,λAL5=>⟨⟨Qo,Qo⟩,Qu Qo ⟨Qo,λj hj=>?_⟩⟩⟩
    ·rw[L5];rintro⟨_,_,h3⟩;have:=h3 k Qo;unfold zzu at this;rw[this] at iX;cases iX
    ·by_cases fN:j<k
     ·exact hI j fN
     ·have:j=k:=Qo;subst this;unfold zzu;rw[I6] at AL5;exact AL5
   ·have Rx:=Ou Rx;have hk:k=s.size:=Qo;subst hk;rw[LB.2 ⟨⟨Qo,Qo⟩,h.2,hI⟩]
def Q6(gs:List ZX)(g:Int):Bool:=(decide (g>=0)&&decide (g<(gs.length:Int)))&&(gi gs g).used
theorem Q4{gs:List ZX}{g:Int}:Q6 gs g=true↔0<=g/\g<(gs.length:Int)/\(gi gs g).used=true:=by
 unfold Q6;simp[and_assoc]
def dep:Nat->List ZX->Int->Int
 | 0,_,g=>if g=0 then 0 else -1
 | f+1,gs,g=>if g=0 then 0 else if dep f gs (gi gs g).parent<0 then -1 else dep f gs (gi gs g).parent+1
def Pc:Nat->List ZX->Int->Int->Int
 | 0,_,_,_ => -1
 | f+1,gs,g,n=>if Q6 gs g=false then -1 else if g=0 then n else Pc f gs (gi gs g).parent (n+1)
theorem Of(gs:List ZX):∀(f:Nat) (g:Int),-1<=dep f gs g/\dep f gs g<=f
 | 0,g=>by simp only[dep]; split <;> omega
 | f+1,g=>by
  have:=Of gs f (gi gs g).parent;simp only[dep];split
  ·omega
  ·split <;> omega
theorem GE(gs:List ZX):∀(f f':Nat) (g:Int),0<=dep f gs g->dep f gs g<=f'->dep f' gs g=dep f gs g
 | 0,f',g,h,_=>by
  simp only[dep] at h ⊢
  split at h
  ·rename_i hg
   cases f' <;> simp[dep,hg]
  ·omega
 | f+1,f',g,h,hle=>by
  simp only[dep] at h hle ⊢
  by_cases hg:g=0
  ·rw[C' hg]
   cases f' <;> simp[dep,hg]
  ·rw[B' hg] at h hle ⊢
   by_cases hd:dep f gs (gi gs g).parent<0
   ·rw[C' hd] at h; omega
   ·rw[B' hd] at hle ⊢
    cases f' with
    | zero=>omega
    | succ f'=>
     have:=GE gs f f' (gi gs g).parent Qo Qo;simp only[dep];rw[B' hg,this,B' hd]
theorem Yj(gs:List ZX)(f:Nat):dep f gs 0=0:=by cases f <;> simp[dep]
theorem zwu{gs:List ZX}{f:Nat}{g:Int}(h:dep f gs g=0):g=0:=by
 cases f with
 | zero=>simp only[dep] at h; split at h <;> first | assumption | omega
 | succ f=>
  simp only[dep] at h
  split at h
  ·assumption
  ·split at h <;> omega
structure Y8 (gs:List ZX):Prop where
 len:gs.length=8
 ru:(gi gs 0).used=true
 rp:(gi gs 0).parent = -1
 rn:(gi gs 0).name=⟨[].toArray⟩
 nm:∀g:Int,1<=g->g<8->(gi gs g).used=true->UL (gi gs g).name=true
 par:∀g:Int,1<=g->g<8->(gi gs g).used=true->Q6 gs (gi gs g).parent=true
 dp:∀g:Int,1<=g->g<8->(gi gs g).used=true->0<=dep 3 gs g
 uniq:∀g h:Int,1<=h->h<g->g<8->(gi gs g).used=true->(gi gs h).used=true->¬((gi gs h).parent=(gi gs g).parent/\(gi gs h).name=(gi gs g).name)
noncomputable def Ki(gs:List ZX):Bool:=@decide (Y8 gs) (Classical.propDecidable _)
theorem Tf{gs:List ZX}:Ki gs=true↔Y8 gs:=@decide_eq_true_iff _ (Classical.propDecidable _)
theorem BP{gs:List ZX}(h:¬Y8 gs):Ki gs=false:=by
 cases hb:Ki gs with
 | false=>rfl
 | true=>exact Ir (Tf.1 hb) h
theorem Bi{gs:List ZX}(hp:∀g:Int,g≠0->Q6 gs g=true->Q6 gs (gi gs g).parent=true):∀(f:Nat) (g n:Int),Q6 gs g=true->Pc (f+1) gs g n=if dep f gs g<0 then -1 else n+dep f gs g
 | 0,g,n,hu=>by
  simp only[Pc,dep,hu]
  by_cases hg:g=0 <;> simp[hg]
 | f+1,g,n,hu=>by
  rw[Pc];simp only[hu]
  by_cases hg:g=0
  ·simp[hg,dep]
  ·have ih:=Bi hp f (gi gs g).parent (n+1) (hp g hg hu);have hr:=Of gs f (gi gs g).parent;simp only[dep,B' hg];rw[ih]
   by_cases hd:dep f gs (gi gs g).parent<0
   ·simp[hd]
   ·have h2:¬(dep f gs (gi gs g).parent+1<0):=Qo;simp[hd,h2]; omega
theorem zuo{gs:List ZX}{f:Nat}{g n:Int}(hg:g≠0)(h:Pc (f+1) gs g n≠-1):f≠0/\Q6 gs (gi gs g).parent=true:=by
 rw[Pc] at h
 by_cases hu:Q6 gs g=false
 ·rw[C' hu] at h; exact Ir rfl h
 ·rw[B' hu,B' hg] at h
  cases f with
  | zero=>exact Ir rfl h
  | succ f=>
   rw[Pc] at h
   by_cases hp:Q6 gs (gi gs g).parent=false
   ·rw[C' hp] at h; exact Ir rfl h
   ·exact⟨Qo,by simpa using hp⟩
structure zrx (gs:List ZX) (k:Int):Prop where
 each:∀g:Int,1<=g->g<k->(gi gs g).used=true->UL (gi gs g).name=true/\YP (Pc 9 gs g 0) 1 3=true/\∀h:Int,1<=h->h<g->(gi gs h).used=true->¬((gi gs h).parent=(gi gs g).parent/\(gi gs h).name=(gi gs g).name)
theorem zvo{gs:List ZX}(hl:gs.length=8)(ru:(gi gs 0).used=true)(rp:(gi gs 0).parent = -1)(rn:(gi gs 0).name=⟨[].toArray⟩)(h:zrx gs 8):Y8 gs:=by
 have par:∀g:Int,1<=g->g<8->(gi gs g).used=true->Q6 gs (gi gs g).parent=true:=λg h1 h2 hu=>by
  have:=Qv.1 (h.each g h1 h2 hu).2.1;exact(zuo (f:=8) (n:=0) Qo (by show Pc 9 gs g 0≠-1; omega)).2
 have hp:∀g:Int,g≠0->Q6 gs g=true->Q6 gs (gi gs g).parent=true:=λg hg hu=>by
  obtain⟨a,b,c⟩:=Q4.1 hu;exact par g Qo Qo c
 refine⟨hl,ru,rp,rn,λg h1 h2 hu=>(h.each g h1 h2 hu).1,par,λg h1 h2 hu=>?_,λg k h1 h2 h3 hu hk=>(h.each g Qo h3 hu).2.2 k h1 h2 hk⟩;have h9:=Qv.1 (h.each g h1 h2 hu).2.1;rw[Bi hp 8 g 0 (Q4.2 ⟨Qo,Qo,hu⟩)] at h9
 split at h9
 ·omega
 ·rename_i hd;have:=GE gs 8 3 g Qo Qo;omega
theorem ztu{gs:List ZX}(h:Y8 gs):zrx gs 8:=by
 have hp:∀g:Int,g≠0->Q6 gs g=true->Q6 gs (gi gs g).parent=true:=λg hg hu=>by
  obtain⟨a,b,c⟩:=Q4.1 hu;have:=h.len;exact h.par g Qo Qo c
 refine⟨λg h1 h2 hu=>⟨h.nm g h1 h2 hu,?_,λk h3 h4 hk=>h.uniq g k h3 h4 h2 hu hk⟩⟩;have hl:=h.len;rw[Bi hp 8 g 0 (Q4.2 ⟨Qo,Qo,hu⟩)];have h3:=h.dp g h1 h2 hu;have hr:=Of gs 3 g;have:=GE gs 3 8 g h3 Qo;rw[this,B' Qo];have hz:dep 3 gs g≠0:=λe=>by have:=zwu e; omega
 exact Qv.2 Qo
section
variable {gs:List ZX}{ms:Nat->MG}{o:OA}{c:Nat}{w:Wo}{bs:List Nat}
theorem Lp.used(h:Lp bs w o gs ms){i:Int}(h0:0<=i)(h1:i<(gs.length:Int)):Q1 bs w o (Int.toNat i*14+0) [.bool (gi gs i).used]:=(h.cells i h0 h1).get 0 _ rfl
theorem Lp.parent(h:Lp bs w o gs ms){i:Int}(h0:0<=i)(h1:i<(gs.length:Int)):Q1 bs w o (Int.toNat i*14+1) [I (gi gs i).parent]:=(h.cells i h0 h1).get 1 _ rfl
theorem Lp.name(h:Lp bs w o gs ms){i:Int}(h0:0<=i)(h1:i<(gs.length:Int)):Q1 bs w o (Int.toNat i*14+2) [.string (gi gs i).name]:=(h.cells i h0 h1).get 2 _ rfl
theorem X8{g:Int}(h:Lp bs w o gs ms):PX bs ZQ #[.slice o gs.length c,I g] w (.bool (Q6 gs g)):=
 zit o gs.length c g λwr hx=>by
  have h:=(h.ext hx).less (cs:=[]) Qs;refine⟨λq=>?_,(gi gs g).used,λq=>?_,rfl⟩
  ·have q:0<=g/\g<(gs.length:Int):=by simpa using q
   exact h.ix q.1 q.2
  ·have q:0<=g/\g<(gs.length:Int):=by simpa using q
   exact h.used q.1 q.2
theorem MI{g:Int}(h:Lp bs w o gs ms)(hl:gs.length<maxLen):PX bs JW #[.slice o gs.length c,I g] w (I (Pc (gs.length+1) gs g 0)):=
 ze8 o gs.length c g λwr hx=>by
  have h:=(h.ext hx).less (cs:=[]) Qs;refine TX (gs.length+1) 0 rfl (λx k=>k<=gs.length+1/\Pc (gs.length+1-k) gs x k=Pc (gs.length+1) gs g 0) ⟨Qo,rfl⟩ λx k ⟨hk,he⟩=>⟨λIN=>?_,λRx=>?_⟩
  ·have IN:=Ot IN;have hf:gs.length+1-k=(gs.length-k)+1:=Qo;rw[hf,Pc] at he;refine⟨_,X8 h,λhu=>?_,λhu=>?_⟩
   ·have hu:Q6 gs x=false:=by simpa using hu
    rw[C' hu] at he;rw[<-he]
   ·have hu:Q6 gs x=true:=by simpa using hu
    rw[B' (by simp[hu])] at he;obtain⟨u1,u2,u3⟩:=Q4.1 hu;refine⟨λhz=>?_,λhz=>?_⟩
    ·rw[C' (by simpa using hz)] at he;rw[<-he]
    ·rw[B' (by simpa using hz)] at he;have hm:=XD;refine⟨h.ix u1 u2,_,h.parent u1 u2,⟨Qo,Qo⟩,QH Qo ⟨Qo,?_⟩⟩;rw[<-he,show gs.length+1-(k+1)=gs.length-k by omega];rfl
  ·have Rx:=Ou Rx;have:gs.length+1-k=0:=Qo;rw[this] at he;rw[<-he]; rfl
theorem DX(h:Lp bs w o gs ms)(hl:gs.length<=maxLen):PX bs TK #[.slice o gs.length c] w (.bool (Ki gs)):=
 zio o gs.length c λwr hx=>by
  have h:=(h.ext hx).less (cs:=[]) Qs;have l8:((((gs.length:Nat):Int) != 8)=false)->gs.length=8:=λq=>by have:=(bne_eq_false_iff_eq).1 q; omega
  have i0:∀q:(((gs.length:Nat):Int) != 8)=false,(0:Int)<(gs.length:Int):=λq=>by have:=l8 q; omega
  refine⟨λq=>h.ix (I2 _) (i0 q),(gi gs 0).used,λq=>h.used (I2 _) (i0 q),λq=>?_,(gi gs 0).parent,λq=>?_,λq=>?_,(gi gs 0).name,λq=>?_,λq=>?_,λq=>?_⟩
  ·simp only[H'] at q; exact h.ix (I2 _) (i0 q.1)
  ·simp only[H'] at q; exact h.parent (I2 _) (i0 q.1)
  ·simp only[H'] at q; exact h.ix (I2 _) (i0 q.1.1)
  ·simp only[H'] at q; exact h.name (I2 _) (i0 q.1.1)
  ·rw[BP];intro ht;have e:((gs.length:Nat):Int)=8:=by have:=ht.len; omega
   rw[e,ht.ru,ht.rp,ht.rn,BL] at q;simp at q
  ·simp only[H',I6,bne_eq_false_iff_eq,U8] at q;obtain⟨⟨⟨q1,ru⟩,rp⟩,rn⟩:=q;have hl8:gs.length=8:=Qo;refine YV 8 1 rfl (λk=>1<=k/\k<=8/\zrx gs k) ⟨I7 _,Qo,⟨λg h1 h2=>by omega⟩⟩ λk ⟨hk1,hk,hS⟩=>⟨λIN=>?_,λRx=>?_⟩
   ·have IN:=Ot IN;have dS:(0:Int)<=(k:Int):=Qo
    have step:((gi gs (k:Int)).used=true->UL (gi gs (k:Int)).name=true/\YP (Pc 9 gs (k:Int) 0) 1 3=true/\∀h:Int,1<=h->h<(k:Int)->(gi gs h).used=true->¬((gi gs h).parent=(gi gs (k:Int)).parent/\(gi gs h).name=(gi gs (k:Int)).name))->zrx gs ((k+1:Nat):Int):=λoH=>⟨λg h1 h2 hu=>by
     by_cases rX:g<(k:Int)
     ·exact hS.each g h1 rX hu
     ·have:g=(k:Int):=Qo;subst this; exact oH hu⟩
    refine⟨h.ix dS IN,_,h.used dS IN,λhu=>⟨⟨Qo,Qo⟩,Qu Qo ⟨Qo,Qo,step λhu'=>by rw[hu'] at hu; cases hu⟩⟩,λhu=>?_⟩;have hu:(gi gs (k:Int)).used=true:=by simpa using hu
    refine⟨h.ix dS IN,_,h.name dS IN,_,DW,Pc 9 gs (k:Int) 0,λ_=>?_,YP (Pc 9 gs (k:Int) 0) 1 3,λ_=>Qm,λq=>?_,λq=>?_⟩
    ·have:=MI (c:=c) (g:=(k:Int)) h (by rw[hl8]; simp[maxLen])
     rwa[hl8] at this ⊢
    ·rw[BP];intro ht;have:=(ztu ht).each (k:Int) Qo Qo hu;rw[this.1,this.2.1] at q;cases q
    ·simp only[H',I6] at q;refine YV k 1 rfl (λj=>1<=j/\j<=k/\∀h:Int,1<=h->h<(j:Int)->(gi gs h).used=true->¬((gi gs h).parent=(gi gs (k:Int)).parent/\(gi gs h).name=(gi gs (k:Int)).name)) ⟨I7 _,hk1,λg h1 h2=>by omega⟩ λj ⟨hj1,fN,hJ⟩=>⟨λRA=>?_,λaN=>?_⟩
     ·have RA:=Ot RA;have hj0:(0:Int)<=(j:Int):=Qo;have hjl:(j:Int)<(gs.length:Int):=Qo;refine⟨h.ix hj0 hjl,_,h.used hj0 hjl,λ_=>h.ix hj0 hjl,_,λ_=>h.parent hj0 hjl,λ_=>h.ix dS IN,_,λ_=>h.parent dS IN,λ_=>h.ix hj0 hjl,_,λ_=>h.name hj0 hjl,λ_=>h.ix dS IN,_,λ_=>h.name dS IN,λhs=>?_,λhs=>⟨⟨Qo,Qo⟩,Qu Qo ⟨Qo,Qo,λg h1 h2 hg=>?_⟩⟩⟩
      ·rw[BP];intro ht;simp only[A',Is,U8] at hs;exact ht.uniq (k:Int) (j:Int) Qo RA Qo hu hs.1.1 ⟨hs.1.2,hs.2⟩
      ·by_cases hgj:g<(j:Int)
       ·exact hJ g h1 hgj hg
       ·have:g=(j:Int):=Qo;subst this;rintro⟨e1,e2⟩;rw[hg,e1,e2,BL] at hs;simp at hs
     ·have aN:=Ou aN;have:j=k:=Qo;subst this;exact⟨⟨Qo,Qo⟩,Qu Qo ⟨Qo,Qo,step λ_=>⟨q.1,q.2,hJ⟩⟩⟩
   ·have Rx:=Ou Rx;have:k=8:=Qo;subst this;rw[Tf.2 (zvo hl8 ru rp rn hS)]
def JP:Nat->List ZX->Int->Int->Bool
 | 0,_,g,h=>h==g
 | f+1,gs,g,h=>h==g||(h != 0&&JP f gs g (gi gs h).parent)
noncomputable def PE(gs:List ZX)(g h:Int):Bool:=Ki gs&&Q6 gs g&&Q6 gs h&&JP 3 gs g h
theorem Y3{gs:List ZX}(ht:Y8 gs){h:Int}(hu:Q6 gs h=true)(hz:h≠0):Q6 gs (gi gs h).parent=true/\0<=h/\h<(gs.length:Int)/\∃d:Nat,dep 3 gs h=(d:Int)+1/\dep 3 gs (gi gs h).parent=(d:Int)/\d<3:=by
 obtain⟨a,b,u⟩:=Q4.1 hu;have hl:=ht.len;have h1:1<=h:=Qo;have hd:=ht.dp h h1 Qo u;refine⟨ht.par h h1 Qo u,a,b,?_⟩;have hr:=Of gs 2 (gi gs h).parent;have e:dep 3 gs h=if dep 2 gs (gi gs h).parent<0 then -1 else dep 2 gs (gi gs h).parent+1:=by simp only[dep,B' hz]
 rw[e] at hd ⊢
 split at hd
 ·omega
 ·rename_i hn;rw[B' hn];have:=GE gs 2 3 (gi gs h).parent Qo Qo;exact⟨(dep 2 gs (gi gs h).parent).toNat,Qo,Qo,Qo⟩
theorem zuf{gs:List ZX}(ht:Y8 gs)(g:Int):∀(f f':Nat) (h:Int),Q6 gs h=true->dep 3 gs h<=f->dep 3 gs h<=f'->JP f gs g h=JP f' gs g h:=by
 intro f
 induction f with
 | zero=>
  intro f' h hu h1 h2
  have hz:h=0:=Iq λhz=>by
   obtain⟨_,_,_,d,e,_⟩:=Y3 ht hu hz;omega
  subst hz
  cases f' <;> simp[JP]
 | succ f ih=>
  intro f' h hu h1 h2
  by_cases hz:h=0
  ·subst hz
   cases f' <;> simp[JP]
  ·obtain⟨hp,_,_,d,e,e2,_⟩:=Y3 ht hu hz
   cases f' with
   | zero=>omega
   | succ f'=>
    simp only[JP];rw[ih f' (gi gs h).parent hp Qo Qo]
theorem NP{gs:List ZX}(ht:Y8 gs){g h:Int}(hu:Q6 gs h=true)(hz:h≠0)(hg:h≠g):JP 3 gs g h=JP 3 gs g (gi gs h).parent:=by
 obtain⟨hp,_,_,d,e,e2,hd⟩:=Y3 ht hu hz;rw[<-zuf ht g 2 3 (gi gs h).parent hp Qo Qo];have e3:JP 3 gs g h=(h==g||(h != 0&&JP 2 gs g (gi gs h).parent)):=rfl;rw[e3];have e4:(h==g)=false:=by simpa using hg
 have e5:(h != 0)=true:=by simpa using hz
 rw[e4,e5,Bool.false_or,Bool.true_and]
theorem OG{g h:Int}(hr:Lp bs w o gs ms)(hl:gs.length<=maxLen):PX bs J7 #[.slice o gs.length c,I g,I h] w (.bool (PE gs g h)):=
 Am o gs.length c g h λwr hx=>by
  have hr:=(hr.ext hx).less (cs:=[]) Qs;refine⟨_,DX hr hl,_,λ_=>X8 hr,_,λ_=>X8 hr,λq=>?_,λq=>?_⟩
  ·have:PE gs g h=false:=by
    unfold PE
    cases h1:Ki gs <;> cases h2:Q6 gs g <;> cases h3:Q6 gs h <;> simp_all
   rw[this]
  ·simp only[H',I6] at q;obtain⟨⟨q1,q2⟩,q3⟩:=q;have ht:=Tf.1 q1;have hU:PE gs g h=JP 3 gs g h:=by unfold PE; rw[q1,q2,q3]; rfl
   refine⟨λvs=>∃x:Int,vs=[I x]/\Q6 gs x=true/\JP 3 gs g x=JP 3 gs g h,λvs=>(dep 3 gs (ZE 0 vs)).toNat,⟨h,rfl,q3,rfl⟩,?_⟩;rintro x ⟨x',he,hu,hI⟩;simp only[I4,I5,true_and,and_true] at he;subst he;refine⟨λbT=>⟨λhz=>?_,λhz=>?_⟩,λheq=>?_⟩
   ·have hz:x=0:=by simpa using hz
    subst hz
    have:JP 3 gs g 0=false:=by
     have:¬(0=g):=by simpa using bT
     simp[JP,this]
    rw[hU,<-hI,this]
   ·have hz:x≠0:=by simpa using hz
    have bT:x≠g:=by simpa using bT
    obtain⟨hp,a,b,d,e,e2,hd⟩:=Y3 ht hu hz;refine⟨hr.ix a b,_,hr.parent a b,⟨_,rfl,hp,by rw[<-NP ht hu hz bT]; exact hI⟩,?_⟩;show (dep 3 gs (gi gs x).parent).toNat<(dep 3 gs x).toNat;omega
   ·have heq:x=g:=by simpa using heq
    subst heq;rw[hU,<-hI];simp[JP]
end
theorem zud{s:ByteArray}{i:Nat}(h:i<s.size):((s.get! i).toNat:Int)=Uq s (i:Int):=by
 have hi:i<s.data.size:=h;unfold Uq;rw[Ig];simp[ByteArray.get!,getElem!_pos s.data i hi,Array.getD,h]
theorem zjf{s:ByteArray}{i:Nat}(h:(s.get! i).toNat<128):Utf8.decode s i=((s.get! i).toNat,1):=by
 simp only[Utf8.decode,Nat.add_zero];rw[C' h]
theorem zt5{s:ByteArray}{i:Nat}(h:¬(s.get! i).toNat<128):128<=(Utf8.decode s i).1/\1<=(Utf8.decode s i).2:=by
 simp only[Utf8.decode,Nat.add_zero,Utf8.runeError];rw[B' h];split
 ·split
  ·rename_i h1; exact⟨h1,by show 1<=2; omega⟩
  ·exact⟨Qd,Qd⟩
 ·split
  ·split
   ·rename_i h1;simp only[ge_iff_le,A',Ij] at h1;exact⟨by show 128<=_; omega,by show 1<=3; omega⟩
   ·exact⟨Qd,Qd⟩
  ·split
   ·split
    ·rename_i h1;simp only[ge_iff_le,A',Ij] at h1;exact⟨by show 128<=_; omega,by show 1<=4; omega⟩
    ·exact⟨Qd,Qd⟩
   ·exact⟨Qd,Qd⟩
theorem zui(w:Wo)(b:Nat)(s:ByteArray)(p:Nat):Q0 [b] w (ME w b s p):=
 ⟨rfl,rfl,rfl,by simp[ME],λk _ hk=>by
  have:b≠k:=λe=>hk (by simp[e])
  simp only[ME];rw[Array.getElem?_setIfInBounds_ne this]⟩
theorem zxs{w:Wo}{b:Nat}{s:ByteArray}{p:Nat}(h:b<w.heap.size):(ME w b s p).heap[b]? = some (.stringIter s p):=by
 simp[ME,h]
def z2p(b:Nat)(w:Wo):Nat:=match w.heap[b]? with
 | some (.stringIter s p)=>s.size+1-p
 | _=>0
theorem znu{s:ByteArray}(h1:Zv s (⟨[119,101,105,103,104,116].toArray⟩)=false)(h2:Zv s (⟨[109,97,120].toArray⟩)=false)(h3:Zv s (⟨[99,112,117,115].toArray⟩)=false)(h4:Zv s (⟨[112,114,111,99,115].toArray⟩)=false)(h5:Zv s (⟨[115,116,97,116].toArray⟩)=false):Kd s=false:=by
 unfold Kd; rw[h1,h2,h3,h4,h5]; rfl
theorem Pe{s:ByteArray}(h:Kd s=true):UL s=false:=L5 λ⟨_,h2,_⟩=>by rw[h] at h2; cases h2
theorem zho{s:ByteArray}{w:Wo}{bs:List Nat}:PX bs Mk #[.string s] w (.bool (UL s)):=by
 refine O1 λwr hx=>zhd s (R:=λv w'=>v=.bool (UL s)/\Q0 [] wr w') ?_
 refine⟨λh=>?_,λh1=>⟨λh=>?_,λh2=>⟨λh=>?_,λh3=>⟨λh=>?_,λh4=>⟨λh=>?_,λh5=>?_⟩⟩⟩⟩⟩
 ·intro w1 RZ; rw[Pe (by unfold Kd; rw[h]; rfl)]; exact⟨rfl,RZ⟩
 ·intro w1 RZ; rw[Pe (by unfold Kd; rw[h]; simp)]; exact⟨rfl,RZ⟩
 ·intro w1 RZ; rw[Pe (by unfold Kd; rw[h]; simp)]; exact⟨rfl,RZ⟩
 ·intro w1 RZ; rw[Pe (by unfold Kd; rw[h]; simp)]; exact⟨rfl,RZ⟩
 ·intro w1 RZ; rw[Pe (by unfold Kd; rw[h]; simp)]; exact⟨rfl,RZ⟩
 ·have hf:=znu h1 h2 h3 h4 h5;refine⟨_,QC,λh=>?_,λh=>?_⟩
  ·intro w1 RZ;have h:YP (s.size:Int) 1 8=false:=by simpa using h
   have h:=z2e.1 h;rw[L5 λ⟨h6,_⟩=>h Qo];exact⟨rfl,RZ⟩
  ·have h:YP (s.size:Int) 1 8=true:=by simpa using h
   have h:=Qv.1 h;intro w1 RZ _;refine⟨some ⟨w1.heap.size,0,none⟩,w1.alloc (.stringIter s 0),by simp[Instr.range,run_underlying zf3],Ys,?_⟩;have hb0:(w1.alloc (.stringIter s 0)).heap[w1.heap.size]? = some (.stringIter s 0):=Array.getElem?_push_size ..;have hX0:Q0 [] wr (w1.alloc (.stringIter s 0)):=RZ.trans (Z7 w1 _);have hbr:wr.heap.size<=w1.heap.size:=RZ.size;generalize w1.heap.size=b at hb0 hbr;generalize w1.alloc (.stringIter s 0)=w2 at hb0 hX0;refine⟨λvs w'=>vs=[]/\Q0 [] wr w'/\∃p:Nat,p<=s.size/\w'.heap[b]? = some (.stringIter s p)/\∀j:Nat,j<p->zzu (Uq s (j:Int))=true,λ_ w'=>z2p b w',λw3 R6 _=>⟨rfl,hX0.trans R6,0,Ic _,QB hb0 R6 Qs,λj hj=>Ir hj (Nat.not_lt_zero j)⟩,?_⟩;intro w3 _ ⟨_,hX,p,hp,hb,hI⟩ w4 SK _;have hb4:=QB hb SK Qs;refine⟨b,s,p,rfl,Qs,hb4,λRx=>⟨(by intro q; cases q),λ_ w5 Sm=>?_⟩,λIN=>⟨λ_=>?_,by intro q; cases q⟩⟩
   ·have:p=s.size:=Qo;subst this;rw[LB.2 ⟨⟨Qo,Qo⟩,hf,hI⟩];exact⟨rfl,(hX.trans SK).trans Sm⟩
   ·have zX:Q0 [] wr (ME w4 b s (p+(Utf8.decode s p).2)):=(hX.trans SK).fresh (zui w4 b s _) λx hm=>.inl (by rw[IA.1 hm]; exact hbr)
    have hg:=zud IN;refine⟨λiX=>?_,λAL5=>?_⟩
    ·intro w5 Sm
     have Cu0:UL s=false:=L5 λ⟨_,_,h3⟩=>by
      have h3:=h3 p IN
      by_cases hlo:(s.get! p).toNat<128
      ·rw[zjf hlo] at iX;simp only[hg] at iX;unfold zzu at h3;rw[h3] at iX;cases iX
      ·unfold zzu at h3;simp only[Iu,A',Ij] at h3;omega
     rw[Cu0];exact⟨rfl,zX.trans Sm⟩
    ·intro w5 Sm _
     by_cases hlo:(s.get! p).toNat<128
     ·rw[zjf hlo] at AL5 zX Sm;simp only[hg] at AL5;have hat:=QB (zxs (s:=s) (p:=p+1) (JG hb4)) Sm Qs;refine⟨⟨rfl,zX.trans Sm,p+1,Qo,hat,λj hj=>?_⟩,?_⟩
      ·by_cases hjp:j<p
       ·exact hI j hjp
       ·have:j=p:=Qo;subst this;unfold zzu;rw[I6] at AL5;exact AL5
      ·simp only[z2p,hat,hb];omega
     ·exfalso
      have:=zt5 hlo;rw[I6] at AL5;simp only[Iu,A',Ij] at AL5;omega
end Go.Proofs.YtnclplgaicdapaaGreatDoor
