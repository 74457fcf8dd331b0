/- Part 7 of what the law FnLast needs. -/
import Derived.Test.YtnclplgaicdapaaGreatDoorFnLastPf
set_option linter.unusedVariables false
set_option linter.unusedSimpArgs false
set_option maxRecDepth 100000
set_option maxHeartbeats 8000000
namespace Go.Proofs.YtnclplgaicdapaaGreatDoor
open Go.RowKit
def zef(c:ByteArray)(w:Wo)(R:RT):=Bf (ZD c (ByteArray.mk [119,101,105,103,104,116].toArray)) (AR [] w R (.bool false)) (Bf (ZD c (ByteArray.mk [109,97,120].toArray)) (AR [] w R (.bool false)) (Bf (ZD c (ByteArray.mk [99,112,117,115].toArray)) (AR [] w R (.bool false)) (Bf (ZD c (ByteArray.mk [112,114,111,99,115].toArray)) (AR [] w R (.bool false)) (Bf (ZD c (ByteArray.mk [115,116,97,116].toArray)) (AR [] w R (.bool false)) (∃i,PX [] Qx #[I (c.size:Int),I 1,I 8] w (.bool i)/\Bf (!i) (AR [] w R (.bool false)) (AY [] w λm=>∃j,∃g,((Instr.range ZH (.string c)):Sem Va).run Tryz.prog m=.ok (.pointer j) g/\Q9 [] m g/\∃(h:LQ) (k:LM),(AY [] g λn=>h [] n)/\∀ f,(∀bq∈([]:List Nat),bq<f.heap.size)->h [] f->AY [] f λe=>∃(d:Nat) (b:ByteArray) (a:Nat),j=some (Addr.mk d 0 none)/\d∉([]:List Nat)/\e.heap[d]? = some (.stringIter b a)/\(b.size<=a->Bf false (False) (AR [] e R (.bool true)))/\(a<b.size->Bf true (Bf (!(((decide (((Utf8.decode b a).1:Int)>=97))&&(decide (((Utf8.decode b a).1:Int)<=122)))||((decide (((Utf8.decode b a).1:Int)>=48))&&(decide (((Utf8.decode b a).1:Int)<=57))))) (AR [] (Ma e d b (a+(Utf8.decode b a).2)) R (.bool false)) (AY [] (Ma e d b (a+(Utf8.decode b a).2)) λl=>h [] l/\k [] l<k [] f)) (AR [] (Ma e d b (a+(Utf8.decode b a).2)) R (.bool true)))))))))
theorem zfb(a):J6 (zef a) PY #[.string a]:=eV [] false [(11,⟨[],[],[17],[],[]⟩)] Tryz.func266 Qk Qk
def Ev(g:OA)(w:Wo)(R:RT):=∃(d:LP) (f:LN),d [.pointer g,I 0]/\∀(a:OA) (b:Int),d [.pointer a,I b]->Bf ((!a.isNone)&&(decide (b<=3))) (a.isSome=true/\∃e,Q1 [] w a (0+0) [I e]/\Bf (e==0) (R (I b) w) (Qz (b+1)/\a.isSome=true/\∃c,Q1 [] w a (0+2) [.pointer c]/\d [.pointer c,I (b+1)]/\f [.pointer c,I (b+1)]<f [.pointer a,I b])) (R (I (-1)) w)
theorem FG(a):X1 (Ev a) VA #[.pointer a]:=pV [] false [(2,⟨[(0,.ptr),(3,Ri)],[],[],[],[]⟩)] Tryz.func267 Qk Qk
def zih(b:OA)(d a6:Nat)(w:Wo)(R:RT):=(((d:Int) != 8)=false->Ix b d 0)/\∃l,(((d:Int) != 8)=false->Q1 [] w b (Int.toNat 0*14+0) [.bool l])/\((((d:Int) != 8)||(!l))=false->Ix b d 0)/\∃q,((((d:Int) != 8)||(!l))=false->Q1 [] w b (Int.toNat 0*14+1) [I q])/\(((((d:Int) != 8)||(!l))||(q != (-1)))=false->Ix b d 0)/\∃(L:ByteArray),(((((d:Int) != 8)||(!l))||(q != (-1)))=false->Q1 [] w b (Int.toNat 0*14+2) [.string L])/\Bf (((((d:Int) != 8)||(!l))||(q != (-1)))||(!ZD L (ByteArray.mk [].toArray))) (AR [] w R (.tuple #[S none 0 0,.bool false])) (AY [] w λT=>∃f j a1,∃J,((Instr.makeSlice MQ (I 8) (I 8)):Sem Va).run Tryz.prog T=.ok (S f j a1) J/\Q9 [] T J/\∃(z:LQ) (A:LM),(AY [] J λa5=>z [I 0] a5)/\∀(e:Int) g,(∀bq∈([]:List Nat),bq<g.heap.size)->z [I e] g->Bf (decide (e<(d:Int))) (Ix b d e/\∃N,Q1 [] g b (e.toNat*14+0) [.bool N]/\Bf N (Ix b d e/\∃(O:ByteArray),Q1 [] g b (e.toNat*14+2) [.string O]/\∀r s,Q0 [] g s->g.heap.size<=r->s.heap[r]? = some (Obj.cells ([I e,.string O,.pointer none]:LV).toArray FY (0,0))->r∉([]:List Nat)->Ix f j e/\Yk [] s f (e.toNat*1) 1/\Qz (e+1)/\AY [] (R8 s f (e.toNat*1) [.pointer ((some (Addr.mk r 0 none)).map (·.add 0))]) λa4=>z [I (e+1)] a4/\A [I (e+1)] a4<A [I e] g) (Qz (e+1)/\AY [] g λU=>z [I (e+1)] U/\A [I (e+1)] U<A [I e] g)) (AY [] g λa3=>∃(D:Va),∃C,((Instr.makeMap ZG none):Sem Va).run Tryz.prog a3=.ok D C/\Q9 [] a3 C/\∃(t:LQ) (x:LM),(AY [] C λa9=>t [I 1] a9)/\∀(a:Int) c,(∀bq∈([]:List Nat),bq<c.heap.size)->t [I a] c->Bf (decide (a<8)) (Ix f j a/\∃E,Q1 [] c f (a.toNat*1) [.pointer E]/\Bf E.isNone (Qz (a+1)/\AY [] c λQ=>t [I (a+1)] Q/\x [I (a+1)] Q<x [I a] c) (Ix b d a/\∃(a0:ByteArray),Q1 [] c b (a.toNat*14+2) [.string a0]/\∃o,PX [] PY #[.string a0] c (.bool o)/\((!o)=false->Ix b d a)/\∃V,((!o)=false->Q1 [] c b (a.toNat*14+1) [I V])/\∃G,((!o)=false->PX [] U2 #[S b d a6,I V] c (.bool G))/\Bf ((!o)||(!G)) (AR [] c R (.tuple #[S none 0 0,.bool false])) (Ix f j a/\∃i,Q1 [] c f (a.toNat*1) [.pointer i]/\Ix b d a/\∃M,Q1 [] c b (a.toNat*14+1) [I M]/\Ix f j M/\∃m,Q1 [] c f (Int.toNat M*1) [.pointer m]/\i.isSome=true/\Yk [] c i (0+2) 1/\Ix b d a/\∃v,Q1 [] (R8 c i (0+2) [.pointer m]) b (a.toNat*14+1) [I v]/\Ix b d a/\∃(u:ByteArray),Q1 [] (R8 c i (0+2) [.pointer m]) b (a.toNat*14+2) [.string u]/\∀n,(R8 c i (0+2) [.pointer m]).heap.size<=n->Q1 [] (R8 c i (0+2) [.pointer m]) b (a.toNat*14+2) [.string u]/\Q1 [] (R8 c i (0+2) [.pointer m]) b (a.toNat*14+1) [I v]/\AX [] [n] (R8 c i (0+2) [.pointer m]) λP=>∃a8 B,∃y,((Instr.lookup ZG D (.agg #[I v,.string u]) true):Sem Va).run Tryz.prog P=.ok (.tuple #[I a8,.bool B]) y/\Q9 [n] P y/\Bf B (AR [n] y R (.tuple #[S none 0 0,.bool false])) (AY [n] y λY =>∃F,((do Instr.mapUpdate ZG D (.agg #[I v,.string u]) (I a); pure undef):Sem Va).run Tryz.prog Y=.ok undef F/\Q9 [n] Y F/\Qz (a+1)/\AY [n] F λX=>t [I (a+1)] X/\x [I (a+1)] X<x [I a] c)))) (∃(K:LQ) (Z:LM),(AY [] c λa7=>K [I 0] a7)/\∀(h:Int) k,(∀bq∈([]:List Nat),bq<k.heap.size)->K [I h] k->Bf (decide (h<(j:Int))) (Ix f j h/\∃p,Q1 [] k f (h.toNat*1) [.pointer p]/\∃H,((!p.isNone)=true->PX [] VA #[.pointer p] k (I H))/\Bf ((!p.isNone)&&(decide (H<0))) (AR [] k R (.tuple #[S none 0 0,.bool false])) (Qz (h+1)/\AY [] k λa2=>K [I (h+1)] a2/\Z [I (h+1)] a2<Z [I h] k)) (AR [] k R (.tuple #[S f j a1,.bool true])))))
theorem zi9(a b c):J6 (zih a b c) K3 #[S a b c]:=eV [57] false [(5,⟨[(40,Ri)],[],[0,4,39],[],[]⟩),(12,⟨[(7,Ri)],[],[0,4,6],[],[]⟩),(24,⟨[(124,Ri)],[],[4,122,123],[],[]⟩)] Tryz.func248 Qk Qk
def zeg(e:OA)(f g:Nat)(w:Wo)(R:RT):=AY [] w λc=>Cz K3 #[S e f g] c λj a=>∃i h d b,j=.returned (.tuple #[S i h d,.bool b])/\Q9 [] c a/\AR [] a R (.bool b)
theorem zfc(a b c):J6 (zeg a b c) PZ #[S a b c]:=eV [] false [] Tryz.func187 Qk Qk
def G4(b:OA)(w:Wo)(R:RT):=b.isSome=true/\∃k,Q1 [] w b (0+0) [I k]/\NB w λf=>∃a,(∀g,Q0 [] w g->g.heap[f]? = some (Obj.cells ([I k]:LV).toArray Qb (0,0))->PX [] ZJ #[S (some (Addr.mk f 0 none)) 1 1] g (.bool a))/\(a=true->b.isSome=true)/\∃n m p,(a=true->Q1 [] w b (0+1) [S n m p])/\∃c,(a=true->PX [] Qx #[I (m:Int),I 1,I 4] w (.bool c))/\∃d,((a&&c)=true->PX [] Ym #[.pointer b] w (I d))/\(((a&&c)&&(d != 0))=true->b.isSome=true)/\∃q e o,(((a&&c)&&(d != 0))=true->Q1 [] w b (0+2) [S q e o])/\((((a&&c)&&(d != 0))&&((e:Int)==12))=true->b.isSome=true)/\∃h l i,((((a&&c)&&(d != 0))&&((e:Int)==12))=true->Q1 [] w b (0+3) [S h l i])/\∃j,((((a&&c)&&(d != 0))&&((e:Int)==12))=true->PX [] PZ #[S h l i] w (.bool j))/\R (.bool ((((a&&c)&&(d != 0))&&((e:Int)==12))&&j)) w
theorem GO(a):X1 (G4 a) Xt #[.pointer a]:=pV [] false [] Tryz.func87 Qk Qk
def Bc(a:Int)(w:Wo)(R:RT):=R (.bool ((decide (a>=0))&&(decide (a<=15)))) w
theorem Ni(a):X1 (Bc a) U1 #[I a]:=pV [] false [] Tryz.func254 Qk Qk
def zee(b:Int)(w:Wo)(R:RT):=∃a,PX [] U1 #[I b] w (.bool a)/\R (.bool a) w
theorem zf6(a):X1 (zee a) Um #[I a]:=pV [] false [] Tryz.func206 Qk Qk
def Af(a:Int)(w:Wo)(R:RT):=∃b,((a != 0)=true->PX [] Um #[I a] w (.bool b))/\R (.bool ((a != 0)&&b)) w
theorem Cx(a):X1 (Af a) UG #[I a]:=pV [] false [] Tryz.func122 Qk Qk
def Ac(f e c:Int)(g:OA)(b i:Nat)(j:OA)(d h:Nat)(w:Wo)(R:RT):=NB w λa=>R (.bool (((((f==0)&&(e==0))&&(c==0))&&((b:Int)==0))&&((d:Int)==0))) w
theorem Cu(a b c d e f g h i):X1 (Ac a b c d e f g h i) UE #[.agg #[I a,I b,I c,S d e f,S g h i]]:=pV [] false [] Tryz.func249 Qk Qk
def Be(c:Bool)(e:Int)(g:ByteArray)(d i a h b k q m:Int)(l:OA)(n p:Nat)(t:OA)(o r:Nat)(u:OA)(s v:Nat)(w:Wo)(R:RT):=NB w λj=>∃f,(((((((((!c)&&(e==0))&&(ZD g (ByteArray.mk [].toArray)))&&(d==0))&&(i==0))&&(a==0))&&(h==0))&&(b==0))=true->PX [] UE #[.agg #[I k,I q,I m,S l n p,S t o r]] w (.bool f))/\R (.bool ((((((((((!c)&&(e==0))&&(ZD g (ByteArray.mk [].toArray)))&&(d==0))&&(i==0))&&(a==0))&&(h==0))&&(b==0))&&f)&&((s:Int)==0))) w
theorem Nk(a b c d e f g h i j k l m n o p q r s t):X1 (Be a b c d e f g h i j k l m n o p q r s t) T5 #[.agg #[.bool a,I b,.string c,I d,I e,I f,I g,I h,I i,I j,I k,S l m n,S o p q,S r s t]]:=pV [] false [] Tryz.func188 Qk Qk
def Ag(b:Int)(w:Wo)(R:RT):=∃a,PX [] Qx #[I b,I 1,I 20] w (.bool a)/\R (.bool a) w
theorem Cy(a):X1 (Ag a) Jh #[I a]:=pV [] false [] Tryz.func189 Qk Qk
def zeb(f e j:Int)(q:OA)(d u:Nat)(p:OA)(l t:Nat)(w:Wo)(R:RT):=NB w λs=>∃h,PX [] Qx #[I f,I 1,I 10000] w (.bool h)/\∃o,((!h)=false->PX [] Qx #[I (d:Int),I 1,I 4] w (.bool o))/\Bf (((!h)||(!o))||((l:Int) != (d:Int))) (R (.bool false) w) (∃i,PX [] Qx #[I e,I 0,I f] w (.bool i)/\∃k,((!i)=false->PX [] Qx #[I j,I 0,I f] w (.bool k))/\Bf ((!i)||(!k)) (R (.bool false) w) (Qz (e+j)/\∃(m:LP) (r:LN),m [I (e+j),I 0]/\∀(c a:Int),m [I c,I a]->Bf (decide (a<(d:Int))) (Ix q d a/\∃b,Q1 [] w q (a.toNat*1) [I b]/\∃g,PX [] Qx #[I b,I 0,I f] w (.bool g)/\((!g)=false->Ix p l a)/\∃n,((!g)=false->Q1 [] w p (a.toNat*1) [.bool n])/\Bf ((!g)||(n&&((b != 0)||(e != 0)))) (R (.bool false) w) (Qz (c+b)/\Qz (a+1)/\m [I (c+b),I (a+1)]/\r [I (c+b),I (a+1)]<r [I c,I a])) (R (.bool (c==f)) w)))
theorem zf4(a b c d e f g h i):X1 (zeb a b c d e f g h i) PU #[.agg #[I a,I b,I c,S d e f,S g h i]]:=pV [] false [(7,⟨[(3,Ri),(48,Ri)],[],[1,46,47],[],[]⟩)] Tryz.func250 Qk Qk
def G3(e:OA)(z:Bool)(C:Int)(D:ByteArray)(A E f q y j o l:Int)(k:OA)(b n:Nat)(r:OA)(m p:Nat)(x:OA)(B F:Nat)(w:Wo)(R:RT):=NB w λt=>∃i,PX [] UE #[.agg #[I j,I o,I l,S k b n,S r m p]] w (.bool i)/\Bf i (R (.bool ((f==0)&&(q==0))) w) (∃a,PX [] PU #[.agg #[I j,I o,I l,S k b n,S r m p]] w (.bool a)/\(a=true->e.isSome=true)/\∃v c u,(a=true->Q1 [] w e (0+1) [S v c u])/\∃d,((a&&((b:Int)==(c:Int)))=true->PX [] Qx #[I f,I 1,I 1000] w (.bool d))/\(((a&&((b:Int)==(c:Int)))&&d)=true->e.isSome=true)/\∃h,(((a&&((b:Int)==(c:Int)))&&d)=true->Q1 [] w e (0+0) [I h])/\(((a&&((b:Int)==(c:Int)))&&d)=true->Qz (h+1))/\(((a&&((b:Int)==(c:Int)))&&d)=true->e.isSome=true)/\∃g,(((a&&((b:Int)==(c:Int)))&&d)=true->Q1 [] w e (0+0) [I g])/\(((a&&((b:Int)==(c:Int)))&&d)=true->Qz (g+f))/\∃s,(((a&&((b:Int)==(c:Int)))&&d)=true->PX [] Qx #[I q,I (h+1),I (g+f)] w (.bool s))/\R (.bool (((a&&((b:Int)==(c:Int)))&&d)&&s)) w)
theorem GN(a b c d e f g h i j k l m n o p q r s t u):X1 (G3 a b c d e f g h i j k l m n o p q r s t u) Xs #[.pointer a,.agg #[.bool b,I c,.string d,I e,I f,I g,I h,I i,I j,I k,I l,S m n o,S p q r,S s t u]]:=pV [] false [] Tryz.func190 Qk Qk
def Ls(c:OA)(w:Wo)(R:RT):=c.isSome=true/\∃F s U,Q1 [] w c (0+3) [S F s U]/\∃(l:LP) (h:LN),l [I 0]/\∀(a:Int),l [I a]->Bf (decide (a<(s:Int))) (Ix F s a/\∃(f:Bool) (t:Int) (C:ByteArray) (i j v n k x u q:Int) (r:OA) (m A:Nat) (B:OA) (p y:Nat) (o:OA) (d z:Nat),Q1 [] w F (a.toNat*14) [.bool f,I t,.string C,I i,I j,I v,I n,I k,I x,I u,I q,S r m A,S B p y,S o d z]/\NB w λT=>Bf (!f) (∃L,PX [] T5 #[.agg #[.bool f,I t,.string C,I i,I j,I v,I n,I k,I x,I u,I q,S r m A,S B p y,S o d z]] w (.bool L)/\Bf (!L) (R (.bool false) w) (Qz (a+1)/\l [I (a+1)]/\h [I (a+1)]<h [I a])) (∃b,PX [] Jh #[I i] w (.bool b)/\∃e,((!b)=false->PX [] UG #[I j] w (.bool e))/\(((!b)||(!e))=false->NB w λJ=>∃g,(((!b)||(!e))=false->∀M,Q0 [] w M->M.heap[J]? = some (Obj.cells ([I k]:LV).toArray Qb (0,0))->PX [] ZJ #[S (some (Addr.mk J 0 none)) 1 1] M (.bool g))/\((((!b)||(!e))||(!g))=false->c.isSome=true)/\∃a0 E X,((((!b)||(!e))||(!g))=false->Q1 [] w c (0+1) [S a0 E X])/\∃K,(((((!b)||(!e))||(!g))||((d:Int) != (E:Int)))=false->PX [] Xs #[.pointer c,.agg #[.bool f,I t,.string C,I i,I j,I v,I n,I k,I x,I u,I q,S r m A,S B p y,S o d z]] w (.bool K))/\Bf (((((!b)||(!e))||(!g))||((d:Int) != (E:Int)))||(!K)) (R (.bool false) w) (Qz (a+1)/\l [I (a+1)]/\h [I (a+1)]<h [I a]))/\((((!b)||(!e))=false->False)->(true=false->c.isSome=true)/\∃b2 D b8,(true=false->Q1 [] w c (0+1) [S b2 D b8])/\∃G,((true||((d:Int) != (D:Int)))=false->PX [] Xs #[.pointer c,.agg #[.bool f,I t,.string C,I i,I j,I v,I n,I k,I x,I u,I q,S r m A,S B p y,S o d z]] w (.bool G))/\Bf ((true||((d:Int) != (D:Int)))||(!G)) (R (.bool false) w) (Qz (a+1)/\l [I (a+1)]/\h [I (a+1)]<h [I a])))) (c.isSome=true/\∃H P a1,Q1 [] w c (0+3) [S H P a1]/\Ix H P 0/\∃(a3:Bool) (a5:Int) (a2:ByteArray) (Q O a4 b0 b6 N a6 Z:Int) (a7:OA) (a9 b1:Nat) (b3:OA) (a8 b7:Nat) (Y:OA) (b4 b5:Nat),Q1 [] w H (Int.toNat 0*14) [.bool a3,I a5,.string a2,I Q,I O,I a4,I b0,I b6,I N,I a6,I Z,S a7 a9 b1,S b3 a8 b7,S Y b4 b5]/\NB w λV=>R (.bool (((Q==10)&&(O==15))&&(N==0))) w)
theorem LK(a):X1 (Ls a) Xb #[.pointer a]:=pV [] false [(2,⟨[(11,Ri)],[],[0,9,10],[],[]⟩)] Tryz.func88 Qk Qk
def En(b:OA)(c:Int)(w:Wo)(R:RT):=NB w λa=>R (.agg #[.pointer b,I c]) w
theorem Fz(a b):X1 (En a b) Zd #[.pointer a,I b]:=pV [] false [] Tryz.func79 Qk Qk
def zaf(d c:Int)(w:Wo)(R:RT):=∃a,PX [] Um #[I d] w (.bool a)/\∃b,((!a)=false->PX [] Um #[I c] w (.bool b))/\Bf ((!a)||(!b)) (R (I 0) w) (R (I (TA .and .i64 d c)) w)
theorem zc1(a b):X1 (zaf a b) JJ #[I a,I b]:=pV [] false [] Tryz.func204 Qk Qk
def Eo(b:OA)(u:Int)(w:Wo)(R:RT):=∃q,PX [] Ym #[.pointer b] w (I q)/\∃(i:LP) (p:LN),i [I u,I q]/\∀(a c:Int),i [I a,I c]->Bf (a != 0) (b.isSome=true/\∃d l r,Q1 [] w b (0+3) [S d l r]/\Ix d l a/\∃o,Q1 [] w d (a.toNat*14+4) [I o]/\∃e,PX [] JJ #[I c,I o] w (I e)/\b.isSome=true/\∃f k s,Q1 [] w b (0+3) [S f k s]/\Ix f k a/\∃h,Q1 [] w f (a.toNat*14+1) [I h]/\i [I h,I e]/\p [I h,I e]<p [I a,I c]) (b.isSome=true/\∃g j t,Q1 [] w b (0+3) [S g j t]/\Ix g j 0/\∃m,Q1 [] w g (Int.toNat 0*14+4) [I m]/\∃n,PX [] JJ #[I c,I m] w (I n)/\R (I n) w)
theorem FA(a b):X1 (Eo a b) Vy #[.pointer a,I b]:=pV [] false [(2,⟨[(1,Ri),(5,Ri)],[],[0],[],[]⟩)] Tryz.func203 Qk Qk
def KO(c:OA)(f e:Int)(w:Wo)(R:RT):=∃a,PX [] Vy #[.pointer c,I e] w (I a)/\∃b,PX [] JJ #[I f,I a] w (I b)/\Bf (b != 0) (R (I b) w) (Bf (a != 0) (R (I a) w) (∃d,PX [] Ym #[.pointer c] w (I d)/\R (I d) w))
theorem L2(a b c):X1 (KO a b c) Jf #[.pointer a,I b,I c]:=pV [] false [] Tryz.func117 Qk Qk
def G2(a:OA)(b:Int)(w:Wo)(R:RT):=a.isSome=true/\∃c e j,Q1 [] w a (0+2) [S c e j]/\Ix c e b/\∃g,Q1 [] w c (b.toNat*9+4) [I g]/\a.isSome=true/\∃d i k,Q1 [] w a (0+2) [S d i k]/\Ix d i b/\∃h,Q1 [] w d (b.toNat*9+1) [I h]/\∃f,PX [] Jf #[.pointer a,I g,I h] w (I f)/\R (I f) w
theorem GM(a b):X1 (G2 a b) Xr #[.pointer a,I b]:=pV [] false [] Tryz.func107 Qk Qk
def Es(d b:Int)(w:Wo)(R:RT):=∃a,PX [] U1 #[I d] w (.bool a)/\∃c,(a=true->PX [] Qx #[I b,I 0,I 3] w (.bool c))/\((a&&c)=true->0<=b)/\R (.bool ((a&&c)&&((TA .and .i64 (Int.fdiv d (2 ^ (min (b.toNat) 64))) 1)==1))) w
theorem FD(a b):X1 (Es a b) JB #[I a,I b]:=pV [] false [] Tryz.func205 Qk Qk
def zag(b c:Int)(w:Wo)(R:RT):=∃a,PX [] JB #[I b,I c] w (.bool a)/\R (.bool a) w
theorem zc2(a b):X1 (zag a b) Vg #[I a,I b]:=pV [] false [] Tryz.func118 Qk Qk
def zei(b:Int)(w:Wo)(R:RT):=∃a,PX [] Qx #[I b,I (-10),I 9] w (.bool a)/\R (.bool a) w
theorem zf8(a):X1 (zei a) T7 #[I a]:=pV [] false [] Tryz.func125 Qk Qk
def Eu(g:OA)(d e:Int)(w:Wo)(R:RT):=NB w λh=>g.isSome=true/\∃a c i,Q1 [] w g (0+3) [S a c i]/\Ix a c e/\∃b f j,Q1 [] w a (e.toNat*14+13) [S b f j]/\Ix b f d/\R (.pointer (b.map (·.add (d.toNat*5)))) w
theorem FF(a b c):X1 (Eu a b c) QB #[.agg #[.pointer a,I b],I c]:=pV [] false [] Tryz.func133 Qk Qk
def zeh(b:Int)(w:Wo)(R:RT):=∃a,PX [] Qx #[I b,I 0,I 8000000] w (.bool a)/\R (.bool a) w
theorem zf7(a):X1 (zeh a) M0 #[I a]:=pV [] false [] Tryz.func191 Qk Qk
def Dp(w:Wo)(R:RT):=NB w λY=>NB w λZ=>∃(F:LP) (X:LN),F [I 1,I 0,I 0,I 0,I 0,I 0,I 0,I 0,I 0,I 0,I 0,I 0,I 0,I 0,I 0,I 0,I 0,I 0,I 0,I 0,I 0,I 0]/\∀(a g b o e l m p k t d h j f v r c n u s q i:Int),F [I a,I g,I b,I o,I e,I l,I m,I p,I k,I t,I d,I h,I j,I f,I v,I r,I c,I n,I u,I s,I q,I i]->Bf (decide (a<=20)) ((a≠0/\Qz (Int.tdiv 232792560 a))/\(0<=a/\a<(21:Int))/\(a.toNat+0<21)/\∃A y N M J Q G H D T z x V K U C E L O P B,([I g,I b,I o,I e,I l,I m,I p,I k,I t,I d,I h,I j,I f,I v,I r,I c,I n,I u,I s,I q,I i]:LV).set (a.toNat+0) (I (Int.tdiv 232792560 a))=[I A,I y,I N,I M,I J,I Q,I G,I H,I D,I T,I z,I x,I V,I K,I U,I C,I E,I L,I O,I P,I B]/\Qz (a+1)/\F [I (a+1),I A,I y,I N,I M,I J,I Q,I G,I H,I D,I T,I z,I x,I V,I K,I U,I C,I E,I L,I O,I P,I B]/\X [I (a+1),I A,I y,I N,I M,I J,I Q,I G,I H,I D,I T,I z,I x,I V,I K,I U,I C,I E,I L,I O,I P,I B]<X [I a,I g,I b,I o,I e,I l,I m,I p,I k,I t,I d,I h,I j,I f,I v,I r,I c,I n,I u,I s,I q,I i]) (R (.agg #[I g,I b,I o,I e,I l,I m,I p,I k,I t,I d,I h,I j,I f,I v,I r,I c,I n,I u,I s,I q,I i]) w)
theorem E2:X1 Dp UU #[]:=pV [] false [(3,⟨[(2,.int .i64)],[(1,[.int .i64,.int .i64,.int .i64,.int .i64,.int .i64,.int .i64,.int .i64,.int .i64,.int .i64,.int .i64,.int .i64,.int .i64,.int .i64,.int .i64,.int .i64,.int .i64,.int .i64,.int .i64,.int .i64,.int .i64,.int .i64])],[0,1],[],[]⟩)] Tryz.func208 Qk Qk
def Dh(e a:Int)(w:Wo)(R:RT):=∃b,PX [] Qx #[I e,I 0,I 100000000] w (.bool b)/\∃d,((!b)=false->PX [] Jh #[I a] w (.bool d))/\Bf ((!b)||(!d)) (R (I 0) w) (∃y h i A g j n z v k o f r s p u m q l t x,PX [] UU #[] w (.agg #[I y,I h,I i,I A,I g,I j,I n,I z,I v,I k,I o,I f,I r,I s,I p,I u,I m,I q,I l,I t,I x])/\∃c,(0<=a/\a<(21:Int)/\(#[I y,I h,I i,I A,I g,I j,I n,I z,I v,I k,I o,I f,I r,I s,I p,I u,I m,I q,I l,I t,I x]:Array Va)[Int.toNat a]? = some (I c))/\Qz (e*c)/\R (I (e*c)) w)
theorem DW(a b):X1 (Dh a b) X7 #[I a,I b]:=pV [] false [] Tryz.func134 Qk Qk
def zae(b:Int)(w:Wo)(R:RT):=∃a,PX [] X7 #[I 149,I b] w (I a)/\R (I a) w
theorem zc0(a):X1 (zae a) Vf #[I a]:=pV [] false [] Tryz.func40 Qk Qk
def zej(b a d:Int)(w:Wo)(R:RT):=((decide (b>=a))=true->Qz (b-a))/\∃c,((decide (b>=a))=true->PX [] Vf #[I d] w (I c))/\R (.bool ((decide (b>=a))&&(decide (b-a<=c)))) w
theorem zf9(a b c):X1 (zej a b c) T8 #[I a,I b,I c]:=pV [] false [] Tryz.func192 Qk Qk
def Aa(a:Int)(w:Wo)(R:RT):=∃b,PX [] T7 #[I a] w (.bool b)/\Bf (!b) (R (I 0) w) (Qz (10-a)/\R (I (10-a)) w)
theorem Ct(a):X1 (Aa a) Je #[I a]:=pV [] false [] Tryz.func193 Qk Qk
def G5(c:OA)(w:Wo)(R:RT):=c.isSome=true/\∃D n O,Q1 [] w c (0+2) [S D n O]/\∃(l:LP) (e:LN),l [I 0]/\∀(b:Int),l [I b]->Bf (decide (b<(n:Int))) (Ix D n b/\∃a i m g p k o q r,Q1 [] w D (b.toNat*9) [I a,I i,I m,I g,I p,I k,I o,I q,I r]/\NB w λP=>∃y,(∀N,((do eqGuard .eql QR (.tmp 16) (.tmp 17) (.agg #[I a,I i,I m,I g,I p,I k,I o,I q,I r]) (.agg #[I 0,I 0,I 0,I 0,I 0,I 0,I 0,I 0,I 0]); binOp .eql QR (.agg #[I a,I i,I m,I g,I p,I k,I o,I q,I r]) (.agg #[I 0,I 0,I 0,I 0,I 0,I 0,I 0,I 0,I 0])):Sem Va).run Tryz.prog N=.ok (.bool y) N)/\Bf y (Qz (b+1)/\l [I (b+1)]/\e [I (b+1)]<e [I b]) ((((a != 1)&&(a != 2))=false->c.isSome=true)/\∃F J G,(((a != 1)&&(a != 2))=false->Q1 [] w c (0+3) [S F J G])/\∃j,(((a != 1)&&(a != 2))=false->PX [] U2 #[S F J G,I i] w (.bool j))/\∃s,((((a != 1)&&(a != 2))||(!j))=false->PX [] T7 #[I g] w (.bool s))/\∃z,(((((a != 1)&&(a != 2))||(!j))||(!s))=false->PX [] UG #[I p] w (.bool z))/\Bf (((((a != 1)&&(a != 2))||(!j))||(!s))||(!z)) (R (.bool false) w) (NB w λx=>∃d,(∀E,Q0 [] w E->E.heap[x]? = some (Obj.cells ([I k,I o,I q]:LV).toArray Qb (0,0))->PX [] ZJ #[S (some (Addr.mk x 0 none)) 3 3] E (.bool d))/\∃f,((!d)=false->PX [] M0 #[I r] w (.bool f))/\∃H,(((!d)||(!f))=false->PX [] Xr #[.pointer c,I b] w (I H))/\∃A,(((!d)||(!f))=false->PX [] Vg #[I H,I m] w (.bool A))/\Bf (((!d)||(!f))||(!A)) (R (.bool false) w) (∃M K,PX [] Zd #[.pointer c,I m] w (.agg #[.pointer M,I K])/\∃v,PX [] QB #[.agg #[.pointer M,I K],I i] w (.pointer v)/\v.isSome=true/\∃C,Q1 [] w v (0+0) [I C]/\((a==1)=true->NB w λt=>∃h,((a==1)=true->∀u,Q0 [] w u->u.heap[t]? = some (Obj.cells ([I C]:LV).toArray Qb (0,0))->PX [] ZJ #[S (some (Addr.mk t 0 none)) 1 1] u (.bool h))/\∃L,((!h)=false->(a==1)=true->PX [] Je #[I g] w (I L))/\∃B,((!h)=false->(a==1)=true->PX [] T8 #[I k,I C,I L] w (.bool B))/\Bf ((a==1)&&((!h)||(!B))) (R (.bool false) w) (Qz (b+1)/\l [I (b+1)]/\e [I (b+1)]<e [I b]))/\(((a==1)=true->False)->Bf false (R (.bool false) w) (Qz (b+1)/\l [I (b+1)]/\e [I (b+1)]<e [I b])))))) (R (.bool true) w)
theorem GP(a):X1 (G5 a) Xu #[.pointer a]:=pV [] false [(2,⟨[(11,Ri)],[],[0,9,10],[],[]⟩)] Tryz.func89 Qk Qk
def Do(g:OA)(l d o:Int)(w:Wo)(R:RT):=NB w λh=>g.isSome=true/\∃a b i,Q1 [] w g (0+2) [S a b i]/\Ix a b d/\∃c f e q r k j n m,Q1 [] w a (d.toNat*9) [I c,I f,I e,I q,I r,I k,I j,I n,I m]/\NB w λp=>R (.bool (((c==1)&&(f==o))&&(e==l))) w
theorem E1(a b c d):X1 (Do a b c d) Jb #[.agg #[.pointer a,I b],I c,I d]:=pV [] false [] Tryz.func235 Qk Qk
def Et(d:OA)(m a e:Int)(w:Wo)(R:RT):=NB w λl=>((a != 0)=true->d.isSome=true)/\∃f k n,((a != 0)=true->Q1 [] w d (0+3) [S f k n])/\((a != 0)=true->Ix f k a)/\∃b,((a != 0)=true->Q1 [] w f (a.toNat*14+0) [.bool b])/\(((a != 0)&&b)=true->d.isSome=true)/\∃h j o,(((a != 0)&&b)=true->Q1 [] w d (0+3) [S h j o])/\(((a != 0)&&b)=true->Ix h j a)/\∃c,(((a != 0)&&b)=true->Q1 [] w h (a.toNat*14+1) [I c])/\∃g,((((a != 0)&&b)&&(c==e))=true->PX [] QB #[.agg #[.pointer d,I m],I a] w (.pointer g))/\((((a != 0)&&b)&&(c==e))=true->g.isSome=true)/\∃i,((((a != 0)&&b)&&(c==e))=true->Q1 [] w g (0+1) [.bool i])/\R (.bool ((((a != 0)&&b)&&(c==e))&&i)) w
theorem FE(a b c d):X1 (Et a b c d) JC #[.agg #[.pointer a,I b],I c,I d]:=pV [] false [] Tryz.func236 Qk Qk
def Dk(c:OA)(j k:Int)(w:Wo)(R:RT):=NB w λn=>c.isSome=true/\∃r d o,Q1 [] w c (0+2) [S r d o]/\∃(e:LP) (m:LN),e [I 0]/\∀(b:Int),e [I b]->Bf (decide (b<(d:Int))) (∃f,PX [] Jb #[.agg #[.pointer c,I j],I b,I k] w (.bool f)/\Bf f (R (.bool true) w) (Qz (b+1)/\e [I (b+1)]/\m [I (b+1)]<m [I b])) (c.isSome=true/\∃p h q,Q1 [] w c (0+3) [S p h q]/\∃(i:LP) (l:LN),i [I 0]/\∀(a:Int),i [I a]->Bf (decide (a<(h:Int))) (∃g,PX [] JC #[.agg #[.pointer c,I j],I a,I k] w (.bool g)/\Bf g (R (.bool true) w) (Qz (a+1)/\i [I (a+1)]/\l [I (a+1)]<l [I a])) (R (.bool false) w))
theorem DZ(a b c):X1 (Dk a b c) X8 #[.agg #[.pointer a,I b],I c]:=pV [] false [(2,⟨[(13,Ri)],[],[1,2,12],[],[]⟩),(8,⟨[(27,Ri)],[],[1,2,26],[],[]⟩)] Tryz.func165 Qk Qk
def Ae(h:OA)(e f:Int)(w:Wo)(R:RT):=NB w λj=>h.isSome=true/\∃b g l,Q1 [] w h (0+3) [S b g l]/\Ix b g f/\∃a r q m n k c d o,Q1 [] w b (f.toNat*14+8) [I a,I r,I q,S m n k,S c d o]/\NB w λp=>((decide (a>0))=true->Ix c d e)/\∃i,((decide (a>0))=true->Q1 [] w c (e.toNat*1) [.bool i])/\R (.bool ((decide (a>0))&&i)) w
theorem Cw(a b c):X1 (Ae a b c) UF #[.agg #[.pointer a,I b],I c]:=pV [] false [] Tryz.func194 Qk Qk
def KP(n:OA)(w:Wo)(R:RT):=n.isSome=true/\∃u r a4,Q1 [] w n (0+3) [S u r a4]/\∃(J:LP) (a0:LN),J [I 0]/\∀(h:Int),J [I h]->Bf (decide (h<(r:Int))) (Ix u r h/\∃(b9:Bool) (b5:Int) (c7:ByteArray) (a6 a7 c0 a2 b0 c1 b8 b1:Int) (b4:OA) (a1 c4:Nat) (c6:OA) (a9 c2:Nat) (x:OA) (t c3:Nat),Q1 [] w u (h.toNat*14) [.bool b9,I b5,.string c7,I a6,I a7,I c0,I a2,I b0,I c1,I b8,I b1,S b4 a1 c4,S c6 a9 c2,S x t c3]/\NB w λa3=>∃(B:LP) (O:LN),B [I 0]/\∀(g:Int),B [I g]->Bf (decide (g<(t:Int))) (Ix x t g/\∃Q c5 P U L,Q1 [] w x (g.toNat*5) [I Q,.bool c5,I P,I U,I L]/\NB w λb3=>NB w λv=>∃s,(∀G,Q0 [] w G->G.heap[v]? = some (Obj.cells ([I Q,I P,I L]:LV).toArray Qb (0,0))->PX [] ZJ #[S (some (Addr.mk v 0 none)) 3 3] G (.bool s))/\∃C,((!s)=false->PX [] Jh #[I U] w (.bool C))/\Bf ((!s)||(!C)) (R (.bool false) w) (Qz (g+1)/\B [I (g+1)]/\O [I (g+1)]<O [I g])) (Qz (h+1)/\J [I (h+1)]/\a0 [I (h+1)]<a0 [I h])) (n.isSome=true/\∃a8 K a5,Q1 [] w n (0+1) [S a8 K a5]/\∃(F:LP) (Y:LN),F [I 0]/\∀(j:Int),F [I j]->Bf (decide (j<(K:Int))) (∃f m,PX [] Zd #[.pointer n,I j] w (.agg #[.pointer f,I m])/\NB w λb7=>∃l,PX [] QB #[.agg #[.pointer f,I m],I 0] w (.pointer l)/\l.isSome=true/\∃k,Q1 [] w l (0+1) [.bool k]/\(k=false->l.isSome=true)/\∃o,(k=false->Q1 [] w l (0+2) [I o])/\((k||(o != 0))=false->l.isSome=true)/\∃z,((k||(o != 0))=false->Q1 [] w l (0+3) [I z])/\Bf ((k||(o != 0))||(z != 10)) (R (.bool false) w) (∃(q:LP) (p:LN),q [I 1]/\∀(b:Int),q [I b]->Bf (decide (b<8)) (f.isSome=true/\∃A T b2,Q1 [] w f (0+3) [S A T b2]/\Ix A T b/\∃y,Q1 [] w A (b.toNat*14+0) [.bool y]/\Bf (!y) (Qz (b+1)/\q [I (b+1)]/\p [I (b+1)]<p [I b]) (∃i,PX [] QB #[.agg #[.pointer f,I m],I b] w (.pointer i)/\i.isSome=true/\∃c,Q1 [] w i (0+1) [.bool c]/\∃a,PX [] X8 #[.agg #[.pointer f,I m],I b] w (.bool a)/\∃d,(a=true->PX [] UF #[.agg #[.pointer f,I m],I b] w (.bool d))/\((!(c==(a&&(!d))))=false->i.isSome=true)/\∃e,((!(c==(a&&(!d))))=false->Q1 [] w i (0+1) [.bool e])/\(e=true->(!(c==(a&&(!d))))=false->i.isSome=true)/\∃X,(e=true->(!(c==(a&&(!d))))=false->Q1 [] w i (0+2) [I X])/\(e=true->(!(c==(a&&(!d))))=false->f.isSome=true)/\∃E M b6,(e=true->(!(c==(a&&(!d))))=false->Q1 [] w f (0+3) [S E M b6])/\(e=true->(!(c==(a&&(!d))))=false->Ix E M b)/\∃Z,(e=true->(!(c==(a&&(!d))))=false->Q1 [] w E (b.toNat*14+1) [I Z])/\∃H,(e=true->(!(c==(a&&(!d))))=false->PX [] QB #[.agg #[.pointer f,I m],I Z] w (.pointer H))/\(e=true->(!(c==(a&&(!d))))=false->H.isSome=true)/\∃V,(e=true->(!(c==(a&&(!d))))=false->Q1 [] w H (0+0) [I V])/\(e=true->(!(c==(a&&(!d))))=false->i.isSome=true)/\∃N,(e=true->(!(c==(a&&(!d))))=false->Q1 [] w i (0+3) [I N])/\∃D,(e=true->(!(c==(a&&(!d))))=false->PX [] T8 #[I X,I V,I N] w (.bool D))/\Bf ((!(c==(a&&(!d))))||(e&&(!D))) (R (.bool false) w) (Qz (b+1)/\q [I (b+1)]/\p [I (b+1)]<p [I b]))) (Qz (j+1)/\F [I (j+1)]/\Y [I (j+1)]<Y [I j]))) (R (.bool true) w))
theorem L3(a):X1 (KP a) X4 #[.pointer a]:=pV [] false [(2,⟨[(17,Ri)],[],[0,15,16],[],[]⟩),(5,⟨[(24,Ri)],[],[0,15,16,17,22,23],[],[]⟩),(12,⟨[(50,Ri)],[],[0,49],[],[]⟩),(19,⟨[(10,Ri)],[],[0,8,49,50],[],[]⟩)] Tryz.func90 Qk Qk
def KQ(b:OA)(d:Int)(w:Wo)(R:RT):=b.isSome=true/\∃i c h,Q1 [] w b (0+2) [S i c h]/\Qz ((c:Int)-1)/\∃a,PX [] Qx #[I d,I 0,I ((c:Int)-1)] w (.bool a)/\(a=true->b.isSome=true)/\∃e g j,(a=true->Q1 [] w b (0+2) [S e g j])/\(a=true->Ix e g d)/\∃f,(a=true->Q1 [] w e (d.toNat*9+0) [I f])/\R (.bool (a&&(f != 0))) w
theorem L4(a b):X1 (KQ a b) Jg #[.pointer a,I b]:=pV [] false [] Tryz.func104 Qk Qk
def Dl(b:OA)(d o:Int)(w:Wo)(R:RT):=NB w λq=>b.isSome=true/\∃h l r,Q1 [] w b (0+2) [S h l r]/\Ix h l o/\∃g n k u v z s x A,Q1 [] w h (o.toNat*9) [I g,I n,I k,I u,I v,I z,I s,I x,I A]/\NB w λy=>Bf ((g != 1)||(k != d)) (R (.bool false) w) (∃(j:LP) (p:LN),j [I n]/\∀(a:Int),j [I a]->Bf (a != 0) (∃f,PX [] QB #[.agg #[.pointer b,I d],I a] w (.pointer f)/\f.isSome=true/\∃e,Q1 [] w f (0+1) [.bool e]/\Bf (!e) (R (.bool false) w) (b.isSome=true/\∃c m t,Q1 [] w b (0+3) [S c m t]/\Ix c m a/\∃i,Q1 [] w c (a.toNat*14+1) [I i]/\j [I i]/\p [I i]<p [I a])) (R (.bool true) w))
theorem E0(a b c):X1 (Dl a b c) Ja #[.agg #[.pointer a,I b],I c]:=pV [] false [(5,⟨[(6,Ri)],[],[2],[],[]⟩)] Tryz.func168 Qk Qk
def Hy(b:OA)(w:Wo)(R:RT):=b.isSome=true/\∃C v a6,Q1 [] w b (0+1) [S C v a6]/\∃(t:LP) (u:LN),t [I 0]/\∀(a:Int),t [I a]->Bf (decide (a<(v:Int))) (Ix C v a/\∃e c f m n,Q1 [] w C (a.toNat*5) [.bool e,I c,I f,I m,I n]/\NB w λa3=>NB w λE=>∃L,(∀J,Q0 [] w J->J.heap[E]? = some (Obj.cells ([I m,I n]:LV).toArray Qb (0,0))->PX [] ZJ #[S (some (Addr.mk E 0 none)) 2 2] J (.bool L))/\Bf (!L) (R (.bool false) w) (Bf ((c==(-1))&&(f==0)) (Qz (a+1)/\t [I (a+1)]/\u [I (a+1)]<u [I a]) (∃l i,PX [] Zd #[.pointer b,I a] w (.agg #[.pointer l,I i])/\NB w λa5=>∃g,((!e)=false->PX [] Jg #[.pointer b,I c] w (.bool g))/\∃o,(((!e)||(!g))=false->PX [] Ja #[.agg #[.pointer l,I i],I c] w (.bool o))/\∃K,((((!e)||(!g))||(!o))=false->PX [] Qx #[I f,I 1,I 149] w (.bool K))/\Bf ((((!e)||(!g))||(!o))||(!K)) (R (.bool false) w) (b.isSome=true/\∃j x N,Q1 [] w b (0+2) [S j x N]/\Ix j x c/\∃X p U H P h O T a0,Q1 [] w j (Int.toNat c*9) [I X,I p,I U,I H,I P,I h,I O,I T,I a0]/\NB w λa8=>Q1 [] w j (Int.toNat c*9) [I X,I p,I U,I H,I P,I h,I O,I T,I a0]/\(some (Zy,([.bool e,I c,I f,I m,I n]:LV))=some (Zy,([.bool e,I c,I f,I m,I n]:LV)))/\Q1 [] w b (0+2) [S j x N]/\∃D,PX [] QB #[.agg #[.pointer l,I i],I p] w (.pointer D)/\D.isSome=true/\∃r,Q1 [] w D (0+0) [I r]/\Qz (h-r)/\∃a2,PX [] Je #[I H] w (I a2)/\∃F,PX [] X7 #[I f,I a2] w (I F)/\Bf (decide (h-r>F)) (R (.bool false) w) (∃(B:LP) (V:LN),B [I p]/\∀(d:Int),B [I d]->Bf (d != 0) (∃k,PX [] QB #[.agg #[.pointer l,I i],I d] w (.pointer k)/\k.isSome=true/\∃q,Q1 [] w k (0+2) [I q]/\b.isSome=true/\∃y Z a4,Q1 [] w b (0+3) [S y Z a4]/\Ix y Z d/\∃a1,Q1 [] w y (d.toNat*14+1) [I a1]/\∃M,PX [] QB #[.agg #[.pointer l,I i],I a1] w (.pointer M)/\M.isSome=true/\∃s,Q1 [] w M (0+0) [I s]/\Qz (q-s)/\k.isSome=true/\∃Q,Q1 [] w k (0+3) [I Q]/\∃z,PX [] X7 #[I f,I Q] w (I z)/\Bf (decide (q-s>z)) (R (.bool false) w) (b.isSome=true/\∃A Y a7,Q1 [] w b (0+3) [S A Y a7]/\Ix A Y d/\∃G,Q1 [] w A (d.toNat*14+1) [I G]/\B [I G]/\V [I G]<V [I d])) (Qz (a+1)/\t [I (a+1)]/\u [I (a+1)]<u [I a])))))) (R (.bool true) w)
theorem HP(a):X1 (Hy a) XH #[.pointer a]:=pV [] false [(2,⟨[(14,Ri)],[],[0,12,13],[],[]⟩),(14,⟨[(7,Ri)],[],[0,4,5,12,13,14],[],[]⟩)] Tryz.func91 Qk Qk
def zah(t:Int)(x:OA)(A y:Nat)(s:OA)(z p:Nat)(B:OA)(v u:Nat)(w:Wo)(R:RT):=∀e f,Q0 [] w f->w.heap.size<=e->f.heap[e]? = some (Obj.cells ([I t,S x A y,S s z p,S B v u]:LV).toArray Q4 (0,0))->e∉([]:List Nat)->NB f λb=>∃(h:LQ) (m:LM),(AX [] [b] f λr=>h [.bool true,I 0] r)/\∀(c:Bool) (a:Int) d,(∀bq∈[b],bq<d.heap.size)->h [.bool c,I a] d->Bf (decide (a<5)) (∃(o:Fn) (l:Array Va) (k:Array Va),(0<=a/\a<(5:Int)/\(#[.func (.func Xt) #[] #[],.func (.func Xb) #[] #[],.func (.func Xu) #[] #[],.func (.func X4) #[] #[],.func (.func XH) #[] #[]]:Array Va)[Int.toNat a]? = some (.func o l k))/\AY [b] d λj=>OH Tryz.prog (.func o l k) [.pointer ((some (Addr.mk e 0 none)).map (·.add 0))] j λq g=>∃i,q=.returned (.bool i)/\Q9 [b] j g/\Bf (!i) (AR [b] g R (.bool false)) (Qz (a+1)/\AY [b] g λn=>h [.bool c,I (a+1)] n/\m [.bool c,I (a+1)] n<m [.bool c,I a] d)) (AR [b] d R (.bool c))
theorem zbg(a b c d e f g h i j):J6 (zah a b c d e f g h i j) Pe #[Wv a b c d e f g h i j]:=eV [1] false [(4,⟨[(4,.bool),(9,Ri)],[],[1,8],[],[]⟩)] Tryz.func21 Qk Qk
def Ab(z x u:Int)(B:OA)(m v:Nat)(y:OA)(f t:Nat)(w:Wo)(R:RT):=NB w λa=>NB w λb=>AX [] [a,b] w λq=>∃c n k,∃i,((Instr.makeSlice ZV (I (m:Int)) (I (m:Int))):Sem Va).run Tryz.prog q=.ok (S c n k) i/\Q9 [a,b] q i/\AY [a,b] i λp=>∃s,∃e,(builtin .copy #[ZV,ZV] Qb #[false,false] #[S c n k,S B m v]).run Tryz.prog p=.ok (.value (I s)) e/\Q9 [a,b] p e/\AY [a,b] e λo=>∃h j d,∃g,((Instr.makeSlice J3 (I (f:Int)) (I (f:Int))):Sem Va).run Tryz.prog o=.ok (S h j d) g/\Q9 [a,b] o g/\AY [a,b] g λr=>∃A,∃l,(builtin .copy #[J3,J3] Qb #[false,false] #[S h j d,S y f t]).run Tryz.prog r=.ok (.value (I A)) l/\Q9 [a,b] r l/\AR [a,b] l R (.agg #[I z,I x,I u,S c n k,S h j d])
theorem AN(a b c d e f g h i):J6 (Ab a b c d e f g h i) O0 #[.agg #[I a,I b,I c,S d e f,S g h i]]:=eV [] false [] Tryz.func242 Qk Qk
def Bh(p:Int)(b8:OA)(c1 b9:Nat)(c4:OA)(c2 b0:Nat)(x:OA)(O b7:Nat)(w:Wo)(R:RT):=NB w λa=>NB w λc=>NB w λb=>AX [] [a,c,b] w λF=>∃n i k,∃t,(builtin .append #[Zr,Zr] Zr #[false,false] #[S none 0 0,S b8 c1 b9]).run Tryz.prog F=.ok (.value (S n i k)) t/\Q9 [a,c,b] F t/\AY [a,c,b] t λB=>∃l m j,∃r,(builtin .append #[Z2,Z2] Z2 #[false,false] #[S none 0 0,S c4 c2 b0]).run Tryz.prog B=.ok (.value (S l m j)) r/\Q9 [a,c,b] B r/\AY [a,c,b] r λy=>∃e f o,∃s,(builtin .append #[QA,QA] QA #[false,false] #[S none 0 0,S x O b7]).run Tryz.prog y=.ok (.value (S e f o)) s/\Q9 [a,c,b] y s/\∃(v:LQ) (a3:LM),(AY [a,c,b] s λc3=>v [I 0] c3)/\∀(d:Int) h,(∀bq∈[a,c,b],bq<h.heap.size)->v [I d] h->Bf (decide (d<(f:Int))) (Ix x O d/\∃(b5:Bool) (b4:Int) (c0:ByteArray) (a9 b1 b6 a8 b3 N L D:Int) (G:OA) (z T:Nat) (X:OA) (C P:Nat) (A:OA) (a7 Q:Nat),Q1 [a,c,b] h x (d.toNat*14) [.bool b5,I b4,.string c0,I a9,I b1,I b6,I a8,I b3,I N,I L,I D,S G z T,S X C P,S A a7 Q]/\NB h λg=>AX [a,c,b] [a,c,b,g] h λK=>Cz O0 #[.agg #[I N,I L,I D,S G z T,S X C P]] K λb2 u=>∃a6 E U a1 J a0 Y M a2,b2=.returned (.agg #[I a6,I E,I U,S a1 J a0,S Y M a2])/\Q9 [a,c,b,g] K u/\(some (Q4,([I p,S n i k,S l m j,S e f o]:LV))=some (Q4,([I p,S n i k,S l m j,S e f o]:LV)))/\Ix e f d/\Yk [a,c,b,g] u e (d.toNat*14+8) 5/\AY [a,c,b,g] (R8 u e (d.toNat*14+8) [I a6,I E,I U,S a1 J a0,S Y M a2]) λa4=>∃V Z H,∃q,(builtin .append #[Z9,Z9] Z9 #[true,false] #[S none 0 0,S A a7 Q]).run Tryz.prog a4=.ok (.value (S V Z H)) q/\Q9 [a,c,b,g] a4 q/\(some (Q4,([I p,S n i k,S l m j,S e f o]:LV))=some (Q4,([I p,S n i k,S l m j,S e f o]:LV)))/\Ix e f d/\Yk [a,c,b,g] q e (d.toNat*14+13) 1/\Qz (d+1)/\AY [a,c,b,g] (R8 q e (d.toNat*14+13) [S V Z H]) λa5=>v [I (d+1)] a5/\a3 [I (d+1)] a5<a3 [I d] h) (AR [a,c,b] h R (Wv p n i k l m j e f o))
theorem BG(a b c d e f g h i j):J6 (Bh a b c d e f g h i j) U3 #[Wv a b c d e f g h i j]:=eV [] false [(6,⟨[(30,Ri)],[],[1,2,3,29],[],[]⟩)] Tryz.func172 Qk Qk
def zai(j:Int)(n:OA)(r p:Nat)(t:OA)(q h:Nat)(u:OA)(l k:Nat)(a1:Fn)(a8:Array Va)(a3:Array Va)(w:Wo)(R:RT):=NB w λa=>NB w λb=>∃i,PX [] Pe #[Wv j n r p t q h u l k] w (.bool i)/\Bf (!i) (AR [] w R (.tuple #[Wv 0 none 0 0 none 0 0 none 0 0,I 1])) (CWx [] [a,b] U3 #[Wv j n r p t q h u l k] w λz K A H v P Y C M X L=>∀c e,Q0 [a,b] L e->L.heap.size<=c->e.heap[c]? = some (Obj.cells ([I 0,S none 0 0,S none 0 0,S none 0 0]:LV).toArray Q4 (0,0))->c∉([a,b]:List Nat)->Yk [a,b] e (some (Addr.mk c 0 none)) 0 4/\∀d s,Q0 [a,b] (R8 e (some (Addr.mk c 0 none)) 0 [I z,S K A H,S v P Y,S C M X]) s->(R8 e (some (Addr.mk c 0 none)) 0 [I z,S K A H,S v P Y,S C M X]).heap.size<=d->s.heap[d]? = some (Obj.cells ([I 0]:LV).toArray Z1 (0,0))->d∉([a,b]:List Nat)->AY [a,b] s λx=>OH Tryz.prog (.func a1 a8 a3) [.pointer ((some (Addr.mk c 0 none)).map (·.add 0))] x λb0 D=>∃(U:Va),b0=.returned U/\Q9 [a,b] x D/\AY [a,b] D λV=>Cz KV #[U,.iface XX (.pointer ((some (Addr.mk d 0 none)).map (·.add 0)))] V λa6 f=>∃m,a6=.returned (.bool m)/\Q9 [a,b] V f/\Bf m (∃g,Q1 [a,b] f (some (Addr.mk d 0 none)) (0+0) [I g]/\CW [a,b] U3 #[Wv j n r p t q h u l k] f λZ b2 a9 a5 a4 a0 b1 b3 a7 a2 o=>Q1 [a,b] o (some (Addr.mk d 0 none)) (0+0) [I g]/\Q1 [a,b] o (some (Addr.mk d 0 none)) (0+0) [I g]/\AR [a,b] o R (.tuple #[Wv Z b2 a9 a5 a4 a0 b1 b3 a7 a2,I g])) (∃J B y E Q N F T O G,Q1 [a,b] f (some (Addr.mk c 0 none)) 0 [I J,S B y E,S Q N F,S T O G]/\AR [a,b] f R (.tuple #[Wv J B y E Q N F T O G,I 0])))
theorem zbh(a b c d e f g h i j k l m):J6 (zai a b c d e f g h i j k l m) Vh #[Wv a b c d e f g h i j,.func k l m]:=eV [6,7] false [] Tryz.func76 Qk Qk
def Er(B:Int)(G:OA)(L H:Nat)(P:OA)(K o:Nat)(N:OA)(D C:Nat)(y:Int)(r:Bool)(n:Fn)(l:Array Va)(t:Array Va)(m:Fn)(z:Array Va)(p:Array Va)(w:Wo)(R:RT):=NB w λa=>∀e c,Q0 [] w c->w.heap.size<=e->c.heap[e]? = some (Obj.cells ([I y]:LV).toArray Qb (0,0))->e∉([a]:List Nat)->∀b i,Q0 [a] c i->c.heap.size<=b->i.heap[b]? = some (Obj.cells ([.bool r]:LV).toArray Y6 (0,0))->b∉([a]:List Nat)->∀h d,Q0 [a] i d->i.heap.size<=h->d.heap[h]? = some (Obj.cells ([.func n l t]:LV).toArray 70 (0,0))->h∉([a]:List Nat)->∀f g,Q0 [a] d g->d.heap.size<=f->g.heap[f]? = some (Obj.cells ([.func m z p]:LV).toArray 76 (0,0))->f∉([a]:List Nat)->NB g λj=>CVx [a] [a,j] Vh #[Wv B G L H P K o N D C,.func (.func XJ) #[] #[.pointer ((some (Addr.mk e 0 none)).map (·.add 0)),.pointer ((some (Addr.mk b 0 none)).map (·.add 0)),.pointer ((some (Addr.mk h 0 none)).map (·.add 0)),.pointer ((some (Addr.mk f 0 none)).map (·.add 0))]] g λk E s u q v J F M O x A=>AR [a,j] A R (.tuple #[Wv k E s u q v J F M O,I x])
theorem ER(a b c d e f g h i j k l m n o p q r):J6 (Er a b c d e f g h i j k l m n o p q r) JA #[Wv a b c d e f g h i j,I k,.bool l,.func m n o,.func p q r]:=eV [6,7,8,9] false [] Tryz.func62 Qk Qk
def Ad(d:OA)(b:Int)(w:Wo)(R:RT):=NB w λe=>d.isSome=true/\∃a c f,Q1 [] w d (0+1) [S a c f]/\Ix a c b/\R (.pointer (a.map (·.add (b.toNat*5)))) w
theorem Cv(a b):X1 (Ad a b) Yn #[.agg #[.pointer a,I b]]:=pV [] false [] Tryz.func64 Qk Qk
def G7(d:OA)(c:Int)(w:Wo)(R:RT):=NB w λe=>∃a,PX [] Yn #[.agg #[.pointer d,I c]] w (.pointer a)/\∃b,PX [] Yn #[.agg #[.pointer d,I c]] w (.pointer b)/\a.isSome=true/\Yk [] w a (0+1) 1/\b.isSome=true/\Yk [] (R8 w a (0+1) [I (-1)]) b (0+2) 1/\AR [] (R8 (R8 w a (0+1) [I (-1)]) b (0+2) [I 0]) R (.tuple #[])
theorem Gg(a b):J6 (G7 a b) YB #[.agg #[.pointer a,I b]]:=eV [] false [] Tryz.func65 Qk Qk
def Dj(b:OA)(f:Int)(w:Wo)(R:RT):=b.isSome=true/\∃c d k,Q1 [] w b (0+2) [S c d k]/\Ix c d f/\∃q e j n o r l p s,Q1 [] w c (f.toNat*9) [I q,I e,I j,I n,I o,I r,I l,I p,I s]/\NB w λm=>∃i h,PX [] Zd #[.pointer b,I j] w (.agg #[.pointer i,I h])/\∃a,PX [] QB #[.agg #[.pointer i,I h],I e] w (.pointer a)/\a.isSome=true/\∃g,Q1 [] w a (0+0) [I g]/\R (I g) w
theorem DY(a b):X1 (Dj a b) J9 #[.pointer a,I b]:=pV [] false [] Tryz.func126 Qk Qk
def zed(b c:Int)(w:Wo)(R:RT):=∃a,PX [] Vf #[I c] w (I a)/\R (I (if (if a<b then a else b)>0 then (if a<b then a else b) else 0)) w
theorem zf5(a b):X1 (zed a b) T3 #[I a,I b]:=pV [] false [] Tryz.func127 Qk Qk
def HB(c:OA)(e:Int)(w:Wo)(R:RT):=c.isSome=true/\∃a b g,Q1 [] w c (0+2) [S a b g]/\Ix a b e/\∃f,Q1 [] w a (e.toNat*9+3) [I f]/\∃d,PX [] Je #[I f] w (I d)/\R (I d) w
theorem HR(a b):X1 (HB a b) Uo #[.pointer a,I b]:=pV [] false [] Tryz.func128 Qk Qk
def Bb(f:OA)(a c d:Int)(w:Wo)(R:RT):=f.isSome=true/\∃b k q,Q1 [] w f (0+2) [S b k q]/\Ix b k a/\∃i,Q1 [] w b (a.toNat*9+5) [I i]/\∃j,PX [] J9 #[.pointer f,I a] w (I j)/\Qz (i-j)/\∃l,PX [] Uo #[.pointer f,I a] w (I l)/\∃g,PX [] T3 #[I (i-j),I l] w (I g)/\Yk [] w b (a.toNat*9+1) 1/\Yk [] (R8 w b (a.toNat*9+1) [I c]) b (a.toNat*9+2) 1/\∃e,PX [] J9 #[.pointer f,I a] (R8 (R8 w b (a.toNat*9+1) [I c]) b (a.toNat*9+2) [I d]) (I e)/\Qz (e+g)/\Yk [] (R8 (R8 w b (a.toNat*9+1) [I c]) b (a.toNat*9+2) [I d]) b (a.toNat*9+5) 1/\∃h,Q1 [] (R8 (R8 (R8 w b (a.toNat*9+1) [I c]) b (a.toNat*9+2) [I d]) b (a.toNat*9+5) [I (e+g)]) b (a.toNat*9+0) [I h]/\Bf (h==1) (∃m o,PX [] Zd #[.pointer f,I d] (R8 (R8 (R8 w b (a.toNat*9+1) [I c]) b (a.toNat*9+2) [I d]) b (a.toNat*9+5) [I (e+g)]) (.agg #[.pointer m,I o])/\AY [] (R8 (R8 (R8 w b (a.toNat*9+1) [I c]) b (a.toNat*9+2) [I d]) b (a.toNat*9+5) [I (e+g)]) λn=>Cz YB #[.agg #[.pointer m,I o]] n λr p=>r=.returned (.tuple #[])/\Q9 [] n p/\AR [] p R (.tuple #[])) (AR [] (R8 (R8 (R8 w b (a.toNat*9+1) [I c]) b (a.toNat*9+2) [I d]) b (a.toNat*9+5) [I (e+g)]) R (.tuple #[]))
theorem BE(a b c d):J6 (Bb a b c d) T4 #[.pointer a,I b,I c,I d]:=eV [] false [] Tryz.func108 Qk Qk
def Lu(i:OA)(w:Wo)(R:RT):=i.isSome=true/\∃s g z,Q1 [] w i (0+2) [S s g z]/\∃(f:LQ) (d:LM),(AY [] w λB=>f [I 0] B)/\∀(a:Int) b,(∀bq∈([]:List Nat),bq<b.heap.size)->f [I a] b->Bf (decide (a<(g:Int))) (Ix s g a/\∃e h j m n q k o r,Q1 [] b s (a.toNat*9) [I e,I h,I j,I m,I n,I q,I k,I o,I r]/\NB b λc=>Bf (e==0) (Qz (a+1)/\AX [] [c] b λt=>f [I (a+1)] t/\d [I (a+1)] t<d [I a] b) (∃l,PX [] Xr #[.pointer i,I a] b (I l)/\∃p,PX [] Vg #[I l,I j] b (.bool p)/\Bf (!p) (CIx [] [c] MK #[I l] b λD A=>(some (QR,([I e,I h,I j,I m,I n,I q,I k,I o,I r]:LV))=some (QR,([I e,I h,I j,I m,I n,I q,I k,I o,I r]:LV)))/\AY [c] A λy=>Cz T4 #[.pointer i,I a,I h,I D] y λC v=>C=.returned (.tuple #[])/\Q9 [c] y v/\Qz (a+1)/\AY [c] v λu=>f [I (a+1)] u/\d [I (a+1)] u<d [I a] b) (Qz (a+1)/\AX [] [c] b λx=>f [I (a+1)] x/\d [I (a+1)] x<d [I a] b))) (AR [] b R (.tuple #[]))
theorem Lz(a):J6 (Lu a) Xc #[.pointer a]:=eV [] false [(1,⟨[(10,Ri)],[],[0,8,9],[],[]⟩)] Tryz.func66 Qk Qk
def Di(f:OA)(j:Int)(w:Wo)(R:RT):=∃(e:LP) (g:LN),e [I j,I 0]/\∀(b a:Int),e [I b,I a]->Bf (b != 0) (Qz (a+1)/\f.isSome=true/\∃c h i,Q1 [] w f (0+3) [S c h i]/\Ix c h b/\∃d,Q1 [] w c (b.toNat*14+1) [I d]/\e [I d,I (a+1)]/\g [I d,I (a+1)]<g [I b,I a]) (R (I a) w)
theorem DX(a b):X1 (Di a b) UT #[.pointer a,I b]:=pV [] false [(2,⟨[(1,Ri),(5,Ri)],[],[0],[],[]⟩)] Tryz.func234 Qk Qk
def MY(e:OA)(m:Int)(w:Wo)(R:RT):=NB w λa=>∃(x:LQ) (E:LM),(AX [] [a] w λM=>x [I 3] M)/\∀(f:Int) j,(∀bq∈[a],bq<j.heap.size)->x [I f] j->Bf (decide (f>=1)) (e.isSome=true/\∃H s J,Q1 [a] j e (0+3) [S H s J]/\∃(l:LQ) (i:LM),(AY [a] j λK=>l [I 0] K)/\∀(c:Int) b,(∀bq∈[a],bq<b.heap.size)->l [I c] b->Bf (decide (c<(s:Int))) (e.isSome=true/\∃q C L,Q1 [a] b e (0+3) [S q C L]/\Ix q C c/\∃n,Q1 [a] b q (c.toNat*14+0) [.bool n]/\∃p,((!n)=false->PX [a] UT #[.pointer e,I c] b (I p))/\Bf ((!n)||(p != f)) (Qz (c+1)/\AY [a] b λy=>l [I (c+1)] y/\i [I (c+1)] y<i [I c] b) (∃d,PX [a] QB #[.agg #[.pointer e,I m],I c] b (.pointer d)/\∃g,PX [a] X8 #[.agg #[.pointer e,I m],I c] b (.bool g)/\∃h,(g=true->PX [a] UF #[.agg #[.pointer e,I m],I c] b (.bool h))/\((g&&(!h))=true->d.isSome=true)/\∃r,((g&&(!h))=true->Q1 [a] b d (0+1) [.bool r])/\Bf ((g&&(!h))&&(!r)) (e.isSome=true/\∃t z N,Q1 [a] b e (0+3) [S t z N]/\Ix t z c/\∃D,Q1 [a] b t (c.toNat*14+1) [I D]/\∃v,PX [a] QB #[.agg #[.pointer e,I m],I D] b (.pointer v)/\v.isSome=true/\∃k,Q1 [a] b v (0+0) [I k]/\d.isSome=true/\∃u,Q1 [a] b d (0+2) [I u]/\Qz (u-k)/\d.isSome=true/\∃A,Q1 [a] b d (0+3) [I A]/\∃o,PX [a] T3 #[I (u-k),I A] b (I o)/\Qz (k+o)/\d.isSome=true/\Yk [a] b d (0+2) 1/\d.isSome=true/\Yk [a] (R8 b d (0+2) [I (k+o)]) d (0+1) 1/\Qz (c+1)/\AY [a] (R8 (R8 b d (0+2) [I (k+o)]) d (0+1) [.bool (g&&(!h))]) λG=>l [I (c+1)] G/\i [I (c+1)] G<i [I c] b) (d.isSome=true/\Yk [a] b d (0+1) 1/\Qz (c+1)/\AY [a] (R8 b d (0+1) [.bool (g&&(!h))]) λB=>l [I (c+1)] B/\i [I (c+1)] B<i [I c] b))) (Qz (f-1)/\AY [a] b λF=>x [I (f-1)] F/\E [I (f-1)] F<E [I f] j)) (AR [a] j R (.tuple #[]))
theorem K2(a b):J6 (MY a b) YA #[.agg #[.pointer a,I b]]:=eV [] false [(2,⟨[(2,Ri)],[],[1],[],[]⟩),(5,⟨[(17,Ri)],[],[1,2,16],[],[]⟩)] Tryz.func164 Qk Qk
def A7(c:OA)(w:Wo)(R:RT):=c.isSome=true/\∃j e k,Q1 [] w c (0+4) [S j e k]/\∃(f:LQ) (h:LM),(AY [] w λm=>f [I 0] m)/\∀(a:Int) b,(∀bq∈([]:List Nat),bq<b.heap.size)->f [I a] b->Bf (decide (a<(e:Int))) (c.isSome=true/\∃d i l,Q1 [] b c (0+4) [S d i l]/\Ix d i a/\Yk [] b d (a.toNat*1) 1/\Qz (a+1)/\AY [] (R8 b d (a.toNat*1) [.bool false]) λg=>f [I (a+1)] g/\h [I (a+1)] g<h [I a] b) (AR [] b R (.tuple #[]))
theorem AK(a):J6 (A7 a) UB #[.pointer a]:=eV [] false [(1,⟨[(8,Ri)],[],[0,7],[],[]⟩)] Tryz.func262 Qk Qk
def Hw(a:OA)(w:Wo)(R:RT):=a.isSome=true/\∃e,Q1 [] w a (0+0) [I e]/\a.isSome=true/\Yk [] w a (0+1) 1/\a.isSome=true/\Yk [] (R8 w a (0+1) [I e]) a (0+2) 1/\a.isSome=true/\∃o g m,Q1 [] (R8 (R8 w a (0+1) [I e]) a (0+2) [I 0]) a (0+3) [S o g m]/\∃(f:LQ) (k:LM),(AY [] (R8 (R8 w a (0+1) [I e]) a (0+2) [I 0]) λn=>f [I 0] n)/\∀(b:Int) c,(∀bq∈([]:List Nat),bq<c.heap.size)->f [I b] c->Bf (decide (b<(g:Int))) (a.isSome=true/\∃d j p,Q1 [] c a (0+3) [S d j p]/\Ix d j b/\Yk [] c d (b.toNat*1) 1/\Qz (b+1)/\AY [] (R8 c d (b.toNat*1) [I 0]) λi=>f [I (b+1)] i/\k [I (b+1)] i<k [I b] c) (AY [] c λh=>Cz UB #[.pointer a] h λq l=>q=.returned (.tuple #[])/\Q9 [] h l/\AR [] l R (I 0))
theorem HH(a):J6 (Hw a) Uk #[.pointer a]:=eV [] false [(3,⟨[(19,Ri)],[],[0,18],[],[]⟩)] Tryz.func237 Qk Qk
def Em(a:OA)(c:Int)(w:Wo)(R:RT):=a.isSome=true/\∃g k l,Q1 [] w a (0+3) [S g k l]/\Ix g k c/\∃h,Q1 [] w g (c.toNat*1) [I h]/\Bf (decide (h>0)) (AR [] w R (I 0)) (a.isSome=true/\∃b,Q1 [] w a (0+1) [I b]/\Bf ((if b<20 then b else 20)==0) (a.isSome=true/\∃e i m,Q1 [] w a (0+4) [S e i m]/\Ix e i c/\Yk [] w e (c.toNat*1) 1/\AR [] (R8 w e (c.toNat*1) [.bool true]) R (I 2)) (a.isSome=true/\∃d,Q1 [] w a (0+1) [I d]/\Qz (d-(if b<20 then b else 20))/\a.isSome=true/\Yk [] w a (0+1) 1/\a.isSome=true/\∃f j n,Q1 [] (R8 w a (0+1) [I (d-(if b<20 then b else 20))]) a (0+3) [S f j n]/\Ix f j c/\Yk [] (R8 w a (0+1) [I (d-(if b<20 then b else 20))]) f (c.toNat*1) 1/\AR [] (R8 (R8 w a (0+1) [I (d-(if b<20 then b else 20))]) f (c.toNat*1) [I (if b<20 then b else 20)]) R (I 0)))
theorem EQ(a b):J6 (Em a b) Vx #[.pointer a,I b]:=eV [] false [] Tryz.func238 Qk Qk
def Dg(b:OA)(c a:Int)(w:Wo)(R:RT):=((decide (a<1))=false->b.isSome=true)/\∃h j k,((decide (a<1))=false->Q1 [] w b (0+3) [S h j k])/\((decide (a<1))=false->Ix h j c)/\∃i,((decide (a<1))=false->Q1 [] w h (c.toNat*1) [I i])/\Bf ((decide (a<1))||(decide (a>i))) (AR [] w R (I 3)) (b.isSome=true/\∃d g l,Q1 [] w b (0+3) [S d g l]/\Ix d g c/\∃e,Q1 [] w d (c.toNat*1) [I e]/\Qz (e-a)/\Ix d g c/\Yk [] w d (c.toNat*1) 1/\b.isSome=true/\∃f,Q1 [] (R8 w d (c.toNat*1) [I (e-a)]) b (0+2) [I f]/\Qz (f+a)/\b.isSome=true/\Yk [] (R8 w d (c.toNat*1) [I (e-a)]) b (0+2) 1/\AR [] (R8 (R8 w d (c.toNat*1) [I (e-a)]) b (0+2) [I (f+a)]) R (I 0))
theorem DA(a b c):J6 (Dg a b c) US #[.pointer a,I b,I c]:=eV [] false [] Tryz.func239 Qk Qk
def Hx(a:OA)(c:Int)(w:Wo)(R:RT):=a.isSome=true/\∃b,Q1 [] w a (0+1) [I b]/\a.isSome=true/\∃f k l,Q1 [] w a (0+3) [S f k l]/\Ix f k c/\∃d,Q1 [] w f (c.toNat*1) [I d]/\Qz (b+d)/\a.isSome=true/\Yk [] w a (0+1) 1/\a.isSome=true/\∃e i m,Q1 [] (R8 w a (0+1) [I (b+d)]) a (0+3) [S e i m]/\Ix e i c/\Yk [] (R8 w a (0+1) [I (b+d)]) e (c.toNat*1) 1/\a.isSome=true/\∃g,Q1 [] (R8 (R8 w a (0+1) [I (b+d)]) e (c.toNat*1) [I 0]) a (0+1) [I g]/\Bf (decide (g>0)) (AY [] (R8 (R8 w a (0+1) [I (b+d)]) e (c.toNat*1) [I 0]) λj=>Cz UB #[.pointer a] j λn h=>n=.returned (.tuple #[])/\Q9 [] j h/\AR [] h R (I 0)) (AR [] (R8 (R8 w a (0+1) [I (b+d)]) e (c.toNat*1) [I 0]) R (I 0))
theorem HI(a b):J6 (Hx a b) Ul #[.pointer a,I b]:=eV [] false [] Tryz.func240 Qk Qk
def zac(c:OA)(b d k:Int)(w:Wo)(R:RT):=NB w λa=>Bf (b==4) (CIx [] [a] Uk #[.pointer c] w λq i=>AR [a] i R (I q)) (c.isSome=true/\∃o e j,Q1 [] w c (0+3) [S o e j]/\Qz ((e:Int)-1)/\∃f,PX [] Qx #[I d,I 0,I ((e:Int)-1)] w (.bool f)/\Bf (!f) (AR [] w R (I 1)) (Bf (b==1) (CIx [] [a] Vx #[.pointer c,I d] w λp n=>AR [a] n R (I p)) (Bf (b==2) (CIx [] [a] US #[.pointer c,I d,I k] w λl g=>AR [a] g R (I l)) (Bf (b==3) (CIx [] [a] Ul #[.pointer c,I d] w λm h=>AR [a] h R (I m)) (AR [] w R (I 1))))))
theorem zbe(a b c d):J6 (zac a b c d) Pc #[.pointer a,.agg #[I b,I c,I d]]:=eV [] false [] Tryz.func166 Qk Qk
def Bg(f:OA)(l:Int)(w:Wo)(R:RT):=NB w λa=>f.isSome=true/\∃Q C U,Q1 [] w f (0+3) [S Q C U]/\∃(o:LQ) (k:LM),(AX [] [a] w λa2=>o [I 0] a2)/\∀(b:Int) i,(∀bq∈[a],bq<i.heap.size)->o [I b] i->Bf (decide (b<(C:Int))) (f.isSome=true/\∃z M a0,Q1 [a] i f (0+3) [S z M a0]/\Ix z M b/\∃v,Q1 [a] i z (b.toNat*14+0) [.bool v]/\Bf (!v) (Qz (b+1)/\AY [a] i λK=>o [I (b+1)] K/\k [I (b+1)] K<k [I b] i) (f.isSome=true/\∃E p T,Q1 [a] i f (0+2) [S E p T]/\∃(q:LQ) (r:LM),(AY [a] i λV=>q [I 100000000000000001,I 0] V)/\∀(j d:Int) h,(∀bq∈[a],bq<h.heap.size)->q [I j,I d] h->Bf (decide (d<(p:Int))) (Ix E p d/\∃a4 a5 a8 Y Z m X a1 a6,Q1 [a] h E (d.toNat*9) [I a4,I a5,I a8,I Y,I Z,I m,I X,I a1,I a6]/\NB h λB=>∃x,PX [a] Jb #[.agg #[.pointer f,I l],I d,I b] h (.bool x)/\Bf x (Qz (d+1)/\AX [a] [a,B] h λP=>q [I (if m<j then m else j),I (d+1)] P/\r [I (if m<j then m else j),I (d+1)] P<r [I j,I d] h) (Qz (d+1)/\AX [a] [a,B] h λL=>q [I j,I (d+1)] L/\r [I j,I (d+1)] L<r [I j,I d] h)) (f.isSome=true/\∃a7 y a3,Q1 [a] h f (0+3) [S a7 y a3]/\∃(s:LQ) (t:LM),(AY [a] h λa9=>s [I j,I 0] a9)/\∀(e g:Int) c,(∀bq∈[a],bq<c.heap.size)->s [I e,I g] c->Bf (decide (g<(y:Int))) (∃F,PX [a] JC #[.agg #[.pointer f,I l],I g,I b] c (.bool F)/\Bf F (∃A,PX [a] QB #[.agg #[.pointer f,I l],I g] c (.pointer A)/\A.isSome=true/\∃n,Q1 [a] c A (0+2) [I n]/\Qz (g+1)/\AY [a] c λO=>s [I (if n<e then n else e),I (g+1)] O/\t [I (if n<e then n else e),I (g+1)] O<t [I e,I g] c) (Qz (g+1)/\AY [a] c λJ=>s [I e,I (g+1)] J/\t [I e,I (g+1)] J<t [I e,I g] c)) (Bf (decide (e<=100000000000000000)) (∃u,PX [a] QB #[.agg #[.pointer f,I l],I b] c (.pointer u)/\∃G,PX [a] QB #[.agg #[.pointer f,I l],I b] c (.pointer G)/\G.isSome=true/\∃D,Q1 [a] c G (0+0) [I D]/\u.isSome=true/\Yk [a] c u (0+0) 1/\Qz (b+1)/\AY [a] (R8 c u (0+0) [I (if e>D then e else D)]) λN=>o [I (b+1)] N/\k [I (b+1)] N<k [I b] i) (Qz (b+1)/\AY [a] c λH=>o [I (b+1)] H/\k [I (b+1)] H<k [I b] i))))) (AR [a] i R (.tuple #[]))
theorem BF(a b):J6 (Bg a b) T6 #[.agg #[.pointer a,I b]]:=eV [] false [(2,⟨[(13,Ri)],[],[1,12],[],[]⟩),(7,⟨[(3,Ri),(32,Ri)],[],[1,2,12,13,30,31],[],[]⟩),(13,⟨[(3,Ri),(52,Ri)],[],[1,2,12,13,51],[],[]⟩)] Tryz.func167 Qk Qk
def HA(e:OA)(w:Wo)(R:RT):=e.isSome=true/\∃b1 F a7,Q1 [] w e (0+1) [S b1 F a7]/\∃(D:LQ) (a3:LM),(AY [] w λb3=>D [I 0] b3)/\∀(i:Int) k,(∀bq∈([]:List Nat),bq<k.heap.size)->D [I i] k->Bf (decide (i<(F:Int))) (∃a2 X,PX [] Zd #[.pointer e,I i] k (.agg #[.pointer a2,I X])/\AY [] k λN=>Cz YA #[.agg #[.pointer a2,I X]] N λa8 M=>a8=.returned (.tuple #[])/\Q9 [] N M/\Qz (i+1)/\AY [] M λG=>D [I (i+1)] G/\a3 [I (i+1)] G<a3 [I i] k) (e.isSome=true/\∃a5 y a6,Q1 [] k e (0+3) [S a5 y a6]/\∃(v:LQ) (P:LM),(AY [] k λc0=>v [I 0] c0)/\∀(d:Int) j,(∀bq∈([]:List Nat),bq<j.heap.size)->v [I d] j->Bf (decide (d<(y:Int))) (e.isSome=true/\∃r Q b2,Q1 [] j e (0+3) [S r Q b2]/\Ix r Q d/\∃B q b7,Q1 [] j r (d.toNat*14+8+3) [S B q b7]/\∃(t:LQ) (u:LM),(AY [] j λb4=>t [I 0] b4)/\∀(a:Int) f,(∀bq∈([]:List Nat),bq<f.heap.size)->t [I a] f->Bf (decide (a<(q:Int))) (Ix B q a/\∃o,Q1 [] f B (a.toNat*1) [I o]/\∃Z J,((decide (o>0))=true->PX [] Zd #[.pointer e,I a] f (.agg #[.pointer Z,I J]))/\∃C,((decide (o>0))=true->PX [] X8 #[.agg #[.pointer Z,I J],I d] f (.bool C))/\Bf ((decide (o>0))&&(!C)) (CI [] Pc #[.pointer (r.map (·.add (d.toNat*14+8))),.agg #[I 3,I a,I 0]] f λc2 b6=>Qz (a+1)/\AY [] b6 λa4=>t [I (a+1)] a4/\u [I (a+1)] a4<u [I a] f) (Qz (a+1)/\AY [] f λK=>t [I (a+1)] K/\u [I (a+1)] K<u [I a] f)) (Qz (d+1)/\AY [] f λa1=>v [I (d+1)] a1/\P [I (d+1)] a1<P [I d] j)) (e.isSome=true/\∃b9 E c1,Q1 [] j e (0+1) [S b9 E c1]/\∃(s:LQ) (p:LM),(AY [] j λa9=>s [I 0] a9)/\∀(c:Int) g,(∀bq∈([]:List Nat),bq<g.heap.size)->s [I c] g->Bf (decide (c<(E:Int))) (∃m l,PX [] Zd #[.pointer e,I c] g (.agg #[.pointer m,I l])/\NB g λb=>AX [] [b] g λO=>Cz YA #[.agg #[.pointer m,I l]] O λb5 a0=>b5=.returned (.tuple #[])/\Q9 [b] O a0/\AY [b] a0 λY=>Cz T6 #[.agg #[.pointer m,I l]] Y λb0 h=>b0=.returned (.tuple #[])/\Q9 [b] Y h/\∃z,PX [b] Yn #[.agg #[.pointer m,I l]] h (.pointer z)/\z.isSome=true/\∃n,Q1 [b] h z (0+1) [I n]/\∃A,((n != (-1))=true->PX [b] Yn #[.agg #[.pointer m,I l]] h (.pointer A))/\((n != (-1))=true->A.isSome=true)/\∃L,((n != (-1))=true->Q1 [b] h A (0+1) [I L])/\∃x,((n != (-1))=true->PX [b] Ja #[.agg #[.pointer m,I l],I L] h (.bool x))/\Bf ((n != (-1))&&(!x)) (AY [b] h λU=>Cz YB #[.agg #[.pointer m,I l]] U λb8 H=>b8=.returned (.tuple #[])/\Q9 [b] U H/\Qz (c+1)/\AY [b] H λV=>s [I (c+1)] V/\p [I (c+1)] V<p [I c] g) (Qz (c+1)/\AY [b] h λT=>s [I (c+1)] T/\p [I (c+1)] T<p [I c] g)) (AR [] g R (.tuple #[]))))
theorem HJ(a):J6 (HA a) XI #[.pointer a]:=eV [] false [(1,⟨[(14,Ri)],[],[0,13],[],[]⟩),(6,⟨[(27,Ri)],[],[0,26],[],[]⟩),(10,⟨[(42,Ri)],[],[0,3,4,26,27,40,41],[],[]⟩),(17,⟨[(68,Ri)],[],[0,67],[],[]⟩)] Tryz.func67 Qk Qk
def A9(g j:OA)(h:Int)(w:Wo)(R:RT):=NB w λa=>∃b,PX [] Yn #[.agg #[.pointer j,I h]] w (.pointer b)/\b.isSome=true/\Yk [] w b (0+0) 1/\AX [] [a] (R8 w b (0+0) [.bool false]) λi=>Cz YB #[.agg #[.pointer j,I h]] i λm k=>m=.returned (.tuple #[])/\Q9 [a] i k/\AY [a] k λe=>Cz Xc #[.pointer g] e λl d=>l=.returned (.tuple #[])/\Q9 [a] e d/\AY [a] d λc=>Cz XI #[.pointer g] c λn f=>n=.returned (.tuple #[])/\Q9 [a] c f/\AR [a] f R (.tuple #[])
theorem AM(a b c):J6 (A9 a b c) UD #[.pointer a,.agg #[.pointer b,I c]]:=eV [] false [] Tryz.func63 Qk Qk
def zec(l:Int)(q:OA)(u r:Nat)(z:OA)(t d:Nat)(x:OA)(n m:Nat)(j:Int)(w:Wo)(R:RT):=NB w λa=>NB w λb=>CVx [] [a,b] JA #[Wv l q u r z t d x n m,I j,.bool true,.func (.func UC) #[] #[],.func (.func UD) #[] #[]] w λc o f g e h s p v y i k=>AR [a,b] k R (.tuple #[Wv c o f g e h s p v y,I i])
theorem zfa(a b c d e f g h i j k):J6 (zec a b c d e f g h i j k) PV #[Wv a b c d e f g h i j,I k]:=eV [] false [] Tryz.func13 Qk Qk
def zel(G:OA)(o H:Nat)(w:Wo)(R:RT):=Bf (decide ((o:Int)>1048576)) (AR [] w R (.bool true)) (CV [] VD #[S G o H] w λy i e z r u x v t p d E=>NB E λa=>CVx [] [a] PV #[Wv y i e z r u x v t p,I d] E λa5 K M a0 Z Y N Q a6 a4 k A=>NB A λb=>CVx [a] [a,b] Ta #[Wv y i e z r u x v t p,I d] A λO T L a3 a2 U a1 X P V D j=>NB j λh=>Bf (k != D) (AR [a,b] j R (.bool false)) (∃l,PX [a,b] XM #[Wv y i e z r u x v t p] j (.bool l)/\((((!l)||(decide (d<0)))||(decide (d>=(e:Int))))=false->Ix i e d)/\∃q,((((!l)||(decide (d<0)))||(decide (d>=(e:Int))))=false->Q1 [a,b] j i (Int.toNat d*5+0) [.bool q])/\Bf ((((!l)||(decide (d<0)))||(decide (d>=(e:Int))))||(!q)) (AR [a,b] j R (.bool (k != 0))) (∃(m:LQ) (n:LM),(AX [a,b] [a,b,h] j λJ=>m [I 0,I 0] J)/\∀(f c:Int) g,(∀bq∈[a,b,h],bq<g.heap.size)->m [I f,I c] g->Bf (decide (c<(e:Int))) (Ix i e c/\∃s,Q1 [a,b,h] g i (c.toNat*5+0) [.bool s]/\Bf s (Qz (f+1)/\Qz (c+1)/\AY [a,b,h] g λC=>m [I (f+1),I (c+1)] C/\n [I (f+1),I (c+1)] C<n [I f,I c] g) (Qz (c+1)/\AY [a,b,h] g λF=>m [I f,I (c+1)] F/\n [I f,I (c+1)] F<n [I f,I c] g)) (∀B,Q0 [a,b,h] g B->R (.bool (((k==5)==(f==1))&&((k==0)==(decide (f>1))))) B))))
theorem zfd(a b c):J6 (zel a b c) Gj #[S a b c]:=eV [] false [(12,⟨[(9,Ri),(10,Ri)],[],[3,6],[],[]⟩)] Tryz.func3 Qk Qk
def Lw(f:OA)(e g:Nat)(w:Wo)(R:RT):=NB w λa=>AX [] [a] w λc=>Cz JM #[S f e g] c λi d=>∃b,i=.returned (.pointer b)/\Q9 [a] c d/\CW [a] Xn #[.pointer b] d λn j k s m r p t u q h=>CI [a] U7 #[.pointer b] h λo l=>AR [a] l R (.tuple #[Wv n j k s m r p t u q,I o])
theorem LB(a b c):J6 (Lw a b c) Tc #[S a b c]:=eV [] false [] Tryz.func16 Qk Qk
def zaj(a:OA)(w:Wo)(R:RT):=R .nilIface w
theorem zc4(a):X1 (zaj a) Vi #[.pointer a]:=pV [] false [] Tryz.func101 Qk Qk
def zad(e k:OA)(h:Int)(w:Wo)(R:RT):=NB w λa=>∃b,PX [] Yn #[.agg #[.pointer k,I h]] w (.pointer b)/\b.isSome=true/\Yk [] w b (0+0) 1/\AX [] [a] (R8 w b (0+0) [.bool true]) λf=>Cz Xc #[.pointer e] f λj g=>j=.returned (.tuple #[])/\Q9 [a] f g/\AY [a] g λd=>Cz XI #[.pointer e] d λi c=>i=.returned (.tuple #[])/\Q9 [a] d c/\AR [a] c R (.tuple #[])
theorem zbf(a b c):J6 (zad a b c) Ve #[.pointer a,.agg #[.pointer b,I c]]:=eV [] false [] Tryz.func102 Qk Qk
def zif(l:Int)(q:OA)(u r:Nat)(z:OA)(t d:Nat)(x:OA)(n m:Nat)(j:Int)(w:Wo)(R:RT):=NB w λa=>NB w λb=>CVx [] [a,b] JA #[Wv l q u r z t d x n m,I j,.bool false,.func (.func Vi) #[] #[],.func (.func Ve) #[] #[]] w λc o f g e h s p v y i k=>AR [a,b] k R (.tuple #[Wv c o f g e h s p v y,I i])
theorem zi8(a b c d e f g h i j k):J6 (zif a b c d e f g h i j k) HY #[Wv a b c d e f g h i j,I k]:=eV [] false [] Tryz.func28 Qk Qk
def Lr(b:OA)(f:Int)(w:Wo)(R:RT):=b.isSome=true/\∃d a e,Q1 [] w b (0+1) [S d a e]/\Qz ((a:Int)-1)/\∃c,PX [] Qx #[I f,I 0,I ((a:Int)-1)] w (.bool c)/\R (.bool c) w
theorem LJ(a b):X1 (Lr a b) Jz #[.pointer a,I b]:=pV [] false [] Tryz.func78 Qk Qk
def zig(e:OA)(c g:Nat)(w:Wo)(R:RT):=∃(b:LP) (f:LN),b [I 0]/\∀(a:Int),b [I a]->Bf (decide (a<(c:Int))) (Ix e c a/\∃d,Q1 [] w e (a.toNat*1) [I d]/\Bf (decide (d>50000000000000000)) (R (.bool false) w) (Qz (a+1)/\b [I (a+1)]/\f [I (a+1)]<f [I a])) (R (.bool true) w)
theorem zj2(a b c):X1 (zig a b c) ZO #[S a b c]:=pV [] false [(2,⟨[(7,Ri)],[],[5,6],[],[]⟩)] Tryz.func196 Qk Qk
def Ep(k:OA)(w:Wo)(R:RT):=k.isSome=true/\∃b1,Q1 [] w k (0+0) [I b1]/\NB w λB=>∃a1,(∀U,Q0 [] w U->U.heap[B]? = some (Obj.cells ([I b1]:LV).toArray Qb (0,0))->PX [] ZO #[S (some (Addr.mk B 0 none)) 1 1] U (.bool a1))/\k.isSome=true/\∃H x c7,Q1 [] w k (0+1) [S H x c7]/\∃(A:LP) (q:LN),A [.bool a1,I 0]/\∀(i:Bool) (d:Int),A [.bool i,I d]->Bf (decide (d<(x:Int))) (Ix H x d/\∃c4 c2 f0 a2 Z,Q1 [] w H (d.toNat*5) [.bool c4,I c2,I f0,I a2,I Z]/\NB w λe2=>(i=true->NB w λD=>∃O,(i=true->∀P,Q0 [] w P->P.heap[D]? = some (Obj.cells ([I a2,I Z]:LV).toArray Qb (0,0))->PX [] ZO #[S (some (Addr.mk D 0 none)) 2 2] P (.bool O))/\Qz (d+1)/\A [.bool (i&&O),I (d+1)]/\q [.bool (i&&O),I (d+1)]<q [.bool i,I d])/\((i=true->False)->Qz (d+1)/\A [.bool false,I (d+1)]/\q [.bool false,I (d+1)]<q [.bool i,I d])) (k.isSome=true/\∃G y b3,Q1 [] w k (0+2) [S G y b3]/\∃(v:LP) (n:LN),v [.bool i,I 0]/\∀(h:Bool) (b:Int),v [.bool h,I b]->Bf (decide (b<(y:Int))) (Ix G y b/\∃c9 c5 b6 e5 d9 b0 Y a9 e6,Q1 [] w G (b.toNat*9) [I c9,I c5,I b6,I e5,I d9,I b0,I Y,I a9,I e6]/\NB w λe4=>(h=true->NB w λJ=>∃L,(h=true->∀F,Q0 [] w F->F.heap[J]? = some (Obj.cells ([I b0,I Y,I a9]:LV).toArray Qb (0,0))->PX [] ZO #[S (some (Addr.mk J 0 none)) 3 3] F (.bool L))/\Qz (b+1)/\v [.bool (h&&L),I (b+1)]/\n [.bool (h&&L),I (b+1)]<n [.bool h,I b])/\((h=true->False)->Qz (b+1)/\v [.bool false,I (b+1)]/\n [.bool false,I (b+1)]<n [.bool h,I b])) (k.isSome=true/\∃C z b4,Q1 [] w k (0+3) [S C z b4]/\∃(o:LP) (r:LN),o [.bool h,I 0]/\∀(j:Bool) (e:Int),o [.bool j,I e]->Bf (decide (e<(z:Int))) (Ix C z e/\∃(c8:Bool) (b9:Int) (d8:ByteArray) (d2 e9 d7 e7 b2 b5 e3 c0:Int) (d0:OA) (d1 d3:Nat) (e8:OA) (c3 d6:Nat) (m:OA) (l d4:Nat),Q1 [] w C (e.toNat*14) [.bool c8,I b9,.string d8,I d2,I e9,I d7,I e7,I b2,I b5,I e3,I c0,S d0 d1 d3,S e8 c3 d6,S m l d4]/\NB w λc1=>(j=true->NB w λX=>∃a3,(j=true->∀Q,Q0 [] w Q->Q.heap[X]? = some (Obj.cells ([I b2]:LV).toArray Qb (0,0))->PX [] ZO #[S (some (Addr.mk X 0 none)) 1 1] Q (.bool a3))/\∃(t:LP) (u:LN),t [.bool (j&&a3),I 0]/\∀(f:Bool) (a:Int),t [.bool f,I a]->Bf (decide (a<(l:Int))) (Ix m l a/\∃a7 d5 a0 b7 a5,Q1 [] w m (a.toNat*5) [I a7,.bool d5,I a0,I b7,I a5]/\NB w λe0=>(f=true->NB w λN=>∃V,(f=true->∀E,Q0 [] w E->E.heap[N]? = some (Obj.cells ([I a7,I a0,I a5]:LV).toArray Qb (0,0))->PX [] ZO #[S (some (Addr.mk N 0 none)) 3 3] E (.bool V))/\Qz (a+1)/\t [.bool (f&&V),I (a+1)]/\u [.bool (f&&V),I (a+1)]<u [.bool f,I a])/\((f=true->False)->Qz (a+1)/\t [.bool false,I (a+1)]/\u [.bool false,I (a+1)]<u [.bool f,I a])) (Qz (e+1)/\o [.bool f,I (e+1)]/\r [.bool f,I (e+1)]<r [.bool j,I e]))/\((j=true->False)->∃(p:LP) (s:LN),p [.bool false,I 0]/\∀(g:Bool) (c:Int),p [.bool g,I c]->Bf (decide (c<(l:Int))) (Ix m l c/\∃a6 e1 a4 c6 a8,Q1 [] w m (c.toNat*5) [I a6,.bool e1,I a4,I c6,I a8]/\NB w λb8=>(g=true->NB w λT=>∃K,(g=true->∀M,Q0 [] w M->M.heap[T]? = some (Obj.cells ([I a6,I a4,I a8]:LV).toArray Qb (0,0))->PX [] ZO #[S (some (Addr.mk T 0 none)) 3 3] M (.bool K))/\Qz (c+1)/\p [.bool (g&&K),I (c+1)]/\s [.bool (g&&K),I (c+1)]<s [.bool g,I c])/\((g=true->False)->Qz (c+1)/\p [.bool false,I (c+1)]/\s [.bool false,I (c+1)]<s [.bool g,I c])) (Qz (e+1)/\o [.bool g,I (e+1)]/\r [.bool g,I (e+1)]<r [.bool j,I e]))) (R (.bool j) w)))
theorem FB(a):X1 (Ep a) Vz #[.pointer a]:=pV [] false [(3,⟨[(3,.bool),(23,Ri)],[],[0,21,22],[],[]⟩),(8,⟨[(3,.bool),(42,Ri)],[],[0,40,41],[],[]⟩),(13,⟨[(3,.bool),(63,Ri)],[],[61,62],[],[]⟩),(17,⟨[(3,.bool),(77,Ri)],[],[61,62,63,75,76],[],[]⟩)] Tryz.func96 Qk Qk
def HC(b i E D G:OA)(w:Wo)(R:RT):=∃q,Q1 [] w i 0 [I q]/\∃h,PX [] Jz #[.pointer b,I q] w (.bool h)/\Bf (!h) (AR [] w R (.iface Z1 (.agg #[I 1]))) (b.isSome=true/\∃d A B,Q1 [] w b (0+1) [S d A B]/\∃g,Q1 [] w i 0 [I g]/\Ix d A g/\∃e,Q1 [] w d (Int.toNat g*5+0) [.bool e]/\∃k,Q1 [] w E 0 [.bool k]/\Bf (!(e==k)) (AR [] w R (.iface Z1 (.agg #[I 6]))) (∃(n:Fn) (y:Array Va) (u:Array Va),Q1 [] w D 0 [.func n y u]/\AY [] w λl=>OH Tryz.prog (.func n y u) [.pointer b] l λC a=>∃(c:Va),C=.returned c/\Q9 [] l a/\∃f,(∀z,((do eqGuard .neq zm1 (.tmp 29) (.const .nilIface) c .nilIface; binOp .neq zm1 c .nilIface):Sem Va).run Tryz.prog z=.ok (.bool f) z)/\Bf f (AR [] a R c) (∃j,PX [] Vz #[.pointer b] a (.bool j)/\Bf (!j) (AR [] a R (.iface Z1 (.agg #[I 10]))) (∃(t:Fn) (m:Array Va) (p:Array Va),Q1 [] a G 0 [.func t m p]/\∃r,Q1 [] a i 0 [I r]/\∃v s,PX [] Zd #[.pointer b,I r] a (.agg #[.pointer v,I s])/\AY [] a λx=>OH Tryz.prog (.func t m p) [.pointer b,.agg #[.pointer v,I s]] x λF o=>F=.returned (.tuple #[])/\Q9 [] x o/\AR [] o R .nilIface))))
theorem HK(a b c d e):J6 (HC a b c d e) XJ #[.pointer a,.pointer b,.pointer c,.pointer d,.pointer e]:=eV [] false [] Tryz.func163 Qk Qk
def Kh(m:Fn)(n:Array Va)(q:Array Va)(l:OA)(w:Wo)(R:RT):=∃(d:LQ) (e:LM),(AY [] w λo=>d [I 0] o)/\∀(a:Int) b,(∀bq∈([]:List Nat),bq<b.heap.size)->d [I a] b->Bf (decide (a<4)) (∃k,Q1 [] b l 0 [I k]/\∃c,PX [] JB #[I k,I a] b (.bool c)/\(c=true->AY [] b λh=>OH Tryz.prog (.func m n q) [I a] h λp f=>∃g,p=.returned (.bool g)/\Q9 [] h f/\Bf (c&&(!g)) (AR [] f R (.tuple #[])) (Qz (a+1)/\AY [] f λj=>d [I (a+1)] j/\e [I (a+1)] j<e [I a] b))/\((c=true->False)->Bf false (AR [] b R (.tuple #[])) (Qz (a+1)/\AY [] b λi=>d [I (a+1)] i/\e [I (a+1)] i<e [I a] b))) (AR [] b R (.tuple #[]))
theorem Km(a b c d):J6 (Kh a b c d) QH #[.func a b c,.pointer d]:=eV [] false [(1,⟨[(4,Ri)],[],[0,1],[],[]⟩)] Tryz.func233 Qk Qk
theorem VR:zpj Tryz.prog PS 5 YP 40 (⟨0,false,0,0,0⟩:KL):=DE Qk λ_=>rfl
theorem Pq:Tryz.prog.underlying Z9=some (.slice YP):=Qk
def QZ(b:Js)(m:MG):List Va:=[I b.IY,I b.RJ,I b.Sy,.slice m.lO b.locals.length m.lC,.slice m.dO b.Ry.length m.dC]
theorem UL{a b:ByteArray}:ZD a b=true↔a=b:=by
 unfold ZD;rw[It];constructor
 ·intro h
  have h1:∀x:ByteArray,x.toList=x.data.toList:=λx=>by
   have key:∀(n i:Nat) (r:List UInt8),n=x.size-i->ByteArray.toList.loop x i r=r.reverse++x.data.toList.drop i:=by
    intro n
    induction n with
    | zero=>
     intro i r hn;unfold ByteArray.toList.loop;rw[C' Qo,List.drop_eq_nil_iff.2 (by simp only[Array.length_toList]; show x.size<=i; omega),List.append_nil]
    | succ n ih=>
     intro i r hn;unfold ByteArray.toList.loop;have hi:i<x.data.toList.length:=by simp only[Array.length_toList]; show i<x.size; omega
     rw[E' Qo,ih (i+1) _ Qo,List.reverse_cons,List.append_assoc,List.singleton_append,List.drop_eq_getElem_cons hi]
     have:x.get! i=x.data.toList[i]:=by
      have hi':i<x.data.size:=by simpa using hi
      simp[ByteArray.get!,getElem!_pos x.data i hi']
     rw[this]
   have:=key _ 0 [] rfl
   simpa[ByteArray.toList] using this
  rw[h1,h1] at h
  cases a; cases b
  simp only at h
  congr 1
  exact Array.ext' h
 ·rintro rfl; rfl
theorem FT(a b:ByteArray):ZD a b=decide (a=b):=by
 cases h:ZD a b with
 | true=>rw[Ii (UL.1 h)]
 | false=>rw[decide_eq_false λe=>by rw[UL.2 e] at h; cases h]
def TH(p:ZN×MG):List Va:=Yt p.1 p.2
def P8:ZN×MG:=(⟨false,0,ByteArray.empty,0,0,0,0,0,⟨0,0,0,[],[]⟩,[]⟩,⟨none,0,none,0,none,0⟩)
theorem Y7:zpj Tryz.prog TH 14 QL 168 P8:=DE Qk λ_=>rfl
theorem Pp:Tryz.prog.underlying QA=some (.slice QL):=Qk
def Qm(m:MG):List Nat:=QD m.lO++QD m.dO++QD m.sO
structure Py (base:Nat) (w:Wo) (p:ZN×MG):Prop where
 loc:Ud Jd 1 Qb base w p.2.lO p.2.lC p.1.IN.locals
 Ry:Ud PR 1 Y6 base w p.2.dO p.2.dC p.1.IN.Ry
 shl:Ud PS 5 YP base w p.2.sO p.2.sC p.1.IF
theorem Py.ext{base:Nat}{w w':Wo}{p:ZN×MG}{bs:List Nat}(h:Py base w p)(hx:Q0 bs w w')(hd:∀b∈Qm p.2,b∉bs):Py base w' p:=
 ⟨h.loc.ext hx λb hb=>hd b (by simp[Qm,hb]),h.Ry.ext hx λb hb=>hd b (by simp[Qm,hb]),h.shl.ext hx λb hb=>hd b (by simp[Qm,hb])⟩
theorem Py.WG{base:Nat}{w w':Wo}{p:ZN×MG}(h:Py base w p)(hx:Q0 [] w w'):Py base w' p:=h.ext hx Qs
theorem Py.mono{base aP:Nat}{w:Wo}{p:ZN×MG}(h:Py base w p)(hb:aP<=base):Py aP w p:=⟨h.loc.mono hb,h.Ry.mono hb,h.shl.mono hb⟩
theorem Py.lt{base:Nat}{w:Wo}{p:ZN×MG}(h:Py base w p):∀b∈Qm p.2,base<=b/\b<w.heap.size:=by
 intro b hb;simp only[Qm,Io] at hb;rcases hb with (hb | hb) | hb
 ·exact h.loc.lt b hb
 ·exact h.Ry.lt b hb
 ·exact h.shl.lt b hb
structure KN (base:Nat) (w:Wo) (o:OA) (cap:Nat) (ps:List (ZN×MG)):Prop where
 row:Ud TH 14 QL base w o cap ps
 each:∀i:Int,0<=i->i<(ps.length:Int)->Py base w (gi ps i)
 dj:∀i j:Int,0<=i->i<(ps.length:Int)->0<=j->j<(ps.length:Int)->i≠j->∀b∈Qm (gi ps i).2,b∉Qm (gi ps j).2
theorem KN.mono{base aP:Nat}{w:Wo}{o:OA}{cap:Nat}{ps:List (ZN×MG)}(h:KN base w o cap ps)(hb:aP<=base):KN aP w o cap ps:=
 ⟨h.row.mono hb,λi a b=>(h.each i a b).mono hb,h.dj⟩
theorem XP{base:Nat}{w:Wo}{o:OA}{cap:Nat}{ps:List (ZN×MG)}(h:Ud TH 14 QL base w o cap ps){aP:Nat}{p:ZN×MG}(hp:Py aP w p):∀b∈Qm p.2,b∉QD o:=by
 intro b hb hx;simp only[Qm,Io] at hb;rcases hb with (hb | hb) | hb
 ·exact hp.loc.Wb h Qd b hb hx
 ·exact hp.Ry.Wb h Qd b hb hx
 ·exact hp.shl.Wb h Qd b hb hx
theorem KN.put{base:Nat}{w:Wo}{o:OA}{cap:Nat}{ps:List (ZN×MG)}(h:KN base w o cap ps){i:Int}(h0:0<=i)(hi:i<(ps.length:Int)){p:ZN×MG}(hp:Py base w p)(hd:∀j:Int,0<=j->j<(ps.length:Int)->i≠j->∀b∈Qm (gi ps j).2,b∉Qm p.2):KN base (R8 w o (Int.toNat i*14) (TH p)) o cap (ps.set i.toNat p):=by
 have hx:=h.row.qR (Int.toNat i*14) (TH p);have hlen:(ps.set i.toNat p).length=ps.length:=H';refine⟨?_,λj hj hjl=>?_,λj k hj hjl hk tE iA b hb iO=>?_⟩
 ·have:=h.row.R8 Y7.len h0 hi (j:=0) (vs:=TH p) (x:=p) (by rw[List.take_zero,List.nil_append,List.drop_eq_nil_iff.2 (by rw[Nat.zero_add,Y7.len,Y7.len]; exact I8 _),List.append_nil]) (by rw[Nat.zero_add,Y7.len]; exact I8 _);exact this
 ·rw[hlen] at hjl;rw[QI _ _ h0 hi hj];split
  ·exact hp.ext hx (XP h.row hp)
  ·exact(h.each j hj hjl).ext hx (XP h.row (h.each j hj hjl))
 ·rw[hlen] at hjl tE;rw[QI _ _ h0 hi hj] at hb;rw[QI _ _ h0 hi hk] at iO
  by_cases e1:i=j
  ·rw[E' e1] at hb
   by_cases e2:i=k
   ·omega
   ·rw[C' e2] at iO;exact hd k hk tE e2 b iO hb
  ·rw[C' e1] at hb
   by_cases e2:i=k
   ·rw[E' e2] at iO;exact hd j hj hjl e1 b hb iO
   ·rw[C' e2] at iO;exact h.dj j k hj hjl hk tE iA b hb iO
theorem U9{z:Int}(h1 : -9223372036854775808<=z)(h2:z<=9223372036854775807):Ql .i64 z:=⟨h1,h2⟩
def zh6(w:Int):Int:=Int.tdiv 232792560 w
def YJ(n a b:Int):Bool:=decide (n>=a)&&decide (n<=b)
theorem Qt{n a b:Int}:YJ n a b=true↔a<=n/\n<=b:=by simp[YJ]
theorem zzu{n a b:Int}:YJ n a b=false↔¬(a<=n/\n<=b):=by rw[<-Qt]; simp
def Zf(n w:Int):Int:=if YJ n 0 100000000&&YJ w 1 20 then n*zh6 w else 0
def ZB(w:Int):Int:=Zf 149 w
theorem zzd:∀k:Fin 20,zh6 ((k.val:Int)+1)*((k.val:Int)+1)=232792560:=Qd
theorem zze{w:Int}(h1:1<=w)(h2:w<=20):zh6 w*w=232792560:=by
 have:=zzd ⟨(w-1).toNat,Qo⟩;have e:(((w-1).toNat:Nat):Int)+1=w:=Qo;simp only[e] at this;exact this
theorem zdy{w:Int}(h1:1<=w)(h2:w<=20):11639628<=zh6 w/\zh6 w<=232792560:=by
 have h:=zze h1 h2
 have hp:0<=zh6 w:=by
  rcases Int.lt_or_le (zh6 w) 0 with hn | hn
  ·have:=Int.mul_neg_of_neg_of_pos hn (show 0<w by omega);omega
  ·exact hn
 constructor
 ·have:=Int.mul_le_mul_of_nonneg_left h2 hp;omega
 ·have:=Int.mul_le_mul_of_nonneg_left h1 hp;omega
theorem P7{n w:Int}(h1:0<=n)(h2:n<=100000000)(h3:1<=w)(h4:w<=20):Zf n w=n*zh6 w:=by
 unfold Zf;rw[E'];rw[A',Qt,Qt]; exact⟨⟨h1,h2⟩,h3,h4⟩
theorem Hu{n w:Int}(h:¬(0<=n/\n<=100000000/\1<=w/\w<=20)):Zf n w=0:=by
 unfold Zf;rw[C'];rw[A',Qt,Qt]; omega
theorem zjz{n w:Int}(h1:0<=n)(h2:n<=100000000)(h3:1<=w)(h4:w<=20):0<=n*zh6 w/\n*zh6 w<=23279256000000000:=by
 have hs:=zdy h3 h4;refine⟨Int.mul_nonneg h1 Qo,?_⟩
 calc n*zh6 w<=100000000*zh6 w:=Int.mul_le_mul_of_nonneg_right h2 Qo
  _<=100000000*232792560:=Int.mul_le_mul_of_nonneg_left hs.2 Qd
  _=23279256000000000:=rfl
theorem H7(n w:Int):0<=Zf n w/\Zf n w<=23279256000000000:=by
 by_cases h:0<=n/\n<=100000000/\1<=w/\w<=20
 ·rw[P7 h.1 h.2.1 h.2.2.1 h.2.2.2]; exact zjz h.1 h.2.1 h.2.2.1 h.2.2.2
 ·rw[Hu h]; omega
theorem QN{n a b:Int}{w:Wo}{bs:List Nat}:PX bs Qx #[I n,I a,I b] w (.bool (YJ n a b)):=
 zc3 n a b λwr hx=>by unfold G6; rfl
theorem Qr{n a b:Int}{w:Wo}{bs:List Nat}:PX bs Qh #[I n,I a,I b] w (.bool (YJ n a b)):=
 zl8 n a b λwr hx=>by unfold NN; rfl
theorem Pm{n:Int}{w:Wo}{bs:List Nat}:PX bs Jh #[I n] w (.bool (YJ n 1 20)):=
 Cy n λwr hx=>⟨_,QN,rfl⟩
theorem JO{n:Int}{w:Wo}{bs:List Nat}:PX bs YF #[I n] w (.bool (YJ n 1 20)):=
 CG n λwr hx=>⟨_,Qr,rfl⟩
theorem D2{n:Int}{w:Wo}{bs:List Nat}:PX bs T7 #[I n] w (.bool (YJ n (-10) 9)):=
 zf8 n λwr hx=>⟨_,QN,rfl⟩
def VY(k j:Nat):Int:=if j<=k then zh6 (j:Int) else 0
def z3j(k:Nat):List Va:=[I ((k:Int)+1),I 0,I (VY k 1),I (VY k 2),I (VY k 3),I (VY k 4),I (VY k 5),I (VY k 6),I (VY k 7),
 I (VY k 8),I (VY k 9),I (VY k 10),I (VY k 11),I (VY k 12),I (VY k 13),I (VY k 14),I (VY k 15),I (VY k 16),I (VY k 17),I (VY k 18),I (VY k 19),I (VY k 20)]
theorem DN{w:Wo}{bs:List Nat}:PX bs UU #[] w (.agg #[I 0,I (VY 20 1),I (VY 20 2),I (VY 20 3),I (VY 20 4),I (VY 20 5),I (VY 20 6),I (VY 20 7),
 I (VY 20 8),I (VY 20 9),I (VY 20 10),I (VY 20 11),I (VY 20 12),I (VY 20 13),I (VY 20 14),I (VY 20 15),I (VY 20 16),I (VY 20 17),I (VY 20 18),I (VY 20 19),I (VY 20 20)]):=
 E2 λwr hx=>by
  intro _ _ _ _
  refine⟨λvs=>∃k:Nat,k<=20/\vs=z3j k,λvs=>match vs with
   | .int _ i::_=>(21-i).toNat
   | _=>0,⟨0,Qo,rfl⟩,?_⟩
  rintro i l l1 l2 l3 l4 l5 l6 l7 l8 l9 l10 l11 l12 l13 l14 l15 l16 l17 l18 l19 l20 ⟨k,hk,he⟩;simp only[z3j,I5,I6,true_and,and_true] at he;obtain⟨rfl,rfl,rfl,rfl,rfl,rfl,rfl,rfl,rfl,rfl,rfl,rfl,rfl,rfl,rfl,rfl,rfl,rfl,rfl,rfl,rfl,rfl⟩:=he;constructor
  ·intro h;have h:=Ot h;refine⟨⟨Qo,?_⟩,⟨Qo,Qo⟩,Qo,?_⟩
   ·have:=zdy (w:=(k:Int)+1) Qo Qo;exact U9 (by unfold zh6 at this; omega) (by unfold zh6 at this; omega)
   ·refine⟨_,_,_,_,_,_,_,_,_,_,_,_,_,_,_,_,_,_,_,_,_,?_,U9 Qo Qo,⟨k+1,Qo,rfl⟩,?_⟩
    ·have:k=0\/k=1\/k=2\/k=3\/k=4\/k=5\/k=6\/k=7\/k=8\/k=9\/k=10\/k=11\/k=12\/k=13\/k=14\/k=15\/k=16\/k=17\/k=18\/k=19:=Qo;rcases this with rfl | rfl | rfl | rfl | rfl | rfl | rfl | rfl | rfl | rfl | rfl | rfl | rfl | rfl | rfl | rfl | rfl | rfl | rfl | rfl <;> rfl
    ·show (21-(((k:Int)+1)+1)).toNat<(21-((k:Int)+1)).toNat;omega
  ·intro h;have h:=Ou h;have hk:k=20:=Qo;subst hk;rfl
theorem z1r{k:Int}(h1:1<=k)(h2:k<=20):(#[I 0,I (VY 20 1),I (VY 20 2),I (VY 20 3),I (VY 20 4),I (VY 20 5),I (VY 20 6),I (VY 20 7),
 I (VY 20 8),I (VY 20 9),I (VY 20 10),I (VY 20 11),I (VY 20 12),I (VY 20 13),I (VY 20 14),I (VY 20 15),I (VY 20 16),I (VY 20 17),I (VY 20 18),I (VY 20 19),I (VY 20 20)]:Array Va)[Int.toNat k]? = some (I (zh6 k)):=by
 have:k=1\/k=2\/k=3\/k=4\/k=5\/k=6\/k=7\/k=8\/k=9\/k=10\/k=11\/k=12\/k=13\/k=14\/k=15\/k=16\/k=17\/k=18\/k=19\/k=20:=Qo;rcases this with rfl | rfl | rfl | rfl | rfl | rfl | rfl | rfl | rfl | rfl | rfl | rfl | rfl | rfl | rfl | rfl | rfl | rfl | rfl | rfl <;> rfl
theorem VK{n k:Int}{w:Wo}{bs:List Nat}:PX bs X7 #[I n,I k] w (I (Zf n k)):=
 DW n k λwr hx=>by
  refine⟨_,QN,_,λ_=>Pm,λh=>?_,λh=>?_⟩
  ·congr 1; unfold Zf; rw[C']; intro h2; simp only[A'] at h2; simp[h2] at h
  ·have h2:YJ n 0 100000000=true/\YJ k 1 20=true:=by simpa using h
   rw[Qt,Qt] at h2;have hm:=zjz h2.1.1 h2.1.2 h2.2.1 h2.2.2;refine⟨_,_,_,_,_,_,_,_,_,_,_,_,_,_,_,_,_,_,_,_,_,DN,zh6 k,⟨Qo,Qo,z1r h2.2.1 h2.2.2⟩,U9 Qo Qo,?_⟩;rw[P7 h2.1.1 h2.1.2 h2.2.1 h2.2.2]
theorem Gu{k:Int}{w:Wo}{bs:List Nat}:PX bs Vf #[I k] w (I (ZB k)):=
 zc0 k λwr hx=>⟨_,VK,rfl⟩
def MH(s:ByteArray):Bool:=(((((ZD s (⟨[119,101,105,103,104,116].toArray⟩))||(ZD s (⟨[109,97,120].toArray⟩)))||(ZD s (⟨[99,112,117,115].toArray⟩)))||(ZD s (⟨[112,114,111,99,115].toArray⟩)))||(ZD s (⟨[115,116,97,116].toArray⟩)))
def zw9(x:Int):Bool:=(((decide (x>=97))&&(decide (x<=122)))||((decide (x>=48))&&(decide (x<=57))))
def Uu(s:ByteArray):Bool:=YJ (s.size:Int) 1 8 && !MH s&&(List.range s.size).all λi=>zw9 (Uc s (i:Int))
theorem L1{s:ByteArray}:Uu s=true↔(1<=s.size/\s.size<=8)/\MH s=false/\∀i:Nat,i<s.size->zw9 (Uc s (i:Int))=true:=by
 unfold Uu;simp only[A',Qt,IC,List.all_eq_true,List.mem_range];constructor
 ·rintro⟨⟨h1,h2⟩,h3⟩; exact⟨⟨Qo,Qo⟩,h2,h3⟩
 ·rintro⟨⟨h0,h1⟩,h2,h3⟩; exact⟨⟨⟨Qo,Qo⟩,h2⟩,h3⟩
theorem Kv{s:ByteArray}(h:¬((1<=s.size/\s.size<=8)/\MH s=false/\∀i:Nat,i<s.size->zw9 (Uc s (i:Int))=true)):Uu s=false:=by
 cases hn:Uu s with
 | false=>rfl
 | true=>exact Is (L1.1 hn) h
theorem zfv{s:ByteArray}{w:Wo}{bs:List Nat}:PX bs M1 #[.string s] w (.bool (MH s)):=
 zgi s λwr hx=>rfl
theorem D7{s:ByteArray}{w:Wo}{bs:List Nat}:PX bs Tf #[.string s] w (.bool (Uu s)):=
 zge s λwr hx=>by
  refine⟨_,Qr,MH s,λ_=>zfv,λh=>?_,λh=>?_⟩
  ·rw[Kv];rintro⟨h1,h2,_⟩;rw[h2,Qt.2 Qo] at h;cases h
  ·have h:YJ (s.size:Int) 1 8=true/\MH s=false:=by simpa using h
   have h1:=Qt.1 h.1;refine XB s.size 0 rfl (λk=>k<=s.size/\∀j:Nat,j<k->zw9 (Uc s (j:Int))=true) ⟨Ie _,λj hj=>Is hj (Nat.not_lt_zero j)⟩ λk ⟨hk,hI⟩=>⟨λIT=>?_,λRN=>?_⟩
   ·have IT:=Ot IT;have hr:0<=(k:Int)/\(k:Int)<(s.size:Int):=⟨Qo,IT⟩;refine⟨hr,λ_=>hr,λ_=>hr,λ_ _=>hr,λlA=>?_,λAN0=>⟨⟨Qo,Qo⟩,QE Qo ⟨Qo,λj hj=>?_⟩⟩⟩
    ·rw[Kv];rintro⟨_,_,h3⟩;have:=h3 k Qo;unfold zw9 at this;rw[this] at lA;cases lA
    ·by_cases iA:j<k
     ·exact hI j iA
     ·have:j=k:=Qo;subst this;unfold zw9;rw[I7] at AN0;exact AN0
   ·have RN:=Ou RN;have hk:k=s.size:=Qo;subst hk;rw[L1.2 ⟨⟨Qo,Qo⟩,h.2,hI⟩]
def Q6(gs:List ZN)(g:Int):Bool:=(decide (g>=0)&&decide (g<(gs.length:Int)))&&(gi gs g).used
theorem Q5{gs:List ZN}{g:Int}:Q6 gs g=true↔0<=g/\g<(gs.length:Int)/\(gi gs g).used=true:=by
 unfold Q6;simp[and_assoc]
def dep:Nat->List ZN->Int->Int
 | 0,_,g=>if g=0 then 0 else -1
 | f+1,gs,g=>if g=0 then 0 else if dep f gs (gi gs g).parent<0 then -1 else dep f gs (gi gs g).parent+1
def P2:Nat->List ZN->Int->Int->Int
 | 0,_,_,_ => -1
 | f+1,gs,g,n=>if Q6 gs g=false then -1 else if g=0 then n else P2 f gs (gi gs g).parent (n+1)
theorem TZ(gs:List ZN):∀(f:Nat) (g:Int),-1<=dep f gs g/\dep f gs g<=f
 | 0,g=>by simp only[dep]; split <;> omega
 | f+1,g=>by
  have:=TZ gs f (gi gs g).parent;simp only[dep];split
  ·omega
  ·split <;> omega
theorem Ge(gs:List ZN):∀(f f':Nat) (g:Int),0<=dep f gs g->dep f gs g<=f'->dep f' gs g=dep f gs g
 | 0,f',g,h,_=>by
  simp only[dep] at h ⊢
  split at h
  ·rename_i hg
   cases f' <;> simp[dep,hg]
  ·omega
 | f+1,f',g,h,hle=>by
  simp only[dep] at h hle ⊢
  by_cases hg:g=0
  ·rw[E' hg]
   cases f' <;> simp[dep,hg]
  ·rw[C' hg] at h hle ⊢
   by_cases hd:dep f gs (gi gs g).parent<0
   ·rw[E' hd] at h; omega
   ·rw[C' hd] at hle ⊢
    cases f' with
    | zero=>omega
    | succ f'=>
     have:=Ge gs f f' (gi gs g).parent Qo Qo;simp only[dep];rw[C' hg,this,C' hd]
theorem Y8(gs:List ZN)(f:Nat):dep f gs 0=0:=by cases f <;> simp[dep]
theorem zul{gs:List ZN}{f:Nat}{g:Int}(h:dep f gs g=0):g=0:=by
 cases f with
 | zero=>simp only[dep] at h; split at h <;> first | assumption | omega
 | succ f=>
  simp only[dep] at h
  split at h
  ·assumption
  ·split at h <;> omega
structure Yc (gs:List ZN):Prop where
 len:gs.length=8
 ru:(gi gs 0).used=true
 rp:(gi gs 0).parent = -1
 rn:(gi gs 0).name=⟨[].toArray⟩
 nm:∀g:Int,1<=g->g<8->(gi gs g).used=true->Uu (gi gs g).name=true
 par:∀g:Int,1<=g->g<8->(gi gs g).used=true->Q6 gs (gi gs g).parent=true
 dp:∀g:Int,1<=g->g<8->(gi gs g).used=true->0<=dep 3 gs g
 uniq:∀g h:Int,1<=h->h<g->g<8->(gi gs g).used=true->(gi gs h).used=true->¬((gi gs h).parent=(gi gs g).parent/\(gi gs h).name=(gi gs g).name)
noncomputable def MP(gs:List ZN):Bool:=@decide (Yc gs) (Classical.propDecidable _)
theorem VV{gs:List ZN}:MP gs=true↔Yc gs:=@decide_eq_true_iff _ (Classical.propDecidable _)
theorem FX{gs:List ZN}(h:¬Yc gs):MP gs=false:=by
 cases hb:MP gs with
 | false=>rfl
 | true=>exact Is (VV.1 hb) h
theorem Fo{gs:List ZN}(hp:∀g:Int,g≠0->Q6 gs g=true->Q6 gs (gi gs g).parent=true):∀(f:Nat) (g n:Int),Q6 gs g=true->P2 (f+1) gs g n=if dep f gs g<0 then -1 else n+dep f gs g
 | 0,g,n,hu=>by
  simp only[P2,dep,hu]
  by_cases hg:g=0 <;> simp[hg]
 | f+1,g,n,hu=>by
  rw[P2];simp only[hu]
  by_cases hg:g=0
  ·simp[hg,dep]
  ·have ih:=Fo hp f (gi gs g).parent (n+1) (hp g hg hu);have hr:=TZ gs f (gi gs g).parent;simp only[dep,C' hg];rw[ih]
   by_cases hd:dep f gs (gi gs g).parent<0
   ·simp[hd]
   ·have h2:¬(dep f gs (gi gs g).parent+1<0):=Qo;simp[hd,h2]; omega
theorem zsl{gs:List ZN}{f:Nat}{g n:Int}(hg:g≠0)(h:P2 (f+1) gs g n≠-1):f≠0/\Q6 gs (gi gs g).parent=true:=by
 rw[P2] at h
 by_cases hu:Q6 gs g=false
 ·rw[E' hu] at h; exact Is rfl h
 ·rw[C' hu,C' hg] at h
  cases f with
  | zero=>exact Is rfl h
  | succ f=>
   rw[P2] at h
   by_cases hp:Q6 gs (gi gs g).parent=false
   ·rw[E' hp] at h; exact Is rfl h
   ·exact⟨Qo,by simpa using hp⟩
structure zpn (gs:List ZN) (k:Int):Prop where
 each:∀g:Int,1<=g->g<k->(gi gs g).used=true->Uu (gi gs g).name=true/\YJ (P2 9 gs g 0) 1 3=true/\∀h:Int,1<=h->h<g->(gi gs h).used=true->¬((gi gs h).parent=(gi gs g).parent/\(gi gs h).name=(gi gs g).name)
theorem zti{gs:List ZN}(hl:gs.length=8)(ru:(gi gs 0).used=true)(rp:(gi gs 0).parent = -1)(rn:(gi gs 0).name=⟨[].toArray⟩)(h:zpn gs 8):Yc gs:=by
 have par:∀g:Int,1<=g->g<8->(gi gs g).used=true->Q6 gs (gi gs g).parent=true:=λg h1 h2 hu=>by
  have:=Qt.1 (h.each g h1 h2 hu).2.1;exact(zsl (f:=8) (n:=0) Qo (by show P2 9 gs g 0≠-1; omega)).2
 have hp:∀g:Int,g≠0->Q6 gs g=true->Q6 gs (gi gs g).parent=true:=λg hg hu=>by
  obtain⟨a,b,c⟩:=Q5.1 hu;exact par g Qo Qo c
 refine⟨hl,ru,rp,rn,λg h1 h2 hu=>(h.each g h1 h2 hu).1,par,λg h1 h2 hu=>?_,λg k h1 h2 h3 hu hk=>(h.each g Qo h3 hu).2.2 k h1 h2 hk⟩;have h9:=Qt.1 (h.each g h1 h2 hu).2.1;rw[Fo hp 8 g 0 (Q5.2 ⟨Qo,Qo,hu⟩)] at h9
 split at h9
 ·omega
 ·rename_i hd;have:=Ge gs 8 3 g Qo Qo;omega
theorem zrn{gs:List ZN}(h:Yc gs):zpn gs 8:=by
 have hp:∀g:Int,g≠0->Q6 gs g=true->Q6 gs (gi gs g).parent=true:=λg hg hu=>by
  obtain⟨a,b,c⟩:=Q5.1 hu;have:=h.len;exact h.par g Qo Qo c
 refine⟨λg h1 h2 hu=>⟨h.nm g h1 h2 hu,?_,λk h3 h4 hk=>h.uniq g k h3 h4 h2 hu hk⟩⟩;have hl:=h.len;rw[Fo hp 8 g 0 (Q5.2 ⟨Qo,Qo,hu⟩)];have h3:=h.dp g h1 h2 hu;have hr:=TZ gs 3 g;have:=Ge gs 3 8 g h3 Qo;rw[this,C' Qo];have hz:dep 3 gs g≠0:=λe=>by have:=zul e; omega
 exact Qt.2 Qo
section
variable {gs:List ZN}{ms:Nat->MG}{o:OA}{c:Nat}{w:Wo}{bs:List Nat}
theorem Ld.used(h:Ld bs w o gs ms){i:Int}(h0:0<=i)(h1:i<(gs.length:Int)):Q1 bs w o (Int.toNat i*14+0) [.bool (gi gs i).used]:=(h.cells i h0 h1).get 0 _ rfl
theorem Ld.parent(h:Ld bs w o gs ms){i:Int}(h0:0<=i)(h1:i<(gs.length:Int)):Q1 bs w o (Int.toNat i*14+1) [I (gi gs i).parent]:=(h.cells i h0 h1).get 1 _ rfl
theorem Ld.name(h:Ld bs w o gs ms){i:Int}(h0:0<=i)(h1:i<(gs.length:Int)):Q1 bs w o (Int.toNat i*14+2) [.string (gi gs i).name]:=(h.cells i h0 h1).get 2 _ rfl
theorem Xf{g:Int}(h:Ld bs w o gs ms):PX bs Ya #[.slice o gs.length c,I g] w (.bool (Q6 gs g)):=
 zgj o gs.length c g λwr hx=>by
  have h:=(h.ext hx).less (cs:=[]) Qs;refine⟨λq=>?_,(gi gs g).used,λq=>?_,rfl⟩
  ·have q:0<=g/\g<(gs.length:Int):=by simpa using q
   exact h.ix q.1 q.2
  ·have q:0<=g/\g<(gs.length:Int):=by simpa using q
   exact h.used q.1 q.2
theorem Mf{g:Int}(h:Ld bs w o gs ms)(hl:gs.length<maxLen):PX bs JN #[.slice o gs.length c,I g] w (I (P2 (gs.length+1) gs g 0)):=
 zdc o gs.length c g λwr hx=>by
  have h:=(h.ext hx).less (cs:=[]) Qs;refine P3 (gs.length+1) 0 rfl (λx k=>k<=gs.length+1/\P2 (gs.length+1-k) gs x k=P2 (gs.length+1) gs g 0) ⟨Qo,rfl⟩ λx k ⟨hk,he⟩=>⟨λIT=>?_,λRN=>?_⟩
  ·have IT:=Ot IT;have hf:gs.length+1-k=(gs.length-k)+1:=Qo;rw[hf,P2] at he;refine⟨_,Xf h,λhu=>?_,λhu=>?_⟩
   ·have hu:Q6 gs x=false:=by simpa using hu
    rw[E' hu] at he;rw[<-he]
   ·have hu:Q6 gs x=true:=by simpa using hu
    rw[C' (by simp[hu])] at he;obtain⟨u1,u2,u3⟩:=Q5.1 hu;refine⟨λhz=>?_,λhz=>?_⟩
    ·rw[E' (by simpa using hz)] at he;rw[<-he]
    ·rw[C' (by simpa using hz)] at he;have hm:=XF;refine⟨h.ix u1 u2,_,h.parent u1 u2,⟨Qo,Qo⟩,QK Qo ⟨Qo,?_⟩⟩;rw[<-he,show gs.length+1-(k+1)=gs.length-k by omega];rfl
  ·have RN:=Ou RN;have:gs.length+1-k=0:=Qo;rw[this] at he;rw[<-he]; rfl
theorem D8(h:Ld bs w o gs ms)(hl:gs.length<=maxLen):PX bs Th #[.slice o gs.length c] w (.bool (MP gs)):=
 zgf o gs.length c λwr hx=>by
  have h:=(h.ext hx).less (cs:=[]) Qs;have l8:((((gs.length:Nat):Int) != 8)=false)->gs.length=8:=λq=>by have:=(bne_eq_false_iff_eq).1 q; omega
  have i0:∀q:(((gs.length:Nat):Int) != 8)=false,(0:Int)<(gs.length:Int):=λq=>by have:=l8 q; omega
  refine⟨λq=>h.ix (I3 _) (i0 q),(gi gs 0).used,λq=>h.used (I3 _) (i0 q),λq=>?_,(gi gs 0).parent,λq=>?_,λq=>?_,(gi gs 0).name,λq=>?_,λq=>?_,λq=>?_⟩
  ·simp only[I0] at q; exact h.ix (I3 _) (i0 q.1)
  ·simp only[I0] at q; exact h.parent (I3 _) (i0 q.1)
  ·simp only[I0] at q; exact h.ix (I3 _) (i0 q.1.1)
  ·simp only[I0] at q; exact h.name (I3 _) (i0 q.1.1)
  ·rw[FX];intro ht;have e:((gs.length:Nat):Int)=8:=by have:=ht.len; omega
   rw[e,ht.ru,ht.rp,ht.rn,FT] at q;simp at q
  ·simp only[I0,I7,bne_eq_false_iff_eq,UL] at q;obtain⟨⟨⟨q1,ru⟩,rp⟩,rn⟩:=q;have hl8:gs.length=8:=Qo;refine XB 8 1 rfl (λk=>1<=k/\k<=8/\zpn gs k) ⟨I8 _,Qo,⟨λg h1 h2=>by omega⟩⟩ λk ⟨hk1,hk,hS⟩=>⟨λIT=>?_,λRN=>?_⟩
   ·have IT:=Ot IT;have fE:(0:Int)<=(k:Int):=Qo
    have step:((gi gs (k:Int)).used=true->Uu (gi gs (k:Int)).name=true/\YJ (P2 9 gs (k:Int) 0) 1 3=true/\∀h:Int,1<=h->h<(k:Int)->(gi gs h).used=true->¬((gi gs h).parent=(gi gs (k:Int)).parent/\(gi gs h).name=(gi gs (k:Int)).name))->zpn gs ((k+1:Nat):Int):=λnG=>⟨λg h1 h2 hu=>by
     by_cases tD:g<(k:Int)
     ·exact hS.each g h1 tD hu
     ·have:g=(k:Int):=Qo;subst this; exact nG hu⟩
    refine⟨h.ix fE IT,_,h.used fE IT,λhu=>⟨⟨Qo,Qo⟩,QE Qo ⟨Qo,Qo,step λhu'=>by rw[hu'] at hu; cases hu⟩⟩,λhu=>?_⟩;have hu:(gi gs (k:Int)).used=true:=by simpa using hu
    refine⟨h.ix fE IT,_,h.name fE IT,_,D7,P2 9 gs (k:Int) 0,λ_=>?_,YJ (P2 9 gs (k:Int) 0) 1 3,λ_=>Qr,λq=>?_,λq=>?_⟩
    ·have:=Mf (c:=c) (g:=(k:Int)) h (by rw[hl8]; simp[maxLen])
     rwa[hl8] at this ⊢
    ·rw[FX];intro ht;have:=(zrn ht).each (k:Int) Qo Qo hu;rw[this.1,this.2.1] at q;cases q
    ·simp only[I0,I7] at q;refine XB k 1 rfl (λj=>1<=j/\j<=k/\∀h:Int,1<=h->h<(j:Int)->(gi gs h).used=true->¬((gi gs h).parent=(gi gs (k:Int)).parent/\(gi gs h).name=(gi gs (k:Int)).name)) ⟨I8 _,hk1,λg h1 h2=>by omega⟩ λj ⟨hj1,iA,hJ⟩=>⟨λRM=>?_,λbK=>?_⟩
     ·have RM:=Ot RM;have hj0:(0:Int)<=(j:Int):=Qo;have hjl:(j:Int)<(gs.length:Int):=Qo;refine⟨h.ix hj0 hjl,_,h.used hj0 hjl,λ_=>h.ix hj0 hjl,_,λ_=>h.parent hj0 hjl,λ_=>h.ix fE IT,_,λ_=>h.parent fE IT,λ_=>h.ix hj0 hjl,_,λ_=>h.name hj0 hjl,λ_=>h.ix fE IT,_,λ_=>h.name fE IT,λhs=>?_,λhs=>⟨⟨Qo,Qo⟩,QE Qo ⟨Qo,Qo,λg h1 h2 hg=>?_⟩⟩⟩
      ·rw[FX];intro ht;simp only[A',It,UL] at hs;exact ht.uniq (k:Int) (j:Int) Qo RM Qo hu hs.1.1 ⟨hs.1.2,hs.2⟩
      ·by_cases hgj:g<(j:Int)
       ·exact hJ g h1 hgj hg
       ·have:g=(j:Int):=Qo;subst this;rintro⟨e1,e2⟩;rw[hg,e1,e2,FT] at hs;simp at hs
     ·have bK:=Ou bK;have:j=k:=Qo;subst this;exact⟨⟨Qo,Qo⟩,QE Qo ⟨Qo,Qo,step λ_=>⟨q.1,q.2,hJ⟩⟩⟩
   ·have RN:=Ou RN;have:k=8:=Qo;subst this;rw[VV.2 (zti hl8 ru rp rn hS)]
def TI:Nat->List ZN->Int->Int->Bool
 | 0,_,g,h=>h==g
 | f+1,gs,g,h=>h==g||(h != 0&&TI f gs g (gi gs h).parent)
noncomputable def Pr(gs:List ZN)(g h:Int):Bool:=MP gs&&Q6 gs g&&Q6 gs h&&TI 3 gs g h
theorem Yd{gs:List ZN}(ht:Yc gs){h:Int}(hu:Q6 gs h=true)(hz:h≠0):Q6 gs (gi gs h).parent=true/\0<=h/\h<(gs.length:Int)/\∃d:Nat,dep 3 gs h=(d:Int)+1/\dep 3 gs (gi gs h).parent=(d:Int)/\d<3:=by
 obtain⟨a,b,u⟩:=Q5.1 hu;have hl:=ht.len;have h1:1<=h:=Qo;have hd:=ht.dp h h1 Qo u;refine⟨ht.par h h1 Qo u,a,b,?_⟩;have hr:=TZ gs 2 (gi gs h).parent;have e:dep 3 gs h=if dep 2 gs (gi gs h).parent<0 then -1 else dep 2 gs (gi gs h).parent+1:=by simp only[dep,C' hz]
 rw[e] at hd ⊢
 split at hd
 ·omega
 ·rename_i hn;rw[C' hn];have:=Ge gs 2 3 (gi gs h).parent Qo Qo;exact⟨(dep 2 gs (gi gs h).parent).toNat,Qo,Qo,Qo⟩
theorem zsc{gs:List ZN}(ht:Yc gs)(g:Int):∀(f f':Nat) (h:Int),Q6 gs h=true->dep 3 gs h<=f->dep 3 gs h<=f'->TI f gs g h=TI f' gs g h:=by
 intro f
 induction f with
 | zero=>
  intro f' h hu h1 h2
  have hz:h=0:=Ir λhz=>by
   obtain⟨_,_,_,d,e,_⟩:=Yd ht hu hz;omega
  subst hz
  cases f' <;> simp[TI]
 | succ f ih=>
  intro f' h hu h1 h2
  by_cases hz:h=0
  ·subst hz
   cases f' <;> simp[TI]
  ·obtain⟨hp,_,_,d,e,e2,_⟩:=Yd ht hu hz
   cases f' with
   | zero=>omega
   | succ f'=>
    simp only[TI];rw[ih f' (gi gs h).parent hp Qo Qo]
theorem zha{gs:List ZN}(ht:Yc gs){g h:Int}(hu:Q6 gs h=true)(hz:h≠0)(hg:h≠g):TI 3 gs g h=TI 3 gs g (gi gs h).parent:=by
 obtain⟨hp,_,_,d,e,e2,hd⟩:=Yd ht hu hz;rw[<-zsc ht g 2 3 (gi gs h).parent hp Qo Qo];have e3:TI 3 gs g h=(h==g||(h != 0&&TI 2 gs g (gi gs h).parent)):=rfl;rw[e3];have e4:(h==g)=false:=by simpa using hg
 have e5:(h != 0)=true:=by simpa using hz
 rw[e4,e5,Bool.false_or,Bool.true_and]
theorem Oi{g h:Int}(hr:Ld bs w o gs ms)(hl:gs.length<=maxLen):PX bs XL #[.slice o gs.length c,I g,I h] w (.bool (Pr gs g h)):=
 Np o gs.length c g h λwr hx=>by
  have hr:=(hr.ext hx).less (cs:=[]) Qs;refine⟨_,D8 hr hl,_,λ_=>Xf hr,_,λ_=>Xf hr,λq=>?_,λq=>?_⟩
  ·have:Pr gs g h=false:=by
    unfold Pr
    cases h1:MP gs <;> cases h2:Q6 gs g <;> cases h3:Q6 gs h <;> simp_all
   rw[this]
  ·simp only[I0,I7] at q;obtain⟨⟨q1,q2⟩,q3⟩:=q;have ht:=VV.1 q1;have hU:Pr gs g h=TI 3 gs g h:=by unfold Pr; rw[q1,q2,q3]; rfl
   refine⟨λvs=>∃x:Int,vs=[I x]/\Q6 gs x=true/\TI 3 gs g x=TI 3 gs g h,λvs=>(dep 3 gs (ZW 0 vs)).toNat,⟨h,rfl,q3,rfl⟩,?_⟩;rintro x ⟨x',he,hu,hI⟩;simp only[I5,I6,true_and,and_true] at he;subst he;refine⟨λfH=>⟨λhz=>?_,λhz=>?_⟩,λheq=>?_⟩
   ·have hz:x=0:=by simpa using hz
    subst hz
    have:TI 3 gs g 0=false:=by
     have:¬(0=g):=by simpa using fH
     simp[TI,this]
    rw[hU,<-hI,this]
   ·have hz:x≠0:=by simpa using hz
    have fH:x≠g:=by simpa using fH
    obtain⟨hp,a,b,d,e,e2,hd⟩:=Yd ht hu hz;refine⟨hr.ix a b,_,hr.parent a b,⟨_,rfl,hp,by rw[<-zha ht hu hz fH]; exact hI⟩,?_⟩;show (dep 3 gs (gi gs x).parent).toNat<(dep 3 gs x).toNat;omega
   ·have heq:x=g:=by simpa using heq
    subst heq;rw[hU,<-hI];simp[TI]
end
theorem zr9{s:ByteArray}{i:Nat}(h:i<s.size):((s.get! i).toNat:Int)=Uc s (i:Int):=by
 have hi:i<s.data.size:=h;unfold Uc;rw[Ih];simp[ByteArray.get!,getElem!_pos s.data i hi,Array.getD,h]
theorem zg4{s:ByteArray}{i:Nat}(h:(s.get! i).toNat<128):Utf8.decode s i=((s.get! i).toNat,1):=by
 simp only[Utf8.decode,Nat.add_zero];rw[E' h]
theorem zry{s:ByteArray}{i:Nat}(h:¬(s.get! i).toNat<128):128<=(Utf8.decode s i).1/\1<=(Utf8.decode s i).2:=by
 simp only[Utf8.decode,Nat.add_zero,Utf8.runeError];rw[C' h];split
 ·split
  ·rename_i h1; exact⟨h1,by show 1<=2; omega⟩
  ·exact⟨Qd,Qd⟩
 ·split
  ·split
   ·rename_i h1;simp only[ge_iff_le,A',Ik] at h1;exact⟨by show 128<=_; omega,by show 1<=3; omega⟩
   ·exact⟨Qd,Qd⟩
  ·split
   ·split
    ·rename_i h1;simp only[ge_iff_le,A',Ik] at h1;exact⟨by show 128<=_; omega,by show 1<=4; omega⟩
    ·exact⟨Qd,Qd⟩
   ·exact⟨Qd,Qd⟩
theorem zsf(w:Wo)(b:Nat)(s:ByteArray)(p:Nat):Q0 [b] w (Ma w b s p):=
 ⟨rfl,rfl,rfl,by simp[Ma],λk _ hk=>by
  have:b≠k:=λe=>hk (by simp[e])
  simp only[Ma];rw[Array.getElem?_setIfInBounds_ne this]⟩
theorem zu9{w:Wo}{b:Nat}{s:ByteArray}{p:Nat}(h:b<w.heap.size):(Ma w b s p).heap[b]? = some (.stringIter s p):=by
 simp[Ma,h]
def zz5(b:Nat)(w:Wo):Nat:=match w.heap[b]? with
 | some (.stringIter s p)=>s.size+1-p
 | _=>0
theorem zlc{s:ByteArray}(h1:ZD s (⟨[119,101,105,103,104,116].toArray⟩)=false)(h2:ZD s (⟨[109,97,120].toArray⟩)=false)(h3:ZD s (⟨[99,112,117,115].toArray⟩)=false)(h4:ZD s (⟨[112,114,111,99,115].toArray⟩)=false)(h5:ZD s (⟨[115,116,97,116].toArray⟩)=false):MH s=false:=by
 unfold MH; rw[h1,h2,h3,h4,h5]; rfl
theorem P4{s:ByteArray}(h:MH s=true):Uu s=false:=Kv λ⟨_,h2,_⟩=>by rw[h] at h2; cases h2
theorem zfn{s:ByteArray}{w:Wo}{bs:List Nat}:PX bs PY #[.string s] w (.bool (Uu s)):=by
 refine FK λwr hx=>zfb s (R:=λv w'=>v=.bool (Uu s)/\Q0 [] wr w') ?_
 refine⟨λh=>?_,λh1=>⟨λh=>?_,λh2=>⟨λh=>?_,λh3=>⟨λh=>?_,λh4=>⟨λh=>?_,λh5=>?_⟩⟩⟩⟩⟩
 ·intro w1 S4; rw[P4 (by unfold MH; rw[h]; rfl)]; exact⟨rfl,S4⟩
 ·intro w1 S4; rw[P4 (by unfold MH; rw[h]; simp)]; exact⟨rfl,S4⟩
 ·intro w1 S4; rw[P4 (by unfold MH; rw[h]; simp)]; exact⟨rfl,S4⟩
 ·intro w1 S4; rw[P4 (by unfold MH; rw[h]; simp)]; exact⟨rfl,S4⟩
 ·intro w1 S4; rw[P4 (by unfold MH; rw[h]; simp)]; exact⟨rfl,S4⟩
 ·have hf:=zlc h1 h2 h3 h4 h5;refine⟨_,QN,λh=>?_,λh=>?_⟩
  ·intro w1 S4;have h:YJ (s.size:Int) 1 8=false:=by simpa using h
   have h:=zzu.1 h;rw[Kv λ⟨h6,_⟩=>h Qo];exact⟨rfl,S4⟩
  ·have h:YJ (s.size:Int) 1 8=true:=by simpa using h
   have h:=Qt.1 h;intro w1 S4 _;refine⟨some ⟨w1.heap.size,0,none⟩,w1.alloc (.stringIter s 0),by simp[Instr.range,run_underlying zd2],Yo,?_⟩;have hb0:(w1.alloc (.stringIter s 0)).heap[w1.heap.size]? = some (.stringIter s 0):=Array.getElem?_push_size ..;have hX0:Q0 [] wr (w1.alloc (.stringIter s 0)):=S4.trans (Z8 w1 _);have hbr:wr.heap.size<=w1.heap.size:=S4.size;generalize w1.heap.size=b at hb0 hbr;generalize w1.alloc (.stringIter s 0)=w2 at hb0 hX0;refine⟨λvs w'=>vs=[]/\Q0 [] wr w'/\∃p:Nat,p<=s.size/\w'.heap[b]? = some (.stringIter s p)/\∀j:Nat,j<p->zw9 (Uc s (j:Int))=true,λ_ w'=>zz5 b w',λw3 Ra _=>⟨rfl,hX0.trans Ra,0,Ie _,QQ hb0 Ra Qs,λj hj=>Is hj (Nat.not_lt_zero j)⟩,?_⟩;intro w3 _ ⟨_,hX,p,hp,hb,hI⟩ w4 SZ _;have hb4:=QQ hb SZ Qs;refine⟨b,s,p,rfl,Qs,hb4,λRN=>⟨(by intro q; cases q),λ_ w5 Sw=>?_⟩,λIT=>⟨λ_=>?_,by intro q; cases q⟩⟩
   ·have:p=s.size:=Qo;subst this;rw[L1.2 ⟨⟨Qo,Qo⟩,hf,hI⟩];exact⟨rfl,(hX.trans SZ).trans Sw⟩
   ·have hX5:Q0 [] wr (Ma w4 b s (p+(Utf8.decode s p).2)):=(hX.trans SZ).fresh (zsf w4 b s _) λx hm=>.inl (by rw[IA.1 hm]; exact hbr)
    have hg:=zr9 IT;refine⟨λlA=>?_,λAN0=>?_⟩
    ·intro w5 Sw
     have C23:Uu s=false:=Kv λ⟨_,_,h3⟩=>by
      have h3:=h3 p IT
      by_cases hlo:(s.get! p).toNat<128
      ·rw[zg4 hlo] at lA;simp only[hg] at lA;unfold zw9 at h3;rw[h3] at lA;cases lA
      ·unfold zw9 at h3;simp only[Iv,A',Ik] at h3;omega
     rw[C23];exact⟨rfl,hX5.trans Sw⟩
    ·intro w5 Sw _
     by_cases hlo:(s.get! p).toNat<128
     ·rw[zg4 hlo] at AN0 hX5 Sw;simp only[hg] at AN0;have hat:=QQ (zu9 (s:=s) (p:=p+1) (JW hb4)) Sw Qs;refine⟨⟨rfl,hX5.trans Sw,p+1,Qo,hat,λj hj=>?_⟩,?_⟩
      ·by_cases hjp:j<p
       ·exact hI j hjp
       ·have:j=p:=Qo;subst this;unfold zw9;rw[I7] at AN0;exact AN0
      ·simp only[zz5,hat,hb];omega
     ·exfalso
      have:=zry hlo;rw[I7] at AN0;simp only[Iv,A',Ik] at AN0;omega
end Go.Proofs.YtnclplgaicdapaaGreatDoor
