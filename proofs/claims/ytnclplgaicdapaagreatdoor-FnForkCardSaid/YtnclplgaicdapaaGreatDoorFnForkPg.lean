/- Part 7 of what the law FnFork needs. -/
import Derived.Test.YtnclplgaicdapaaGreatDoorFnForkPf
set_option linter.unusedVariables false
set_option linter.unusedSimpArgs false
set_option maxRecDepth 100000
set_option maxHeartbeats 8000000
namespace Go.Proofs.YtnclplgaicdapaaGreatDoor
open Go.RowKit
def zin(b:OA)(d a8:Nat)(w:Wo)(R:RT):=(((d:Int) != 8)=false->Ix b d 0)/\∃n,(((d:Int) != 8)=false->Q1 [] w b (Int.toNat 0*14+0) [.bool n])/\((((d:Int) != 8)||(!n))=false->Ix b d 0)/\∃p,((((d:Int) != 8)||(!n))=false->Q1 [] w b (Int.toNat 0*14+1) [I p])/\(((((d:Int) != 8)||(!n))||(p != (-1)))=false->Ix b d 0)/\∃(B:ByteArray),(((((d:Int) != 8)||(!n))||(p != (-1)))=false->Q1 [] w b (Int.toNat 0*14+2) [.string B])/\Bf (((((d:Int) != 8)||(!n))||(p != (-1)))||(!ZI B (ByteArray.mk [].toArray))) (AR [] w R (.tuple #[S none 0 0,.bool false])) (AY [] w λY=>∃f h a2,∃C,((Instr.makeSlice MM (I 8) (I 8)):Sem Va).run Tryz.prog Y=.ok (S f h a2) C/\Q8 [] Y C/\∃(s:LQ) (t:LM),(AY [] C λa6=>s [I 0] a6)/\∀(e:Int) g,(∀bq∈([]:List Nat),bq<g.heap.size)->s [I e] g->Bf (decide (e<(d:Int))) (Ix b d e/\∃N,Q1 [] g b (e.toNat*14+0) [.bool N]/\Bf N (Ix b d e/\∃(V:ByteArray),Q1 [] g b (e.toNat*14+2) [.string V]/\∀y v,Q0 [] g v->g.heap.size<=y->v.heap[y]? = some (Obj.cells ([I e,.string V,.pointer none]:LV).toArray B7 (0,0))->y∉([]:List Nat)->Ix f h e/\Yo [] v f (e.toNat*1) 1/\Qz (e+1)/\AY [] (R9 v f (e.toNat*1) [.pointer ((some (Addr.mk y 0 none)).map (·.add 0))]) λU=>s [I (e+1)] U/\t [I (e+1)] U<t [I e] g) (Qz (e+1)/\AY [] g λa4=>s [I (e+1)] a4/\t [I (e+1)] a4<t [I e] g)) (AY [] g λX=>∃(F:Va),∃E,((Instr.makeMap ZN none):Sem Va).run Tryz.prog X=.ok F E/\Q8 [] X E/\∃(r:LQ) (A:LM),(AY [] E λa7=>r [I 1] a7)/\∀(a:Int) c,(∀bq∈([]:List Nat),bq<c.heap.size)->r [I a] c->Bf (decide (a<8)) (Ix f h a/\∃G,Q1 [] c f (a.toNat*1) [.pointer G]/\Bf G.isNone (Qz (a+1)/\AY [] c λa3=>r [I (a+1)] a3/\A [I (a+1)] a3<A [I a] c) (Ix b d a/\∃(O:ByteArray),Q1 [] c b (a.toNat*14+2) [.string O]/\∃o,PX [] M4 #[.string O] c (.bool o)/\((!o)=false->Ix b d a)/\∃a1,((!o)=false->Q1 [] c b (a.toNat*14+1) [I a1])/\∃L,((!o)=false->PX [] XV #[S b d a8,I a1] c (.bool L))/\Bf ((!o)||(!L)) (AR [] c R (.tuple #[S none 0 0,.bool false])) (Ix f h a/\∃j,Q1 [] c f (a.toNat*1) [.pointer j]/\Ix b d a/\∃D,Q1 [] c b (a.toNat*14+1) [I D]/\Ix f h D/\∃l,Q1 [] c f (Int.toNat D*1) [.pointer l]/\j.isSome=true/\Yo [] c j (0+2) 1/\Ix b d a/\∃x,Q1 [] (R9 c j (0+2) [.pointer l]) b (a.toNat*14+1) [I x]/\Ix b d a/\∃(z:ByteArray),Q1 [] (R9 c j (0+2) [.pointer l]) b (a.toNat*14+2) [.string z]/\∀m,(R9 c j (0+2) [.pointer l]).heap.size<=m->Q1 [] (R9 c j (0+2) [.pointer l]) b (a.toNat*14+2) [.string z]/\Q1 [] (R9 c j (0+2) [.pointer l]) b (a.toNat*14+1) [I x]/\AX [] [m] (R9 c j (0+2) [.pointer l]) λa0=>∃a5 M,∃u,((Instr.lookup ZN F (.agg #[I x,.string z]) true):Sem Va).run Tryz.prog a0=.ok (.tuple #[I a5,.bool M]) u/\Q8 [m] a0 u/\Bf M (AR [m] u R (.tuple #[S none 0 0,.bool false])) (AY [m] u λT =>∃K,((do Instr.mapUpdate ZN F (.agg #[I x,.string z]) (I a); pure undef):Sem Va).run Tryz.prog T=.ok undef K/\Q8 [m] T K/\Qz (a+1)/\AY [m] K λP=>r [I (a+1)] P/\A [I (a+1)] P<A [I a] c)))) (∃(J:LQ) (Z:LM),(AY [] c λa9=>J [I 0] a9)/\∀(i:Int) k,(∀bq∈([]:List Nat),bq<k.heap.size)->J [I i] k->Bf (decide (i<(h:Int))) (Ix f h i/\∃q,Q1 [] k f (i.toNat*1) [.pointer q]/\∃H,((!q.isNone)=true->PX [] VM #[.pointer q] k (I H))/\Bf ((!q.isNone)&&(decide (H<0))) (AR [] k R (.tuple #[S none 0 0,.bool false])) (Qz (i+1)/\AY [] k λQ=>J [I (i+1)] Q/\Z [I (i+1)] Q<Z [I i] k)) (AR [] k R (.tuple #[S f h a2,.bool true])))))
theorem zji(a b c):JA (zin a b c) MY #[S a b c]:=eV [57] false [(5,⟨[(40,Ri)],[],[0,4,39],[],[]⟩),(12,⟨[(7,Ri)],[],[0,4,6],[],[]⟩),(24,⟨[(124,Ri)],[],[4,122,123],[],[]⟩)] Tryz.func248 Qk Qk
def zen(g:OA)(e d:Nat)(w:Wo)(R:RT):=AY [] w λb=>Cz MY #[S g e d] b λh a=>∃f j i c,h=.returned (.tuple #[S f j i,.bool c])/\Q8 [] b a/\AR [] a R (.bool c)
theorem zfi(a b c):JA (zen a b c) M5 #[S a b c]:=eV [] false [] Tryz.func187 Qk Qk
def LZ(b:OA)(w:Wo)(R:RT):=b.isSome=true/\∃k,Q1 [] w b (0+0) [I k]/\NB w λf=>∃a,(∀g,Q0 [] w g->g.heap[f]? = some (Obj.cells ([I k]:LV).toArray Qc (0,0))->PX [] ZR #[S (some (Addr.mk f 0 none)) 1 1] g (.bool a))/\(a=true->b.isSome=true)/\∃p i o,(a=true->Q1 [] w b (0+1) [S p i o])/\∃c,(a=true->PX [] QD #[I (i:Int),I 1,I 4] w (.bool c))/\∃d,((a&&c)=true->PX [] X1 #[.pointer b] w (I d))/\(((a&&c)&&(d != 0))=true->b.isSome=true)/\∃q e n,(((a&&c)&&(d != 0))=true->Q1 [] w b (0+2) [S q e n])/\((((a&&c)&&(d != 0))&&((e:Int)==12))=true->b.isSome=true)/\∃m l j,((((a&&c)&&(d != 0))&&((e:Int)==12))=true->Q1 [] w b (0+3) [S m l j])/\∃h,((((a&&c)&&(d != 0))&&((e:Int)==12))=true->PX [] M5 #[S m l j] w (.bool h))/\R (.bool ((((a&&c)&&(d != 0))&&((e:Int)==12))&&h)) w
theorem GK(a):X8 (LZ a) XE #[.pointer a]:=pV [] false [] Tryz.func87 Qk Qk
def Bj(a:Int)(w:Wo)(R:RT):=R (.bool ((decide (a>=0))&&(decide (a<=15)))) w
theorem Nk(a):X8 (Bj a) Uc #[I a]:=pV [] false [] Tryz.func254 Qk Qk
def zel(b:Int)(w:Wo)(R:RT):=∃a,PX [] Uc #[I b] w (.bool a)/\R (.bool a) w
theorem zgc(a):X8 (zel a) Ux #[I a]:=pV [] false [] Tryz.func206 Qk Qk
def Ag(a:Int)(w:Wo)(R:RT):=∃b,((a != 0)=true->PX [] Ux #[I a] w (.bool b))/\R (.bool ((a != 0)&&b)) w
theorem Cy(a):X8 (Ag a) Xt #[I a]:=pV [] false [] Tryz.func122 Qk Qk
def Ad(e f a:Int)(j:OA)(d g:Nat)(h:OA)(b i:Nat)(w:Wo)(R:RT):=NB w λc=>R (.bool (((((e==0)&&(f==0))&&(a==0))&&((d:Int)==0))&&((b:Int)==0))) w
theorem Cv(a b c d e f g h i):X8 (Ad a b c d e f g h i) UQ #[.agg #[I a,I b,I c,S d e f,S g h i]]:=pV [] false [] Tryz.func249 Qk Qk
def Bl(i:Bool)(g:Int)(d:ByteArray)(a h e f b t o l:Int)(k:OA)(r j:Nat)(s:OA)(p m:Nat)(v:OA)(n u:Nat)(w:Wo)(R:RT):=NB w λq=>∃c,(((((((((!i)&&(g==0))&&(ZI d (ByteArray.mk [].toArray)))&&(a==0))&&(h==0))&&(e==0))&&(f==0))&&(b==0))=true->PX [] UQ #[.agg #[I t,I o,I l,S k r j,S s p m]] w (.bool c))/\R (.bool ((((((((((!i)&&(g==0))&&(ZI d (ByteArray.mk [].toArray)))&&(a==0))&&(h==0))&&(e==0))&&(f==0))&&(b==0))&&c)&&((n:Int)==0))) w
theorem Nm(a b c d e f g h i j k l m n o p q r s t):X8 (Bl a b c d e f g h i j k l m n o p q r s t) Th #[.agg #[.bool a,I b,.string c,I d,I e,I f,I g,I h,I i,I j,I k,S l m n,S o p q,S r s t]]:=pV [] false [] Tryz.func188 Qk Qk
def Ah(b:Int)(w:Wo)(R:RT):=∃a,PX [] QD #[I b,I 1,I 20] w (.bool a)/\R (.bool a) w
theorem CA(a):X8 (Ah a) Jo #[I a]:=pV [] false [] Tryz.func189 Qk Qk
def zej(f e n:Int)(q:OA)(c u:Nat)(r:OA)(k t:Nat)(w:Wo)(R:RT):=NB w λs=>∃i,PX [] QD #[I f,I 1,I 10000] w (.bool i)/\∃l,((!i)=false->PX [] QD #[I (c:Int),I 1,I 4] w (.bool l))/\Bf (((!i)||(!l))||((k:Int) != (c:Int))) (R (.bool false) w) (∃h,PX [] QD #[I e,I 0,I f] w (.bool h)/\∃m,((!h)=false->PX [] QD #[I n,I 0,I f] w (.bool m))/\Bf ((!h)||(!m)) (R (.bool false) w) (Qz (e+n)/\∃(j:LP) (p:LN),j [I (e+n),I 0]/\∀(d a:Int),j [I d,I a]->Bf (decide (a<(c:Int))) (Ix q c a/\∃b,Q1 [] w q (a.toNat*1) [I b]/\∃g,PX [] QD #[I b,I 0,I f] w (.bool g)/\((!g)=false->Ix r k a)/\∃o,((!g)=false->Q1 [] w r (a.toNat*1) [.bool o])/\Bf ((!g)||(o&&((b != 0)||(e != 0)))) (R (.bool false) w) (Qz (d+b)/\Qz (a+1)/\j [I (d+b),I (a+1)]/\p [I (d+b),I (a+1)]<p [I d,I a])) (R (.bool (d==f)) w)))
theorem zga(a b c d e f g h i):X8 (zej a b c d e f g h i) M2 #[.agg #[I a,I b,I c,S d e f,S g h i]]:=pV [] false [(7,⟨[(3,Ri),(48,Ri)],[],[1,46,47],[],[]⟩)] Tryz.func250 Qk Qk
def LY(e:OA)(F:Bool)(C:Int)(z:ByteArray)(x E f o y s p l:Int)(m:OA)(b j:Nat)(r:OA)(q n:Nat)(D:OA)(B A:Nat)(w:Wo)(R:RT):=NB w λv=>∃h,PX [] UQ #[.agg #[I s,I p,I l,S m b j,S r q n]] w (.bool h)/\Bf h (R (.bool ((f==0)&&(o==0))) w) (∃a,PX [] M2 #[.agg #[I s,I p,I l,S m b j,S r q n]] w (.bool a)/\(a=true->e.isSome=true)/\∃t c u,(a=true->Q1 [] w e (0+1) [S t c u])/\∃d,((a&&((b:Int)==(c:Int)))=true->PX [] QD #[I f,I 1,I 1000] w (.bool d))/\(((a&&((b:Int)==(c:Int)))&&d)=true->e.isSome=true)/\∃i,(((a&&((b:Int)==(c:Int)))&&d)=true->Q1 [] w e (0+0) [I i])/\(((a&&((b:Int)==(c:Int)))&&d)=true->Qz (i+1))/\(((a&&((b:Int)==(c:Int)))&&d)=true->e.isSome=true)/\∃g,(((a&&((b:Int)==(c:Int)))&&d)=true->Q1 [] w e (0+0) [I g])/\(((a&&((b:Int)==(c:Int)))&&d)=true->Qz (g+f))/\∃k,(((a&&((b:Int)==(c:Int)))&&d)=true->PX [] QD #[I o,I (i+1),I (g+f)] w (.bool k))/\R (.bool (((a&&((b:Int)==(c:Int)))&&d)&&k)) w)
theorem GJ(a b c d e f g h i j k l m n o p q r s t u):X8 (LY a b c d e f g h i j k l m n o p q r s t u) XD #[.pointer a,.agg #[.bool b,I c,.string d,I e,I f,I g,I h,I i,I j,I k,I l,S m n o,S p q r,S s t u]]:=pV [] false [] Tryz.func190 Qk Qk
def Ly(b:OA)(w:Wo)(R:RT):=b.isSome=true/\∃M r a5,Q1 [] w b (0+3) [S M r a5]/\∃(i:LP) (g:LN),i [I 0]/\∀(a:Int),i [I a]->Bf (decide (a<(r:Int))) (Ix M r a/\∃(h:Bool) (p:Int) (x:ByteArray) (j l B n k y A E:Int) (C:OA) (m u:Nat) (v:OA) (s t:Nat) (D:OA) (d o:Nat),Q1 [] w M (a.toNat*14) [.bool h,I p,.string x,I j,I l,I B,I n,I k,I y,I A,I E,S C m u,S v s t,S D d o]/\NB w λb4=>Bf (!h) (∃F,PX [] Th #[.agg #[.bool h,I p,.string x,I j,I l,I B,I n,I k,I y,I A,I E,S C m u,S v s t,S D d o]] w (.bool F)/\Bf (!F) (R (.bool false) w) (Qz (a+1)/\i [I (a+1)]/\g [I (a+1)]<g [I a])) (∃c,PX [] Jo #[I j] w (.bool c)/\∃e,((!c)=false->PX [] Xt #[I l] w (.bool e))/\(((!c)||(!e))=false->NB w λK=>∃f,(((!c)||(!e))=false->∀G,Q0 [] w G->G.heap[K]? = some (Obj.cells ([I k]:LV).toArray Qc (0,0))->PX [] ZR #[S (some (Addr.mk K 0 none)) 1 1] G (.bool f))/\((((!c)||(!e))||(!f))=false->b.isSome=true)/\∃X q a2,((((!c)||(!e))||(!f))=false->Q1 [] w b (0+1) [S X q a2])/\∃J,(((((!c)||(!e))||(!f))||((d:Int) != (q:Int)))=false->PX [] XD #[.pointer b,.agg #[.bool h,I p,.string x,I j,I l,I B,I n,I k,I y,I A,I E,S C m u,S v s t,S D d o]] w (.bool J))/\Bf (((((!c)||(!e))||(!f))||((d:Int) != (q:Int)))||(!J)) (R (.bool false) w) (Qz (a+1)/\i [I (a+1)]/\g [I (a+1)]<g [I a]))/\((((!c)||(!e))=false->False)->(true=false->b.isSome=true)/\∃a9 z Z,(true=false->Q1 [] w b (0+1) [S a9 z Z])/\∃H,((true||((d:Int) != (z:Int)))=false->PX [] XD #[.pointer b,.agg #[.bool h,I p,.string x,I j,I l,I B,I n,I k,I y,I A,I E,S C m u,S v s t,S D d o]] w (.bool H))/\Bf ((true||((d:Int) != (z:Int)))||(!H)) (R (.bool false) w) (Qz (a+1)/\i [I (a+1)]/\g [I (a+1)]<g [I a])))) (b.isSome=true/\∃L P T,Q1 [] w b (0+3) [S L P T]/\Ix L P 0/\∃(a6:Bool) (b2:Int) (a3:ByteArray) (O N Y a0 U Q b8 a1:Int) (b6:OA) (b5 b0:Nat) (a8:OA) (V a4:Nat) (b7:OA) (b3 b1:Nat),Q1 [] w L (Int.toNat 0*14) [.bool a6,I b2,.string a3,I O,I N,I Y,I a0,I U,I Q,I b8,I a1,S b6 b5 b0,S a8 V a4,S b7 b3 b1]/\NB w λa7=>R (.bool (((O==10)&&(N==15))&&(Q==0))) w)
theorem LJ(a):X8 (Ly a) Xn #[.pointer a]:=pV [] false [(2,⟨[(11,Ri)],[],[0,9,10],[],[]⟩)] Tryz.func88 Qk Qk
def Ew(b:OA)(c:Int)(w:Wo)(R:RT):=NB w λa=>R (.agg #[.pointer b,I c]) w
theorem FG(a b):X8 (Ew a b) Zk #[.pointer a,I b]:=pV [] false [] Tryz.func79 Qk Qk
def zal(d c:Int)(w:Wo)(R:RT):=∃a,PX [] Ux #[I d] w (.bool a)/\∃b,((!a)=false->PX [] Ux #[I c] w (.bool b))/\Bf ((!a)||(!b)) (R (I 0) w) (R (I (TK .and .i64 d c)) w)
theorem zc8(a b):X8 (zal a b) JT #[I a,I b]:=pV [] false [] Tryz.func204 Qk Qk
def Ex(b:OA)(s:Int)(w:Wo)(R:RT):=∃k,PX [] X1 #[.pointer b] w (I k)/\∃(d:LP) (l:LN),d [I s,I k]/\∀(a c:Int),d [I a,I c]->Bf (a != 0) (b.isSome=true/\∃i n t,Q1 [] w b (0+3) [S i n t]/\Ix i n a/\∃q,Q1 [] w i (a.toNat*14+4) [I q]/\∃f,PX [] JT #[I c,I q] w (I f)/\b.isSome=true/\∃h o r,Q1 [] w b (0+3) [S h o r]/\Ix h o a/\∃g,Q1 [] w h (a.toNat*14+1) [I g]/\d [I g,I f]/\l [I g,I f]<l [I a,I c]) (b.isSome=true/\∃e p u,Q1 [] w b (0+3) [S e p u]/\Ix e p 0/\∃j,Q1 [] w e (Int.toNat 0*14+4) [I j]/\∃m,PX [] JT #[I c,I j] w (I m)/\R (I m) w)
theorem FH(a b):X8 (Ex a b) VL #[.pointer a,I b]:=pV [] false [(2,⟨[(1,Ri),(5,Ri)],[],[0],[],[]⟩)] Tryz.func203 Qk Qk
def KQ(c:OA)(f e:Int)(w:Wo)(R:RT):=∃a,PX [] VL #[.pointer c,I e] w (I a)/\∃b,PX [] JT #[I f,I a] w (I b)/\Bf (b != 0) (R (I b) w) (Bf (a != 0) (R (I a) w) (∃d,PX [] X1 #[.pointer c] w (I d)/\R (I d) w))
theorem L8(a b c):X8 (KQ a b c) Xa #[.pointer a,I b,I c]:=pV [] false [] Tryz.func117 Qk Qk
def LW(a:OA)(b:Int)(w:Wo)(R:RT):=a.isSome=true/\∃d i j,Q1 [] w a (0+2) [S d i j]/\Ix d i b/\∃h,Q1 [] w d (b.toNat*9+4) [I h]/\a.isSome=true/\∃c f k,Q1 [] w a (0+2) [S c f k]/\Ix c f b/\∃g,Q1 [] w c (b.toNat*9+1) [I g]/\∃e,PX [] Xa #[.pointer a,I h,I g] w (I e)/\R (I e) w
theorem GI(a b):X8 (LW a b) U7 #[.pointer a,I b]:=pV [] false [] Tryz.func107 Qk Qk
def Ez(d b:Int)(w:Wo)(R:RT):=∃a,PX [] Uc #[I d] w (.bool a)/\∃c,(a=true->PX [] QD #[I b,I 0,I 3] w (.bool c))/\((a&&c)=true->0<=b)/\R (.bool ((a&&c)&&((TK .and .i64 (Int.fdiv d (2 ^ (min (b.toNat) 64))) 1)==1))) w
theorem FJ(a b):X8 (Ez a b) JL #[I a,I b]:=pV [] false [] Tryz.func205 Qk Qk
def zam(c b:Int)(w:Wo)(R:RT):=∃a,PX [] JL #[I c,I b] w (.bool a)/\R (.bool a) w
theorem zc9(a b):X8 (zam a b) Pe #[I a,I b]:=pV [] false [] Tryz.func118 Qk Qk
def zep(b:Int)(w:Wo)(R:RT):=∃a,PX [] QD #[I b,I (-10),I 9] w (.bool a)/\R (.bool a) w
theorem zge(a):X8 (zep a) Uy #[I a]:=pV [] false [] Tryz.func125 Qk Qk
def EB(f:OA)(c e:Int)(w:Wo)(R:RT):=NB w λh=>f.isSome=true/\∃b g j,Q1 [] w f (0+3) [S b g j]/\Ix b g e/\∃a d i,Q1 [] w b (e.toNat*14+13) [S a d i]/\Ix a d c/\R (.pointer (a.map (·.add (c.toNat*5)))) w
theorem FL(a b c):X8 (EB a b c) QC #[.agg #[.pointer a,I b],I c]:=pV [] false [] Tryz.func133 Qk Qk
def zeo(b:Int)(w:Wo)(R:RT):=∃a,PX [] QD #[I b,I 0,I 8000000] w (.bool a)/\R (.bool a) w
theorem zgd(a):X8 (zeo a) M6 #[I a]:=pV [] false [] Tryz.func191 Qk Qk
def Dv(w:Wo)(R:RT):=NB w λZ=>NB w λY=>∃(x:LP) (X:LN),x [I 1,I 0,I 0,I 0,I 0,I 0,I 0,I 0,I 0,I 0,I 0,I 0,I 0,I 0,I 0,I 0,I 0,I 0,I 0,I 0,I 0,I 0]/\∀(a e n r u c b q l d t p j g o k m s v i f h:Int),x [I a,I e,I n,I r,I u,I c,I b,I q,I l,I d,I t,I p,I j,I g,I o,I k,I m,I s,I v,I i,I f,I h]->Bf (decide (a<=20)) ((a≠0/\Qz (Int.tdiv 232792560 a))/\(0<=a/\a<(21:Int))/\(a.toNat+0<21)/\∃O J z H M N K P G Q U B T C E y A L F D V,([I e,I n,I r,I u,I c,I b,I q,I l,I d,I t,I p,I j,I g,I o,I k,I m,I s,I v,I i,I f,I h]:LV).set (a.toNat+0) (I (Int.tdiv 232792560 a))=[I O,I J,I z,I H,I M,I N,I K,I P,I G,I Q,I U,I B,I T,I C,I E,I y,I A,I L,I F,I D,I V]/\Qz (a+1)/\x [I (a+1),I O,I J,I z,I H,I M,I N,I K,I P,I G,I Q,I U,I B,I T,I C,I E,I y,I A,I L,I F,I D,I V]/\X [I (a+1),I O,I J,I z,I H,I M,I N,I K,I P,I G,I Q,I U,I B,I T,I C,I E,I y,I A,I L,I F,I D,I V]<X [I a,I e,I n,I r,I u,I c,I b,I q,I l,I d,I t,I p,I j,I g,I o,I k,I m,I s,I v,I i,I f,I h]) (R (.agg #[I e,I n,I r,I u,I c,I b,I q,I l,I d,I t,I p,I j,I g,I o,I k,I m,I s,I v,I i,I f,I h]) w)
theorem E8:X8 Dv Vd #[]:=pV [] false [(3,⟨[(2,.int .i64)],[(1,[.int .i64,.int .i64,.int .i64,.int .i64,.int .i64,.int .i64,.int .i64,.int .i64,.int .i64,.int .i64,.int .i64,.int .i64,.int .i64,.int .i64,.int .i64,.int .i64,.int .i64,.int .i64,.int .i64,.int .i64,.int .i64])],[0,1],[],[]⟩)] Tryz.func208 Qk Qk
def Dl(d a:Int)(w:Wo)(R:RT):=∃b,PX [] QD #[I d,I 0,I 100000000] w (.bool b)/\∃c,((!b)=false->PX [] Jo #[I a] w (.bool c))/\Bf ((!b)||(!c)) (R (I 0) w) (∃r l i g y f t j A v n z m p h s u x q k o,PX [] Vd #[] w (.agg #[I r,I l,I i,I g,I y,I f,I t,I j,I A,I v,I n,I z,I m,I p,I h,I s,I u,I x,I q,I k,I o])/\∃e,(0<=a/\a<(21:Int)/\(#[I r,I l,I i,I g,I y,I f,I t,I j,I A,I v,I n,I z,I m,I p,I h,I s,I u,I x,I q,I k,I o]:Array Va)[Int.toNat a]? = some (I e))/\Qz (d*e)/\R (I (d*e)) w)
theorem E2(a b):X8 (Dl a b) Xj #[I a,I b]:=pV [] false [] Tryz.func134 Qk Qk
def zak(b:Int)(w:Wo)(R:RT):=∃a,PX [] Xj #[I 149,I b] w (I a)/\R (I a) w
theorem zc7(a):X8 (zak a) Vu #[I a]:=pV [] false [] Tryz.func40 Qk Qk
def zeq(a b d:Int)(w:Wo)(R:RT):=((decide (a>=b))=true->Qz (a-b))/\∃c,((decide (a>=b))=true->PX [] Vu #[I d] w (I c))/\R (.bool ((decide (a>=b))&&(decide (a-b<=c)))) w
theorem zgf(a b c):X8 (zeq a b c) Tj #[I a,I b,I c]:=pV [] false [] Tryz.func192 Qk Qk
def Ab(b:Int)(w:Wo)(R:RT):=∃a,PX [] Uy #[I b] w (.bool a)/\Bf (!a) (R (I 0) w) (Qz (10-b)/\R (I (10-b)) w)
theorem Cu(a):X8 (Ab a) UP #[I a]:=pV [] false [] Tryz.func193 Qk Qk
def G0(c:OA)(w:Wo)(R:RT):=c.isSome=true/\∃D r P,Q1 [] w c (0+2) [S D r P]/\∃(f:LP) (e:LN),f [I 0]/\∀(b:Int),f [I b]->Bf (decide (b<(r:Int))) (Ix D r b/\∃a h j g q k o p s,Q1 [] w D (b.toNat*9) [I a,I h,I j,I g,I q,I k,I o,I p,I s]/\NB w λO=>∃v,(∀K,((do eqGuard .eql QK (.tmp 16) (.tmp 17) (.agg #[I a,I h,I j,I g,I q,I k,I o,I p,I s]) (.agg #[I 0,I 0,I 0,I 0,I 0,I 0,I 0,I 0,I 0]); binOp .eql QK (.agg #[I a,I h,I j,I g,I q,I k,I o,I p,I s]) (.agg #[I 0,I 0,I 0,I 0,I 0,I 0,I 0,I 0,I 0])):Sem Va).run Tryz.prog K=.ok (.bool v) K)/\Bf v (Qz (b+1)/\f [I (b+1)]/\e [I (b+1)]<e [I b]) ((((a != 1)&&(a != 2))=false->c.isSome=true)/\∃M H G,(((a != 1)&&(a != 2))=false->Q1 [] w c (0+3) [S M H G])/\∃i,(((a != 1)&&(a != 2))=false->PX [] XV #[S M H G,I h] w (.bool i))/\∃n,((((a != 1)&&(a != 2))||(!i))=false->PX [] Uy #[I g] w (.bool n))/\∃y,(((((a != 1)&&(a != 2))||(!i))||(!n))=false->PX [] Xt #[I q] w (.bool y))/\Bf (((((a != 1)&&(a != 2))||(!i))||(!n))||(!y)) (R (.bool false) w) (NB w λC=>∃d,(∀x,Q0 [] w x->x.heap[C]? = some (Obj.cells ([I k,I o,I p]:LV).toArray Qc (0,0))->PX [] ZR #[S (some (Addr.mk C 0 none)) 3 3] x (.bool d))/\∃m,((!d)=false->PX [] M6 #[I s] w (.bool m))/\∃N,(((!d)||(!m))=false->PX [] U7 #[.pointer c,I b] w (I N))/\∃t,(((!d)||(!m))=false->PX [] Pe #[I N,I j] w (.bool t))/\Bf (((!d)||(!m))||(!t)) (R (.bool false) w) (∃F L,PX [] Zk #[.pointer c,I j] w (.agg #[.pointer F,I L])/\∃z,PX [] QC #[.agg #[.pointer F,I L],I h] w (.pointer z)/\z.isSome=true/\∃u,Q1 [] w z (0+0) [I u]/\((a==1)=true->NB w λA=>∃l,((a==1)=true->∀E,Q0 [] w E->E.heap[A]? = some (Obj.cells ([I u]:LV).toArray Qc (0,0))->PX [] ZR #[S (some (Addr.mk A 0 none)) 1 1] E (.bool l))/\∃J,((!l)=false->(a==1)=true->PX [] UP #[I g] w (I J))/\∃B,((!l)=false->(a==1)=true->PX [] Tj #[I k,I u,I J] w (.bool B))/\Bf ((a==1)&&((!l)||(!B))) (R (.bool false) w) (Qz (b+1)/\f [I (b+1)]/\e [I (b+1)]<e [I b]))/\(((a==1)=true->False)->Bf false (R (.bool false) w) (Qz (b+1)/\f [I (b+1)]/\e [I (b+1)]<e [I b])))))) (R (.bool true) w)
theorem GL(a):X8 (G0 a) XF #[.pointer a]:=pV [] false [(2,⟨[(11,Ri)],[],[0,9,10],[],[]⟩)] Tryz.func89 Qk Qk
def Du(e:OA)(h b l:Int)(w:Wo)(R:RT):=NB w λj=>e.isSome=true/\∃a g k,Q1 [] w e (0+2) [S a g k]/\Ix a g b/\∃d c f n q m o i p,Q1 [] w a (b.toNat*9) [I d,I c,I f,I n,I q,I m,I o,I i,I p]/\NB w λr=>R (.bool (((d==1)&&(c==l))&&(f==h))) w
theorem E7(a b c d):X8 (Du a b c d) Ji #[.agg #[.pointer a,I b],I c,I d]:=pV [] false [] Tryz.func235 Qk Qk
def EA(d:OA)(l a e:Int)(w:Wo)(R:RT):=NB w λm=>((a != 0)=true->d.isSome=true)/\∃h j o,((a != 0)=true->Q1 [] w d (0+3) [S h j o])/\((a != 0)=true->Ix h j a)/\∃b,((a != 0)=true->Q1 [] w h (a.toNat*14+0) [.bool b])/\(((a != 0)&&b)=true->d.isSome=true)/\∃g i n,(((a != 0)&&b)=true->Q1 [] w d (0+3) [S g i n])/\(((a != 0)&&b)=true->Ix g i a)/\∃c,(((a != 0)&&b)=true->Q1 [] w g (a.toNat*14+1) [I c])/\∃f,((((a != 0)&&b)&&(c==e))=true->PX [] QC #[.agg #[.pointer d,I l],I a] w (.pointer f))/\((((a != 0)&&b)&&(c==e))=true->f.isSome=true)/\∃k,((((a != 0)&&b)&&(c==e))=true->Q1 [] w f (0+1) [.bool k])/\R (.bool ((((a != 0)&&b)&&(c==e))&&k)) w
theorem FK(a b c d):X8 (EA a b c d) JM #[.agg #[.pointer a,I b],I c,I d]:=pV [] false [] Tryz.func236 Qk Qk
def Ds(c:OA)(j l:Int)(w:Wo)(R:RT):=NB w λn=>c.isSome=true/\∃r i o,Q1 [] w c (0+2) [S r i o]/\∃(e:LP) (k:LN),e [I 0]/\∀(a:Int),e [I a]->Bf (decide (a<(i:Int))) (∃g,PX [] Ji #[.agg #[.pointer c,I j],I a,I l] w (.bool g)/\Bf g (R (.bool true) w) (Qz (a+1)/\e [I (a+1)]/\k [I (a+1)]<k [I a])) (c.isSome=true/\∃q h p,Q1 [] w c (0+3) [S q h p]/\∃(d:LP) (m:LN),d [I 0]/\∀(b:Int),d [I b]->Bf (decide (b<(h:Int))) (∃f,PX [] JM #[.agg #[.pointer c,I j],I b,I l] w (.bool f)/\Bf f (R (.bool true) w) (Qz (b+1)/\d [I (b+1)]/\m [I (b+1)]<m [I b])) (R (.bool false) w))
theorem E5(a b c):X8 (Ds a b c) Xk #[.agg #[.pointer a,I b],I c]:=pV [] false [(2,⟨[(13,Ri)],[],[1,2,12],[],[]⟩),(8,⟨[(27,Ri)],[],[1,2,26],[],[]⟩)] Tryz.func165 Qk Qk
def Af(f:OA)(d e:Int)(w:Wo)(R:RT):=NB w λl=>f.isSome=true/\∃c g p,Q1 [] w f (0+3) [S c g p]/\Ix c g e/\∃a j k q m n b i o,Q1 [] w c (e.toNat*14+8) [I a,I j,I k,S q m n,S b i o]/\NB w λr=>((decide (a>0))=true->Ix b i d)/\∃h,((decide (a>0))=true->Q1 [] w b (d.toNat*1) [.bool h])/\R (.bool ((decide (a>0))&&h)) w
theorem Cx(a b c):X8 (Af a b c) UR #[.agg #[.pointer a,I b],I c]:=pV [] false [] Tryz.func194 Qk Qk
def KS(n:OA)(w:Wo)(R:RT):=n.isSome=true/\∃K q b2,Q1 [] w n (0+3) [S K q b2]/\∃(v:LP) (O:LN),v [I 0]/\∀(i:Int),v [I i]->Bf (decide (i<(q:Int))) (Ix K q i/\∃(c5:Bool) (a9:Int) (b9:ByteArray) (a4 b3 c4 a5 a8 c0 c2 c7:Int) (c6:OA) (a1 b6:Nat) (b8:OA) (b4 b5:Nat) (H:OA) (s a7:Nat),Q1 [] w K (i.toNat*14) [.bool c5,I a9,.string b9,I a4,I b3,I c4,I a5,I a8,I c0,I c2,I c7,S c6 a1 b6,S b8 b4 b5,S H s a7]/\NB w λc3=>∃(u:LP) (a0:LN),u [I 0]/\∀(h:Int),u [I h]->Bf (decide (h<(s:Int))) (Ix H s h/\∃Q a2 P U M,Q1 [] w H (h.toNat*5) [I Q,.bool a2,I P,I U,I M]/\NB w λc1=>NB w λB=>∃p,(∀x,Q0 [] w x->x.heap[B]? = some (Obj.cells ([I Q,I P,I M]:LV).toArray Qc (0,0))->PX [] ZR #[S (some (Addr.mk B 0 none)) 3 3] x (.bool p))/\∃z,((!p)=false->PX [] Jo #[I U] w (.bool z))/\Bf ((!p)||(!z)) (R (.bool false) w) (Qz (h+1)/\u [I (h+1)]/\a0 [I (h+1)]<a0 [I h])) (Qz (i+1)/\v [I (i+1)]/\O [I (i+1)]<O [I i])) (n.isSome=true/\∃a6 y b0,Q1 [] w n (0+1) [S a6 y b0]/\∃(C:LP) (T:LN),C [I 0]/\∀(j:Int),C [I j]->Bf (decide (j<(y:Int))) (∃f m,PX [] Zk #[.pointer n,I j] w (.agg #[.pointer f,I m])/\NB w λb1=>∃k,PX [] QC #[.agg #[.pointer f,I m],I 0] w (.pointer k)/\k.isSome=true/\∃l,Q1 [] w k (0+1) [.bool l]/\(l=false->k.isSome=true)/\∃o,(l=false->Q1 [] w k (0+2) [I o])/\((l||(o != 0))=false->k.isSome=true)/\∃D,((l||(o != 0))=false->Q1 [] w k (0+3) [I D])/\Bf ((l||(o != 0))||(D != 10)) (R (.bool false) w) (∃(t:LP) (r:LN),t [I 1]/\∀(a:Int),t [I a]->Bf (decide (a<8)) (f.isSome=true/\∃G V a3,Q1 [] w f (0+3) [S G V a3]/\Ix G V a/\∃F,Q1 [] w G (a.toNat*14+0) [.bool F]/\Bf (!F) (Qz (a+1)/\t [I (a+1)]/\r [I (a+1)]<r [I a]) (∃g,PX [] QC #[.agg #[.pointer f,I m],I a] w (.pointer g)/\g.isSome=true/\∃c,Q1 [] w g (0+1) [.bool c]/\∃b,PX [] Xk #[.agg #[.pointer f,I m],I a] w (.bool b)/\∃d,(b=true->PX [] UR #[.agg #[.pointer f,I m],I a] w (.bool d))/\((!(c==(b&&(!d))))=false->g.isSome=true)/\∃e,((!(c==(b&&(!d))))=false->Q1 [] w g (0+1) [.bool e])/\(e=true->(!(c==(b&&(!d))))=false->g.isSome=true)/\∃X,(e=true->(!(c==(b&&(!d))))=false->Q1 [] w g (0+2) [I X])/\(e=true->(!(c==(b&&(!d))))=false->f.isSome=true)/\∃A Y b7,(e=true->(!(c==(b&&(!d))))=false->Q1 [] w f (0+3) [S A Y b7])/\(e=true->(!(c==(b&&(!d))))=false->Ix A Y a)/\∃Z,(e=true->(!(c==(b&&(!d))))=false->Q1 [] w A (a.toNat*14+1) [I Z])/\∃J,(e=true->(!(c==(b&&(!d))))=false->PX [] QC #[.agg #[.pointer f,I m],I Z] w (.pointer J))/\(e=true->(!(c==(b&&(!d))))=false->J.isSome=true)/\∃L,(e=true->(!(c==(b&&(!d))))=false->Q1 [] w J (0+0) [I L])/\(e=true->(!(c==(b&&(!d))))=false->g.isSome=true)/\∃N,(e=true->(!(c==(b&&(!d))))=false->Q1 [] w g (0+3) [I N])/\∃E,(e=true->(!(c==(b&&(!d))))=false->PX [] Tj #[I X,I L,I N] w (.bool E))/\Bf ((!(c==(b&&(!d))))||(e&&(!E))) (R (.bool false) w) (Qz (a+1)/\t [I (a+1)]/\r [I (a+1)]<r [I a]))) (Qz (j+1)/\C [I (j+1)]/\T [I (j+1)]<T [I j]))) (R (.bool true) w))
theorem Lb(a):X8 (KS a) Xb #[.pointer a]:=pV [] false [(2,⟨[(17,Ri)],[],[0,15,16],[],[]⟩),(5,⟨[(24,Ri)],[],[0,15,16,17,22,23],[],[]⟩),(12,⟨[(50,Ri)],[],[0,49],[],[]⟩),(19,⟨[(10,Ri)],[],[0,8,49,50],[],[]⟩)] Tryz.func90 Qk Qk
def KT(b:OA)(c:Int)(w:Wo)(R:RT):=b.isSome=true/\∃j e h,Q1 [] w b (0+2) [S j e h]/\Qz ((e:Int)-1)/\∃a,PX [] QD #[I c,I 0,I ((e:Int)-1)] w (.bool a)/\(a=true->b.isSome=true)/\∃d g i,(a=true->Q1 [] w b (0+2) [S d g i])/\(a=true->Ix d g c)/\∃f,(a=true->Q1 [] w d (c.toNat*9+0) [I f])/\R (.bool (a&&(f != 0))) w
theorem Lc(a b):X8 (KT a b) Xc #[.pointer a,I b]:=pV [] false [] Tryz.func104 Qk Qk
def Dt(b:OA)(d p:Int)(w:Wo)(R:RT):=NB w λy=>b.isSome=true/\∃g o z,Q1 [] w b (0+2) [S g o z]/\Ix g o p/\∃i m f q u A r s v,Q1 [] w g (p.toNat*9) [I i,I m,I f,I q,I u,I A,I r,I s,I v]/\NB w λx=>Bf ((i != 1)||(f != d)) (R (.bool false) w) (∃(c:LP) (l:LN),c [I m]/\∀(a:Int),c [I a]->Bf (a != 0) (∃e,PX [] QC #[.agg #[.pointer b,I d],I a] w (.pointer e)/\e.isSome=true/\∃k,Q1 [] w e (0+1) [.bool k]/\Bf (!k) (R (.bool false) w) (b.isSome=true/\∃j n t,Q1 [] w b (0+3) [S j n t]/\Ix j n a/\∃h,Q1 [] w j (a.toNat*14+1) [I h]/\c [I h]/\l [I h]<l [I a])) (R (.bool true) w))
theorem E6(a b c):X8 (Dt a b c) Jh #[.agg #[.pointer a,I b],I c]:=pV [] false [(5,⟨[(6,Ri)],[],[2],[],[]⟩)] Tryz.func168 Qk Qk
def Hw(b:OA)(w:Wo)(R:RT):=b.isSome=true/\∃z t a4,Q1 [] w b (0+1) [S z t a4]/\∃(m:LP) (q:LN),m [I 0]/\∀(a:Int),m [I a]->Bf (decide (a<(t:Int))) (Ix z t a/\∃f c e o u,Q1 [] w z (a.toNat*5) [.bool f,I c,I e,I o,I u]/\NB w λa8=>NB w λJ=>∃A,(∀y,Q0 [] w y->y.heap[J]? = some (Obj.cells ([I o,I u]:LV).toArray Qc (0,0))->PX [] ZR #[S (some (Addr.mk J 0 none)) 2 2] y (.bool A))/\Bf (!A) (R (.bool false) w) (Bf ((c==(-1))&&(e==0)) (Qz (a+1)/\m [I (a+1)]/\q [I (a+1)]<q [I a]) (∃i l,PX [] Zk #[.pointer b,I a] w (.agg #[.pointer i,I l])/\NB w λa7=>∃g,((!f)=false->PX [] Xc #[.pointer b,I c] w (.bool g))/\∃p,(((!f)||(!g))=false->PX [] Jh #[.agg #[.pointer i,I l],I c] w (.bool p))/\∃F,((((!f)||(!g))||(!p))=false->PX [] QD #[I e,I 1,I 149] w (.bool F))/\Bf ((((!f)||(!g))||(!p))||(!F)) (R (.bool false) w) (b.isSome=true/\∃j C a0,Q1 [] w b (0+2) [S j C a0]/\Ix j C c/\∃T r Q G a2 k N P Y,Q1 [] w j (Int.toNat c*9) [I T,I r,I Q,I G,I a2,I k,I N,I P,I Y]/\NB w λa5=>Q1 [] w j (Int.toNat c*9) [I T,I r,I Q,I G,I a2,I k,I N,I P,I Y]/\(some (ZD,([.bool f,I c,I e,I o,I u]:LV))=some (ZD,([.bool f,I c,I e,I o,I u]:LV)))/\Q1 [] w b (0+2) [S j C a0]/\∃B,PX [] QC #[.agg #[.pointer i,I l],I r] w (.pointer B)/\B.isSome=true/\∃n,Q1 [] w B (0+0) [I n]/\Qz (k-n)/\∃Z,PX [] UP #[I G] w (I Z)/\∃E,PX [] Xj #[I e,I Z] w (I E)/\Bf (decide (k-n>E)) (R (.bool false) w) (∃(x:LP) (O:LN),x [I r]/\∀(d:Int),x [I d]->Bf (d != 0) (∃h,PX [] QC #[.agg #[.pointer i,I l],I d] w (.pointer h)/\h.isSome=true/\∃s,Q1 [] w h (0+2) [I s]/\b.isSome=true/\∃M U a6,Q1 [] w b (0+3) [S M U a6]/\Ix M U d/\∃a1,Q1 [] w M (d.toNat*14+1) [I a1]/\∃L,PX [] QC #[.agg #[.pointer i,I l],I a1] w (.pointer L)/\L.isSome=true/\∃v,Q1 [] w L (0+0) [I v]/\Qz (s-v)/\h.isSome=true/\∃V,Q1 [] w h (0+3) [I V]/\∃D,PX [] Xj #[I e,I V] w (I D)/\Bf (decide (s-v>D)) (R (.bool false) w) (b.isSome=true/\∃K X a3,Q1 [] w b (0+3) [S K X a3]/\Ix K X d/\∃H,Q1 [] w K (d.toNat*14+1) [I H]/\x [I H]/\O [I H]<O [I d])) (Qz (a+1)/\m [I (a+1)]/\q [I (a+1)]<q [I a])))))) (R (.bool true) w)
theorem HR(a):X8 (Hw a) XT #[.pointer a]:=pV [] false [(2,⟨[(14,Ri)],[],[0,12,13],[],[]⟩),(14,⟨[(7,Ri)],[],[0,4,5,12,13,14],[],[]⟩)] Tryz.func91 Qk Qk
def zan(y:Int)(B:OA)(s p:Nat)(q:OA)(z r:Nat)(v:OA)(t u:Nat)(w:Wo)(R:RT):=∀f e,Q0 [] w e->w.heap.size<=f->e.heap[f]? = some (Obj.cells ([I y,S B s p,S q z r,S v t u]:LV).toArray Q4 (0,0))->f∉([]:List Nat)->NB e λb=>∃(g:LQ) (l:LM),(AX [] [b] e λx=>g [.bool true,I 0] x)/\∀(d:Bool) (a:Int) c,(∀bq∈[b],bq<c.heap.size)->g [.bool d,I a] c->Bf (decide (a<5)) (∃(m:Fn) (o:Array Va) (k:Array Va),(0<=a/\a<(5:Int)/\(#[.func (.func XE) #[] #[],.func (.func Xn) #[] #[],.func (.func XF) #[] #[],.func (.func Xb) #[] #[],.func (.func XT) #[] #[]]:Array Va)[Int.toNat a]? = some (.func m o k))/\AY [b] c λn=>MA Tryz.prog (.func m o k) [.pointer ((some (Addr.mk f 0 none)).map (·.add 0))] n λA h=>∃i,A=.returned (.bool i)/\Q8 [b] n h/\Bf (!i) (AR [b] h R (.bool false)) (Qz (a+1)/\AY [b] h λj=>g [.bool d,I (a+1)] j/\l [.bool d,I (a+1)] j<l [.bool d,I a] c)) (AR [b] c R (.bool d))
theorem zbj(a b c d e f g h i j):JA (zan a b c d e f g h i j) Pf #[Wv a b c d e f g h i j]:=eV [1] false [(4,⟨[(4,.bool),(9,Ri)],[],[1,8],[],[]⟩)] Tryz.func21 Qk Qk
def Ac(z y v:Int)(u:OA)(g t:Nat)(x:OA)(d s:Nat)(w:Wo)(R:RT):=NB w λb=>NB w λa=>AX [] [b,a] w λr=>∃j f m,∃c,((Instr.makeSlice Y3 (I (g:Int)) (I (g:Int))):Sem Va).run Tryz.prog r=.ok (S j f m) c/\Q8 [b,a] r c/\AY [b,a] c λq=>∃A,∃l,(builtin .copy #[Y3,Y3] Qc #[false,false] #[S j f m,S u g t]).run Tryz.prog q=.ok (.value (I A)) l/\Q8 [b,a] q l/\AY [b,a] l λp=>∃e k i,∃h,((Instr.makeSlice Jc (I (d:Int)) (I (d:Int))):Sem Va).run Tryz.prog p=.ok (S e k i) h/\Q8 [b,a] p h/\AY [b,a] h λo=>∃B,∃n,(builtin .copy #[Jc,Jc] Qc #[false,false] #[S e k i,S x d s]).run Tryz.prog o=.ok (.value (I B)) n/\Q8 [b,a] o n/\AR [b,a] n R (.agg #[I z,I y,I v,S j f m,S e k i])
theorem AO(a b c d e f g h i):JA (Ac a b c d e f g h i) O5 #[.agg #[I a,I b,I c,S d e f,S g h i]]:=eV [] false [] Tryz.func242 Qk Qk
def Bn(p:Int)(b0:OA)(b7 b2:Nat)(b4:OA)(c0 b6:Nat)(u:OA)(G b9:Nat)(w:Wo)(R:RT):=NB w λc=>NB w λb=>NB w λa=>AX [] [c,b,a] w λO=>∃o l n,∃r,(builtin .append #[Zs,Zs] Zs #[false,false] #[S none 0 0,S b0 b7 b2]).run Tryz.prog O=.ok (.value (S o l n)) r/\Q8 [c,b,a] O r/\AY [c,b,a] r λL=>∃i j m,∃x,(builtin .append #[Z4,Z4] Z4 #[false,false] #[S none 0 0,S b4 c0 b6]).run Tryz.prog L=.ok (.value (S i j m)) x/\Q8 [c,b,a] L x/\AY [c,b,a] x λH=>∃e f k,∃t,(builtin .append #[QA,QA] QA #[false,false] #[S none 0 0,S u G b9]).run Tryz.prog H=.ok (.value (S e f k)) t/\Q8 [c,b,a] H t/\∃(s:LQ) (E:LM),(AY [c,b,a] t λb1=>s [I 0] b1)/\∀(d:Int) h,(∀bq∈[c,b,a],bq<h.heap.size)->s [I d] h->Bf (decide (d<(f:Int))) (Ix u G d/\∃(c3:Bool) (b5:Int) (c1:ByteArray) (a8 b8 c2 a9 b3 U Z a6:Int) (a4:OA) (y M:Nat) (P:OA) (J K:Nat) (a5:OA) (V B:Nat),Q1 [c,b,a] h u (d.toNat*14) [.bool c3,I b5,.string c1,I a8,I b8,I c2,I a9,I b3,I U,I Z,I a6,S a4 y M,S P J K,S a5 V B]/\NB h λg=>AX [c,b,a] [c,b,a,g] h λY=>Cz O5 #[.agg #[I U,I Z,I a6,S a4 y M,S P J K]] Y λc4 v=>∃D A Q a2 T a3 z a0 a7,c4=.returned (.agg #[I D,I A,I Q,S a2 T a3,S z a0 a7])/\Q8 [c,b,a,g] Y v/\(some (Q4,([I p,S o l n,S i j m,S e f k]:LV))=some (Q4,([I p,S o l n,S i j m,S e f k]:LV)))/\Ix e f d/\Yo [c,b,a,g] v e (d.toNat*14+8) 5/\AY [c,b,a,g] (R9 v e (d.toNat*14+8) [I D,I A,I Q,S a2 T a3,S z a0 a7]) λF=>∃X a1 C,∃q,(builtin .append #[Za,Za] Za #[true,false] #[S none 0 0,S a5 V B]).run Tryz.prog F=.ok (.value (S X a1 C)) q/\Q8 [c,b,a,g] F q/\(some (Q4,([I p,S o l n,S i j m,S e f k]:LV))=some (Q4,([I p,S o l n,S i j m,S e f k]:LV)))/\Ix e f d/\Yo [c,b,a,g] q e (d.toNat*14+13) 1/\Qz (d+1)/\AY [c,b,a,g] (R9 q e (d.toNat*14+13) [S X a1 C]) λN=>s [I (d+1)] N/\E [I (d+1)] N<E [I d] h) (AR [c,b,a] h R (Wv p o l n i j m e f k))
theorem BL(a b c d e f g h i j):JA (Bn a b c d e f g h i j) Ud #[Wv a b c d e f g h i j]:=eV [] false [(6,⟨[(30,Ri)],[],[1,2,3,29],[],[]⟩)] Tryz.func172 Qk Qk
def zao(q:Int)(u:OA)(l i:Nat)(j:OA)(r k:Nat)(p:OA)(m o:Nat)(b2:Fn)(b1:Array Va)(a6:Array Va)(w:Wo)(R:RT):=NB w λb=>NB w λa=>∃n,PX [] Pf #[Wv q u l i j r k p m o] w (.bool n)/\Bf (!n) (AR [] w R (.tuple #[Wv 0 none 0 0 none 0 0 none 0 0,I 1])) (CWx [] [b,a] Ud #[Wv q u l i j r k p m o] w λC K x X F T z M G B v=>∀c f,Q0 [b,a] v f->v.heap.size<=c->f.heap[c]? = some (Obj.cells ([I 0,S none 0 0,S none 0 0,S none 0 0]:LV).toArray Q4 (0,0))->c∉([b,a]:List Nat)->Yo [b,a] f (some (Addr.mk c 0 none)) 0 4/\∀d s,Q0 [b,a] (R9 f (some (Addr.mk c 0 none)) 0 [I C,S K x X,S F T z,S M G B]) s->(R9 f (some (Addr.mk c 0 none)) 0 [I C,S K x X,S F T z,S M G B]).heap.size<=d->s.heap[d]? = some (Obj.cells ([I 0]:LV).toArray Z3 (0,0))->d∉([b,a]:List Nat)->AY [b,a] s λJ=>MA Tryz.prog (.func b2 b1 a6) [.pointer ((some (Addr.mk c 0 none)).map (·.add 0))] J λa5 L=>∃(Y:Va),a5=.returned Y/\Q8 [b,a] J L/\AY [b,a] L λA=>Cz KZ #[Y,.iface J6 (.pointer ((some (Addr.mk d 0 none)).map (·.add 0)))] A λa2 e=>∃h,a2=.returned (.bool h)/\Q8 [b,a] A e/\Bf h (∃g,Q1 [b,a] e (some (Addr.mk d 0 none)) (0+0) [I g]/\CW [b,a] Ud #[Wv q u l i j r k p m o] e λb3 a4 a7 a3 a1 a8 a9 Z a0 b0 t=>Q1 [b,a] t (some (Addr.mk d 0 none)) (0+0) [I g]/\Q1 [b,a] t (some (Addr.mk d 0 none)) (0+0) [I g]/\AR [b,a] t R (.tuple #[Wv b3 a4 a7 a3 a1 a8 a9 Z a0 b0,I g])) (∃V y E U O D Q H N P,Q1 [b,a] e (some (Addr.mk c 0 none)) 0 [I V,S y E U,S O D Q,S H N P]/\AR [b,a] e R (.tuple #[Wv V y E U O D Q H N P,I 0])))
theorem zbk(a b c d e f g h i j k l m):JA (zao a b c d e f g h i j k l m) JU #[Wv a b c d e f g h i j,.func k l m]:=eV [6,7] false [] Tryz.func76 Qk Qk
def Ae(c:OA)(b:Int)(w:Wo)(R:RT):=NB w λe=>c.isSome=true/\∃a d f,Q1 [] w c (0+1) [S a d f]/\Ix a d b/\R (.pointer (a.map (·.add (b.toNat*5)))) w
theorem Cw(a b):X8 (Ae a b) YL #[.agg #[.pointer a,I b]]:=pV [] false [] Tryz.func64 Qk Qk
def G2(d:OA)(c:Int)(w:Wo)(R:RT):=NB w λe=>∃a,PX [] YL #[.agg #[.pointer d,I c]] w (.pointer a)/\∃b,PX [] YL #[.agg #[.pointer d,I c]] w (.pointer b)/\a.isSome=true/\Yo [] w a (0+1) 1/\b.isSome=true/\Yo [] (R9 w a (0+1) [I (-1)]) b (0+2) 1/\AR [] (R9 (R9 w a (0+1) [I (-1)]) b (0+2) [I 0]) R (.tuple #[])
theorem Gc(a b):JA (G2 a b) YG #[.agg #[.pointer a,I b]]:=eV [] false [] Tryz.func65 Qk Qk
def zek(b c:Int)(w:Wo)(R:RT):=∃a,PX [] Vu #[I c] w (I a)/\R (I (if (if a<b then a else b)>0 then (if a<b then a else b) else 0)) w
theorem zgb(a b):X8 (zek a b) M3 #[I a,I b]:=pV [] false [] Tryz.func127 Qk Qk
def Dp(f:OA)(i:Int)(w:Wo)(R:RT):=∃(c:LP) (g:LN),c [I i,I 0]/\∀(b a:Int),c [I b,I a]->Bf (b != 0) (Qz (a+1)/\f.isSome=true/\∃e h j,Q1 [] w f (0+3) [S e h j]/\Ix e h b/\∃d,Q1 [] w e (b.toNat*14+1) [I d]/\c [I d,I (a+1)]/\g [I d,I (a+1)]<g [I b,I a]) (R (I a) w)
theorem E4(a b):X8 (Dp a b) Vb #[.pointer a,I b]:=pV [] false [(2,⟨[(1,Ri),(5,Ri)],[],[0],[],[]⟩)] Tryz.func234 Qk Qk
def MT(e:OA)(m:Int)(w:Wo)(R:RT):=NB w λa=>∃(p:LQ) (A:LM),(AX [] [a] w λL=>p [I 3] L)/\∀(f:Int) i,(∀bq∈[a],bq<i.heap.size)->p [I f] i->Bf (decide (f>=1)) (e.isSome=true/\∃N t J,Q1 [a] i e (0+3) [S N t J]/\∃(l:LQ) (k:LM),(AY [a] i λK=>l [I 0] K)/\∀(c:Int) b,(∀bq∈[a],bq<b.heap.size)->l [I c] b->Bf (decide (c<(t:Int))) (e.isSome=true/\∃v D H,Q1 [a] b e (0+3) [S v D H]/\Ix v D c/\∃n,Q1 [a] b v (c.toNat*14+0) [.bool n]/\∃q,((!n)=false->PX [a] Vb #[.pointer e,I c] b (I q))/\Bf ((!n)||(q != f)) (Qz (c+1)/\AY [a] b λC=>l [I (c+1)] C/\k [I (c+1)] C<k [I c] b) (∃d,PX [a] QC #[.agg #[.pointer e,I m],I c] b (.pointer d)/\∃g,PX [a] Xk #[.agg #[.pointer e,I m],I c] b (.bool g)/\∃h,(g=true->PX [a] UR #[.agg #[.pointer e,I m],I c] b (.bool h))/\((g&&(!h))=true->d.isSome=true)/\∃x,((g&&(!h))=true->Q1 [a] b d (0+1) [.bool x])/\Bf ((g&&(!h))&&(!x)) (e.isSome=true/\∃u E M,Q1 [a] b e (0+3) [S u E M]/\Ix u E c/\∃G,Q1 [a] b u (c.toNat*14+1) [I G]/\∃r,PX [a] QC #[.agg #[.pointer e,I m],I G] b (.pointer r)/\r.isSome=true/\∃j,Q1 [a] b r (0+0) [I j]/\d.isSome=true/\∃s,Q1 [a] b d (0+2) [I s]/\Qz (s-j)/\d.isSome=true/\∃z,Q1 [a] b d (0+3) [I z]/\∃o,PX [a] M3 #[I (s-j),I z] b (I o)/\Qz (j+o)/\d.isSome=true/\Yo [a] b d (0+2) 1/\d.isSome=true/\Yo [a] (R9 b d (0+2) [I (j+o)]) d (0+1) 1/\Qz (c+1)/\AY [a] (R9 (R9 b d (0+2) [I (j+o)]) d (0+1) [.bool (g&&(!h))]) λy=>l [I (c+1)] y/\k [I (c+1)] y<k [I c] b) (d.isSome=true/\Yo [a] b d (0+1) 1/\Qz (c+1)/\AY [a] (R9 b d (0+1) [.bool (g&&(!h))]) λF=>l [I (c+1)] F/\k [I (c+1)] F<k [I c] b))) (Qz (f-1)/\AY [a] b λB=>p [I (f-1)] B/\A [I (f-1)] B<A [I f] i)) (AR [a] i R (.tuple #[]))
theorem MX(a b):JA (MT a b) YF #[.agg #[.pointer a,I b]]:=eV [] false [(2,⟨[(2,Ri)],[],[1],[],[]⟩),(5,⟨[(17,Ri)],[],[1,2,16],[],[]⟩)] Tryz.func164 Qk Qk
def A8(c:OA)(w:Wo)(R:RT):=c.isSome=true/\∃m f j,Q1 [] w c (0+4) [S m f j]/\∃(e:LQ) (i:LM),(AY [] w λl=>e [I 0] l)/\∀(a:Int) b,(∀bq∈([]:List Nat),bq<b.heap.size)->e [I a] b->Bf (decide (a<(f:Int))) (c.isSome=true/\∃d g k,Q1 [] b c (0+4) [S d g k]/\Ix d g a/\Yo [] b d (a.toNat*1) 1/\Qz (a+1)/\AY [] (R9 b d (a.toNat*1) [.bool false]) λh=>e [I (a+1)] h/\i [I (a+1)] h<i [I a] b) (AR [] b R (.tuple #[]))
theorem AL(a):JA (A8 a) UN #[.pointer a]:=eV [] false [(1,⟨[(8,Ri)],[],[0,7],[],[]⟩)] Tryz.func262 Qk Qk
def Ht(a:OA)(w:Wo)(R:RT):=a.isSome=true/\∃d,Q1 [] w a (0+0) [I d]/\a.isSome=true/\Yo [] w a (0+1) 1/\a.isSome=true/\Yo [] (R9 w a (0+1) [I d]) a (0+2) 1/\a.isSome=true/\∃p f o,Q1 [] (R9 (R9 w a (0+1) [I d]) a (0+2) [I 0]) a (0+3) [S p f o]/\∃(g:LQ) (j:LM),(AY [] (R9 (R9 w a (0+1) [I d]) a (0+2) [I 0]) λm=>g [I 0] m)/\∀(b:Int) c,(∀bq∈([]:List Nat),bq<c.heap.size)->g [I b] c->Bf (decide (b<(f:Int))) (a.isSome=true/\∃e h n,Q1 [] c a (0+3) [S e h n]/\Ix e h b/\Yo [] c e (b.toNat*1) 1/\Qz (b+1)/\AY [] (R9 c e (b.toNat*1) [I 0]) λi=>g [I (b+1)] i/\j [I (b+1)] i<j [I b] c) (AY [] c λl=>Cz UN #[.pointer a] l λq k=>q=.returned (.tuple #[])/\Q8 [] l k/\AR [] k R (I 0))
theorem HE(a):JA (Ht a) Uv #[.pointer a]:=eV [] false [(3,⟨[(19,Ri)],[],[0,18],[],[]⟩)] Tryz.func237 Qk Qk
def Et(a:OA)(c:Int)(w:Wo)(R:RT):=a.isSome=true/\∃g j n,Q1 [] w a (0+3) [S g j n]/\Ix g j c/\∃h,Q1 [] w g (c.toNat*1) [I h]/\Bf (decide (h>0)) (AR [] w R (I 0)) (a.isSome=true/\∃b,Q1 [] w a (0+1) [I b]/\Bf ((if b<20 then b else 20)==0) (a.isSome=true/\∃e k l,Q1 [] w a (0+4) [S e k l]/\Ix e k c/\Yo [] w e (c.toNat*1) 1/\AR [] (R9 w e (c.toNat*1) [.bool true]) R (I 2)) (a.isSome=true/\∃d,Q1 [] w a (0+1) [I d]/\Qz (d-(if b<20 then b else 20))/\a.isSome=true/\Yo [] w a (0+1) 1/\a.isSome=true/\∃f i m,Q1 [] (R9 w a (0+1) [I (d-(if b<20 then b else 20))]) a (0+3) [S f i m]/\Ix f i c/\Yo [] (R9 w a (0+1) [I (d-(if b<20 then b else 20))]) f (c.toNat*1) 1/\AR [] (R9 (R9 w a (0+1) [I (d-(if b<20 then b else 20))]) f (c.toNat*1) [I (if b<20 then b else 20)]) R (I 0)))
theorem EX(a b):JA (Et a b) VK #[.pointer a,I b]:=eV [] false [] Tryz.func238 Qk Qk
def Dk(b:OA)(c a:Int)(w:Wo)(R:RT):=((decide (a<1))=false->b.isSome=true)/\∃h j l,((decide (a<1))=false->Q1 [] w b (0+3) [S h j l])/\((decide (a<1))=false->Ix h j c)/\∃i,((decide (a<1))=false->Q1 [] w h (c.toNat*1) [I i])/\Bf ((decide (a<1))||(decide (a>i))) (AR [] w R (I 3)) (b.isSome=true/\∃d f k,Q1 [] w b (0+3) [S d f k]/\Ix d f c/\∃e,Q1 [] w d (c.toNat*1) [I e]/\Qz (e-a)/\Ix d f c/\Yo [] w d (c.toNat*1) 1/\b.isSome=true/\∃g,Q1 [] (R9 w d (c.toNat*1) [I (e-a)]) b (0+2) [I g]/\Qz (g+a)/\b.isSome=true/\Yo [] (R9 w d (c.toNat*1) [I (e-a)]) b (0+2) 1/\AR [] (R9 (R9 w d (c.toNat*1) [I (e-a)]) b (0+2) [I (g+a)]) R (I 0))
theorem DG(a b c):JA (Dk a b c) V8 #[.pointer a,I b,I c]:=eV [] false [] Tryz.func239 Qk Qk
def Hu(a:OA)(b:Int)(w:Wo)(R:RT):=a.isSome=true/\∃c,Q1 [] w a (0+1) [I c]/\a.isSome=true/\∃f j m,Q1 [] w a (0+3) [S f j m]/\Ix f j b/\∃d,Q1 [] w f (b.toNat*1) [I d]/\Qz (c+d)/\a.isSome=true/\Yo [] w a (0+1) 1/\a.isSome=true/\∃e h l,Q1 [] (R9 w a (0+1) [I (c+d)]) a (0+3) [S e h l]/\Ix e h b/\Yo [] (R9 w a (0+1) [I (c+d)]) e (b.toNat*1) 1/\a.isSome=true/\∃g,Q1 [] (R9 (R9 w a (0+1) [I (c+d)]) e (b.toNat*1) [I 0]) a (0+1) [I g]/\Bf (decide (g>0)) (AY [] (R9 (R9 w a (0+1) [I (c+d)]) e (b.toNat*1) [I 0]) λk=>Cz UN #[.pointer a] k λn i=>n=.returned (.tuple #[])/\Q8 [] k i/\AR [] i R (I 0)) (AR [] (R9 (R9 w a (0+1) [I (c+d)]) e (b.toNat*1) [I 0]) R (I 0))
theorem HF(a b):JA (Hu a b) Uw #[.pointer a,I b]:=eV [] false [] Tryz.func240 Qk Qk
def zaj(c:OA)(b d q:Int)(w:Wo)(R:RT):=NB w λa=>Bf (b==4) (CIx [] [a] Uv #[.pointer c] w λj g=>AR [a] g R (I j)) (c.isSome=true/\∃o e m,Q1 [] w c (0+3) [S o e m]/\Qz ((e:Int)-1)/\∃f,PX [] QD #[I d,I 0,I ((e:Int)-1)] w (.bool f)/\Bf (!f) (AR [] w R (I 1)) (Bf (b==1) (CIx [] [a] VK #[.pointer c,I d] w λp l=>AR [a] l R (I p)) (Bf (b==2) (CIx [] [a] V8 #[.pointer c,I d,I q] w λn h=>AR [a] h R (I n)) (Bf (b==3) (CIx [] [a] Uw #[.pointer c,I d] w λi k=>AR [a] k R (I i)) (AR [] w R (I 1))))))
theorem zbi(a b c d):JA (zaj a b c d) Pc #[.pointer a,.agg #[I b,I c,I d]]:=eV [] false [] Tryz.func166 Qk Qk
def Bm(e:OA)(m:Int)(w:Wo)(R:RT):=NB w λa=>e.isSome=true/\∃a9 z Z,Q1 [] w e (0+3) [S a9 z Z]/\∃(l:LQ) (k:LM),(AX [] [a] w λa3=>l [I 0] a3)/\∀(b:Int) h,(∀bq∈[a],bq<h.heap.size)->l [I b] h->Bf (decide (b<(z:Int))) (e.isSome=true/\∃F M Q,Q1 [a] h e (0+3) [S F M Q]/\Ix F M b/\∃D,Q1 [a] h F (b.toNat*14+0) [.bool D]/\Bf (!D) (Qz (b+1)/\AY [a] h λJ=>l [I (b+1)] J/\k [I (b+1)] J<k [I b] h) (e.isSome=true/\∃C r a7,Q1 [a] h e (0+2) [S C r a7]/\∃(p:LQ) (u:LM),(AY [a] h λa1=>p [I 100000000000000001,I 0] a1)/\∀(j d:Int) i,(∀bq∈[a],bq<i.heap.size)->p [I j,I d] i->Bf (decide (d<(r:Int))) (Ix C r d/\∃a8 Y a5 T a0 o U V a6,Q1 [a] i C (d.toNat*9) [I a8,I Y,I a5,I T,I a0,I o,I U,I V,I a6]/\NB i λB=>∃A,PX [a] Ji #[.agg #[.pointer e,I m],I d,I b] i (.bool A)/\Bf A (Qz (d+1)/\AX [a] [a,B] i λH=>p [I (if o<j then o else j),I (d+1)] H/\u [I (if o<j then o else j),I (d+1)] H<u [I j,I d] i) (Qz (d+1)/\AX [a] [a,B] i λP=>p [I j,I (d+1)] P/\u [I j,I (d+1)] P<u [I j,I d] i)) (e.isSome=true/\∃a2 E a4,Q1 [a] i e (0+3) [S a2 E a4]/\∃(t:LQ) (s:LM),(AY [a] i λX=>t [I j,I 0] X)/\∀(g f:Int) c,(∀bq∈[a],bq<c.heap.size)->t [I g,I f] c->Bf (decide (f<(E:Int))) (∃v,PX [a] JM #[.agg #[.pointer e,I m],I f,I b] c (.bool v)/\Bf v (∃y,PX [a] QC #[.agg #[.pointer e,I m],I f] c (.pointer y)/\y.isSome=true/\∃n,Q1 [a] c y (0+2) [I n]/\Qz (f+1)/\AY [a] c λK=>t [I (if n<g then n else g),I (f+1)] K/\s [I (if n<g then n else g),I (f+1)] K<s [I g,I f] c) (Qz (f+1)/\AY [a] c λN=>t [I g,I (f+1)] N/\s [I g,I (f+1)] N<s [I g,I f] c)) (Bf (decide (g<=100000000000000000)) (∃q,PX [a] QC #[.agg #[.pointer e,I m],I b] c (.pointer q)/\∃G,PX [a] QC #[.agg #[.pointer e,I m],I b] c (.pointer G)/\G.isSome=true/\∃x,Q1 [a] c G (0+0) [I x]/\q.isSome=true/\Yo [a] c q (0+0) 1/\Qz (b+1)/\AY [a] (R9 c q (0+0) [I (if g>x then g else x)]) λO=>l [I (b+1)] O/\k [I (b+1)] O<k [I b] h) (Qz (b+1)/\AY [a] c λL=>l [I (b+1)] L/\k [I (b+1)] L<k [I b] h))))) (AR [a] h R (.tuple #[]))
theorem BK(a b):JA (Bm a b) Ti #[.agg #[.pointer a,I b]]:=eV [] false [(2,⟨[(13,Ri)],[],[1,12],[],[]⟩),(7,⟨[(3,Ri),(32,Ri)],[],[1,2,12,13,30,31],[],[]⟩),(13,⟨[(3,Ri),(52,Ri)],[],[1,2,12,13,51],[],[]⟩)] Tryz.func167 Qk Qk
def Hy(d:OA)(w:Wo)(R:RT):=d.isSome=true/\∃a7 A b2,Q1 [] w d (0+1) [S a7 A b2]/\∃(x:LQ) (N:LM),(AY [] w λb5=>x [I 0] b5)/\∀(h:Int) m,(∀bq∈([]:List Nat),bq<m.heap.size)->x [I h] m->Bf (decide (h<(A:Int))) (∃O a3,PX [] Zk #[.pointer d,I h] m (.agg #[.pointer O,I a3])/\AY [] m λT=>Cz YF #[.agg #[.pointer O,I a3]] T λc0 M=>c0=.returned (.tuple #[])/\Q8 [] T M/\Qz (h+1)/\AY [] M λQ=>x [I (h+1)] Q/\N [I (h+1)] Q<N [I h] m) (d.isSome=true/\∃c1 B b4,Q1 [] m d (0+3) [S c1 B b4]/\∃(v:LQ) (a4:LM),(AY [] m λa6=>v [I 0] a6)/\∀(e:Int) i,(∀bq∈([]:List Nat),bq<i.heap.size)->v [I e] i->Bf (decide (e<(B:Int))) (d.isSome=true/\∃u Y a5,Q1 [] i d (0+3) [S u Y a5]/\Ix u Y e/\∃E p b3,Q1 [] i u (e.toNat*14+8+3) [S E p b3]/\∃(r:LQ) (q:LM),(AY [] i λb9=>r [I 0] b9)/\∀(a:Int) f,(∀bq∈([]:List Nat),bq<f.heap.size)->r [I a] f->Bf (decide (a<(p:Int))) (Ix E p a/\∃o,Q1 [] f E (a.toNat*1) [I o]/\∃P J,((decide (o>0))=true->PX [] Zk #[.pointer d,I a] f (.agg #[.pointer P,I J]))/\∃F,((decide (o>0))=true->PX [] Xk #[.agg #[.pointer P,I J],I e] f (.bool F))/\Bf ((decide (o>0))&&(!F)) (CI [] Pc #[.pointer (u.map (·.add (e.toNat*14+8))),.agg #[I 3,I a,I 0]] f λc2 b6=>Qz (a+1)/\AY [] b6 λU=>r [I (a+1)] U/\q [I (a+1)] U<q [I a] f) (Qz (a+1)/\AY [] f λa0=>r [I (a+1)] a0/\q [I (a+1)] a0<q [I a] f)) (Qz (e+1)/\AY [] f λa2=>v [I (e+1)] a2/\a4 [I (e+1)] a2<a4 [I e] i)) (d.isSome=true/\∃b8 D a9,Q1 [] i d (0+1) [S b8 D a9]/\∃(t:LQ) (s:LM),(AY [] i λb7=>t [I 0] b7)/\∀(c:Int) g,(∀bq∈([]:List Nat),bq<g.heap.size)->t [I c] g->Bf (decide (c<(D:Int))) (∃k l,PX [] Zk #[.pointer d,I c] g (.agg #[.pointer k,I l])/\NB g λb=>AX [] [b] g λa1=>Cz YF #[.agg #[.pointer k,I l]] a1 λb1 L=>b1=.returned (.tuple #[])/\Q8 [b] a1 L/\AY [b] L λK=>Cz Ti #[.agg #[.pointer k,I l]] K λa8 j=>a8=.returned (.tuple #[])/\Q8 [b] K j/\∃C,PX [b] YL #[.agg #[.pointer k,I l]] j (.pointer C)/\C.isSome=true/\∃n,Q1 [b] j C (0+1) [I n]/\∃y,((n != (-1))=true->PX [b] YL #[.agg #[.pointer k,I l]] j (.pointer y))/\((n != (-1))=true->y.isSome=true)/\∃G,((n != (-1))=true->Q1 [b] j y (0+1) [I G])/\∃z,((n != (-1))=true->PX [b] Jh #[.agg #[.pointer k,I l],I G] j (.bool z))/\Bf ((n != (-1))&&(!z)) (AY [b] j λH=>Cz YG #[.agg #[.pointer k,I l]] H λb0 X=>b0=.returned (.tuple #[])/\Q8 [b] H X/\Qz (c+1)/\AY [b] X λZ=>t [I (c+1)] Z/\s [I (c+1)] Z<s [I c] g) (Qz (c+1)/\AY [b] j λV=>t [I (c+1)] V/\s [I (c+1)] V<s [I c] g)) (AR [] g R (.tuple #[]))))
theorem HG(a):JA (Hy a) XU #[.pointer a]:=eV [] false [(1,⟨[(14,Ri)],[],[0,13],[],[]⟩),(6,⟨[(27,Ri)],[],[0,26],[],[]⟩),(10,⟨[(42,Ri)],[],[0,3,4,26,27,40,41],[],[]⟩),(17,⟨[(68,Ri)],[],[0,67],[],[]⟩)] Tryz.func67 Qk Qk
def Dy(d:OA)(w:Wo)(R:RT):=CI [] Q2 #[.pointer d,I 12] w λe b=>Bf (e==0) (NB b λc=>CIx [] [c] Q2 #[.pointer d,I 3] b λa h=>(0<=a/\a<(3:Int))/\∃f,(0<=a/\([I (-1),I 7,I 8]:LV)[Int.toNat a+0]? = some (I f))/\AR [c] h R (I f)) (CI [] Q2 #[.pointer d,I 4] b λi g=>AR [] g R (I i))
theorem DJ(a):JA (Dy a) Ve #[.pointer a]:=eV [] false [] Tryz.func92 Qk Qk
def Aa(B:Int)(m:OA)(t o:Nat)(r:OA)(C s:Nat)(z:OA)(u x:Nat)(y n H:Int)(w:Wo)(R:RT):=NB w λa=>∀i j,Q0 [] w j->w.heap.size<=i->j.heap[i]? = some (Obj.cells ([I y]:LV).toArray Qc (0,0))->i∉([a]:List Nat)->∀g k,Q0 [a] j k->j.heap.size<=g->k.heap[g]? = some (Obj.cells ([I n]:LV).toArray Qc (0,0))->g∉([a]:List Nat)->∀f d,Q0 [a] k d->k.heap.size<=f->d.heap[f]? = some (Obj.cells ([I H]:LV).toArray Qc (0,0))->f∉([a]:List Nat)->NB d λc=>∀b h,Q0 [a] d h->d.heap.size<=b->h.heap[b]? = some (Obj.cells ([I 0]:LV).toArray Qc (0,0))->b∉([a,c]:List Nat)->Yo [a,c] h (some (Addr.mk b 0 none)) 0 1/\CV [a,c] JU #[Wv B m t o r C s z u x,.func (.func JJ) #[] #[.pointer ((some (Addr.mk g 0 none)).map (·.add 0)),.pointer ((some (Addr.mk f 0 none)).map (·.add 0)),.pointer ((some (Addr.mk i 0 none)).map (·.add 0)),.pointer ((some (Addr.mk b 0 none)).map (·.add 0))]] (R9 h (some (Addr.mk b 0 none)) 0 [I (-1)]) λM K p v A E D F G q L e=>NB e λJ=>∃l,Q1 [a,c] e (some (Addr.mk b 0 none)) 0 [I l]/\Q1 [a,c] e (some (Addr.mk b 0 none)) 0 [I l]/\AR [a,c] e R (.tuple #[Wv M K p v A E D F G q,I l,I L])
theorem AN(a b c d e f g h i j k l m):JA (Aa a b c d e f g h i j k l m) UO #[Wv a b c d e f g h i j,I k,I l,I m]:=eV [5,6,7,11] false [] Tryz.func38 Qk Qk
def HA(t:OA)(u l:Nat)(w:Wo)(R:RT):=NB w λa=>AX [] [a] w λe=>Cz Vx #[S t u l] e λz c=>∃b,z=.returned (.pointer b)/\Q8 [a] e c/\CW [a] JN #[.pointer b] c λm o f g s n k y h i r=>CI [a] Ve #[.pointer b] r λp j=>CI [a] Q2 #[.pointer b,I 22] j λd v=>Qz (d-11)/\CI [a] Yn #[.pointer b] v λx q=>AR [a] q R (.tuple #[Wv m o f g s n k y h i,I p,I (d-11),I x])
theorem HH(a b c):JA (HA a b c) Uz #[S a b c]:=eV [] false [] Tryz.func42 Qk Qk
def A9(q:Int)(z:OA)(k f:Nat)(i:OA)(r j:Nat)(o:OA)(l n:Nat)(u:Int)(w:Wo)(R:RT):=NB w λa=>∀b c,Q0 [] w c->w.heap.size<=b->c.heap[b]? = some (Obj.cells ([I u]:LV).toArray Qc (0,0))->b∉([a]:List Nat)->NB c λd=>CVx [a] [a,d] JU #[Wv q z k f i r j o l n,.func (.func JI) #[] #[.pointer ((some (Addr.mk b 0 none)).map (·.add 0))]] c λB y g m p t s v x h A e=>AR [a,d] e R (.tuple #[Wv B y g m p t s v x h,I A])
theorem AM(a b c d e f g h i j k):JA (A9 a b c d e f g h i j k) O4 #[Wv a b c d e f g h i j,I k]:=eV [3] false [] Tryz.func43 Qk Qk
def zes(g8:OA)(a4 g2:Nat)(w:Wo)(R:RT):=Bf (decide ((a4:Int)>1048576)) (AR [] w R (.bool true)) (AY [] w λc6=>Cz Uz #[S g8 a4 g2] c6 λe6 G=>∃b3 Q a9 M h i F a6 u z o n p,e6=.returned (.tuple #[Wv b3 Q a9 M h i F a6 u z,I o,I n,I p])/\Q8 [] c6 G/\NB G λc=>AX [] [c] G λc1=>Cz UO #[Wv b3 Q a9 M h i F a6 u z,I o,I n,I p] c1 λe2 a2=>∃d1 c8 d4 d2 m a3 d5 b7 c2 c0 b j,e2=.returned (.tuple #[Wv d1 c8 d4 d2 m a3 d5 b7 c2 c0,I b,I j])/\Q8 [c] c1 a2/\NB a2 λd=>AX [c] [c,d] a2 λb9=>Cz YM #[Wv b3 Q a9 M h i F a6 u z,I o,I n,I p] b9 λe1 l=>∃e4 e7 e5 f5 e3 f7 g6 g4 d8 f4 a1 b5,e1=.returned (.tuple #[Wv e4 e7 e5 f5 e3 f7 g6 g4 d8 f4,I a1,I b5])/\Q8 [c,d] b9 l/\NB l λe=>Bf ((j != b5)||(b != a1)) (AR [c,d] l R (.bool false)) (Bf (j != 0) (AR [c,d] l R (.bool (b==(-1)))) (∃(U:LQ) (c5:LM),(AX [c,d] [c,d,e] l λg5=>U [I 0] g5)/\∀(a:Int) f,(∀bq∈[c,d,e],bq<f.heap.size)->U [I a] f->Bf (decide (a<(i:Int))) (((decide (a<b))=true->Ix h i a)/\∃g,((decide (a<b))=true->Q1 [c,d,e] f h (a.toNat*9+0) [I g])/\((a != b)=true->((decide (a<b))&&(g==0))=false->Ix m a3 a)/\∃P Z b2 X B b4 a8 Y E,((a != b)=true->((decide (a<b))&&(g==0))=false->Q1 [c,d,e] f m (a.toNat*9) [I P,I Z,I b2,I X,I B,I b4,I a8,I Y,I E])/\((a != b)=true->((decide (a<b))&&(g==0))=false->Ix h i a)/\∃b1 A a0 D a7 y J t a5,((a != b)=true->((decide (a<b))&&(g==0))=false->Q1 [c,d,e] f h (a.toNat*9) [I b1,I A,I a0,I D,I a7,I y,I J,I t,I a5])/\∃V,((a != b)=true->((decide (a<b))&&(g==0))=false->∀c4,((do eqGuard .neq QK (.tmp 87) (.tmp 92) (.agg #[I P,I Z,I b2,I X,I B,I b4,I a8,I Y,I E]) (.agg #[I b1,I A,I a0,I D,I a7,I y,I J,I t,I a5]); binOp .neq QK (.agg #[I P,I Z,I b2,I X,I B,I b4,I a8,I Y,I E]) (.agg #[I b1,I A,I a0,I D,I a7,I y,I J,I t,I a5])):Sem Va).run Tryz.prog c4=.ok (.bool V) c4)/\Bf (((decide (a<b))&&(g==0))||((a != b)&&V)) (AR [c,d,e] f R (.bool false)) (Qz (a+1)/\AY [c,d,e] f λc7=>U [I (a+1)] c7/\c5 [I (a+1)] c7<c5 [I a] f)) (CV [c,d,e] O4 #[Wv d1 c8 d4 d2 m a3 d5 b7 c2 c0,I b] f λe8 g3 g9 f8 C d0 f3 f1 f6 g7 k q=>NB q λr=>((k != 0)=false->Ix C d0 b)/\∃v K s H b0 O N T b6,((k != 0)=false->Q1 [c,d,e] q C (Int.toNat b*9) [I v,I K,I s,I H,I b0,I O,I N,I T,I b6])/\∃x,((k != 0)=false->∀c9,((do eqGuard .neq QK (.tmp 109) (.tmp 110) (.agg #[I v,I K,I s,I H,I b0,I O,I N,I T,I b6]) (.agg #[I 0,I 0,I 0,I 0,I 0,I 0,I 0,I 0,I 0]); binOp .neq QK (.agg #[I v,I K,I s,I H,I b0,I O,I N,I T,I b6]) (.agg #[I 0,I 0,I 0,I 0,I 0,I 0,I 0,I 0,I 0])):Sem Va).run Tryz.prog c9=.ok (.bool x) c9)/\Bf ((k != 0)||x) (AR [c,d,e] q R (.bool false)) (AX [c,d,e] [c,d,e,r] q λb8=>Cz UO #[Wv e8 g3 g9 f8 C d0 f3 f1 f6 g7,I o,I n,I p] b8 λf2 L=>∃h1 g0 e0 d6 f9 d9 h0 d7 e9 g1 d3 c3,f2=.returned (.tuple #[Wv h1 g0 e0 d6 f9 d9 h0 d7 e9 g1,I d3,I c3])/\Q8 [c,d,e,r] b8 L/\NB L λf0=>AR [c,d,e,r] L R (.bool ((c3==0)&&(d3==b))))))))
theorem zfj(a b c):JA (zes a b c) Gf #[S a b c]:=eV [] false [(11,⟨[(13,Ri)],[],[3,4,5,6,7,8],[],[]⟩)] Tryz.func8 Qk Qk
def zim(f:OA)(d g:Nat)(w:Wo)(R:RT):=∃(b:LP) (e:LN),b [I 0]/\∀(a:Int),b [I a]->Bf (decide (a<(d:Int))) (Ix f d a/\∃c,Q1 [] w f (a.toNat*1) [I c]/\Bf (decide (c>50000000000000000)) (R (.bool false) w) (Qz (a+1)/\b [I (a+1)]/\e [I (a+1)]<e [I a])) (R (.bool true) w)
theorem zkf(a b c):X8 (zim a b c) ZW #[S a b c]:=pV [] false [(2,⟨[(7,Ri)],[],[5,6],[],[]⟩)] Tryz.func196 Qk Qk
def Ey(k:OA)(w:Wo)(R:RT):=k.isSome=true/\∃a7,Q1 [] w k (0+0) [I a7]/\NB w λQ=>∃b1,(∀B,Q0 [] w B->B.heap[Q]? = some (Obj.cells ([I a7]:LV).toArray Qc (0,0))->PX [] ZW #[S (some (Addr.mk Q 0 none)) 1 1] B (.bool b1))/\k.isSome=true/\∃J u c5,Q1 [] w k (0+1) [S J u c5]/\∃(s:LP) (p:LN),s [.bool b1,I 0]/\∀(i:Bool) (b:Int),s [.bool i,I b]->Bf (decide (b<(u:Int))) (Ix J u b/\∃d1 d4 e7 a3 a0,Q1 [] w J (b.toNat*5) [.bool d1,I d4,I e7,I a3,I a0]/\NB w λc9=>(i=true->NB w λK=>∃G,(i=true->∀V,Q0 [] w V->V.heap[K]? = some (Obj.cells ([I a3,I a0]:LV).toArray Qc (0,0))->PX [] ZW #[S (some (Addr.mk K 0 none)) 2 2] V (.bool G))/\Qz (b+1)/\s [.bool (i&&G),I (b+1)]/\p [.bool (i&&G),I (b+1)]<p [.bool i,I b])/\((i=true->False)->Qz (b+1)/\s [.bool false,I (b+1)]/\p [.bool false,I (b+1)]<p [.bool i,I b])) (k.isSome=true/\∃P v d0,Q1 [] w k (0+2) [S P v d0]/\∃(n:LP) (A:LN),n [.bool i,I 0]/\∀(h:Bool) (d:Int),n [.bool h,I d]->Bf (decide (d<(v:Int))) (Ix P v d/\∃e5 b5 d5 b7 e0 Z a9 a4 b8,Q1 [] w P (d.toNat*9) [I e5,I b5,I d5,I b7,I e0,I Z,I a9,I a4,I b8]/\NB w λe2=>(h=true->NB w λH=>∃F,(h=true->∀C,Q0 [] w C->C.heap[H]? = some (Obj.cells ([I Z,I a9,I a4]:LV).toArray Qc (0,0))->PX [] ZW #[S (some (Addr.mk H 0 none)) 3 3] C (.bool F))/\Qz (d+1)/\n [.bool (h&&F),I (d+1)]/\A [.bool (h&&F),I (d+1)]<A [.bool h,I d])/\((h=true->False)->Qz (d+1)/\n [.bool false,I (d+1)]/\A [.bool false,I (d+1)]<A [.bool h,I d])) (k.isSome=true/\∃M q c6,Q1 [] w k (0+3) [S M q c6]/\∃(y:LP) (r:LN),y [.bool h,I 0]/\∀(j:Bool) (c:Int),y [.bool j,I c]->Bf (decide (c<(q:Int))) (Ix M q c/\∃(b4:Bool) (c3:Int) (b3:ByteArray) (b9 e4 c7 c4 Y d7 f0 d9:Int) (e9:OA) (d8 c8:Nat) (e6:OA) (c1 d6:Nat) (m:OA) (l c2:Nat),Q1 [] w M (c.toNat*14) [.bool b4,I c3,.string b3,I b9,I e4,I c7,I c4,I Y,I d7,I f0,I d9,S e9 d8 c8,S e6 c1 d6,S m l c2]/\NB w λd3=>(j=true->NB w λX=>∃a8,(j=true->∀U,Q0 [] w U->U.heap[X]? = some (Obj.cells ([I Y]:LV).toArray Qc (0,0))->PX [] ZW #[S (some (Addr.mk X 0 none)) 1 1] U (.bool a8))/\∃(z:LP) (x:LN),z [.bool (j&&a8),I 0]/\∀(g:Bool) (a:Int),z [.bool g,I a]->Bf (decide (a<(l:Int))) (Ix m l a/\∃b2 d2 a1 e1 a2,Q1 [] w m (a.toNat*5) [I b2,.bool d2,I a1,I e1,I a2]/\NB w λe8=>(g=true->NB w λO=>∃T,(g=true->∀E,Q0 [] w E->E.heap[O]? = some (Obj.cells ([I b2,I a1,I a2]:LV).toArray Qc (0,0))->PX [] ZW #[S (some (Addr.mk O 0 none)) 3 3] E (.bool T))/\Qz (a+1)/\z [.bool (g&&T),I (a+1)]/\x [.bool (g&&T),I (a+1)]<x [.bool g,I a])/\((g=true->False)->Qz (a+1)/\z [.bool false,I (a+1)]/\x [.bool false,I (a+1)]<x [.bool g,I a])) (Qz (c+1)/\y [.bool g,I (c+1)]/\r [.bool g,I (c+1)]<r [.bool j,I c]))/\((j=true->False)->∃(o:LP) (t:LN),o [.bool false,I 0]/\∀(f:Bool) (e:Int),o [.bool f,I e]->Bf (decide (e<(l:Int))) (Ix m l e/\∃a6 e3 b0 c0 a5,Q1 [] w m (e.toNat*5) [I a6,.bool e3,I b0,I c0,I a5]/\NB w λb6=>(f=true->NB w λD=>∃L,(f=true->∀N,Q0 [] w N->N.heap[D]? = some (Obj.cells ([I a6,I b0,I a5]:LV).toArray Qc (0,0))->PX [] ZW #[S (some (Addr.mk D 0 none)) 3 3] N (.bool L))/\Qz (e+1)/\o [.bool (f&&L),I (e+1)]/\t [.bool (f&&L),I (e+1)]<t [.bool f,I e])/\((f=true->False)->Qz (e+1)/\o [.bool false,I (e+1)]/\t [.bool false,I (e+1)]<t [.bool f,I e])) (Qz (c+1)/\y [.bool f,I (c+1)]/\r [.bool f,I (c+1)]<r [.bool j,I c]))) (R (.bool j) w)))
theorem FI(a):X8 (Ey a) JK #[.pointer a]:=pV [] false [(3,⟨[(3,.bool),(23,Ri)],[],[0,21,22],[],[]⟩),(8,⟨[(3,.bool),(42,Ri)],[],[0,40,41],[],[]⟩),(13,⟨[(3,.bool),(63,Ri)],[],[61,62],[],[]⟩),(17,⟨[(3,.bool),(77,Ri)],[],[61,62,63,75,76],[],[]⟩)] Tryz.func96 Qk Qk
def Do(k:OA)(l:Int)(w:Wo)(R:RT):=k.isSome=true/\∃i f s,Q1 [] w k (0+2) [S i f s]/\∃(d:LP) (e:LN),d [I 0,I 0,I 0]/\∀(c b a:Int),d [I c,I b,I a]->Bf (decide (a<(f:Int))) (Ix i f a/\∃j p h m q t n o g,Q1 [] w i (a.toNat*9) [I j,I p,I h,I m,I q,I t,I n,I o,I g]/\NB w λr=>Bf ((j==1)&&(h==l)) (Qz (c+g)/\Qz (b+1)/\Qz (a+1)/\d [I (c+g),I (b+1),I (a+1)]/\e [I (c+g),I (b+1),I (a+1)]<e [I c,I b,I a]) (Qz (a+1)/\d [I c,I b,I (a+1)]/\e [I c,I b,I (a+1)]<e [I c,I b,I a])) (R (.tuple #[I c,I b]) w)
theorem E3(a b):X8 (Do a b) Jg #[.pointer a,I b]:=pV [] false [(3,⟨[(6,Ri),(7,Ri),(15,Ri)],[],[1,13,14],[],[]⟩)] Tryz.func105 Qk Qk
def LX(k:OA)(n:Int)(w:Wo)(R:RT):=∀a b,Q0 [] w b->w.heap.size<=a->b.heap[a]? = some (Obj.cells ([.pointer k]:LV).toArray CS (0,0))->a∉([]:List Nat)->AY [] b λf=>Cz Xo #[I n] f λo h=>∃(j:Fn) (i:Array Va) (c:Array Va),o=.returned (.func j i c)/\Q8 [] f h/\AY [] h λd=>Cz Km #[.func j i c,.func (.func Yq) #[] #[.pointer ((some (Addr.mk a 0 none)).map (·.add 0))]] d λl e=>∃(g:Int) (m:Bool),l=.returned (.tuple #[I g,.bool m])/\Q8 [] d e/\AR [] e R (I g)
theorem Gb(a b):JA (LX a b) U8 #[.pointer a,I b]:=eV [2] false [] Tryz.func106 Qk Qk
def Dq(c:OA)(a:Int)(w:Wo)(R:RT):=c.isSome=true/\∃g l m,Q1 [] w c (0+2) [S g l m]/\Ix g l a/\∃k,Q1 [] w g (a.toNat*9+2) [I k]/\∃e h,PX [] Zk #[.pointer c,I k] w (.agg #[.pointer e,I h])/\NB w λb=>∃d,PX [] YL #[.agg #[.pointer e,I h]] w (.pointer d)/\d.isSome=true/\∃f,Q1 [] w d (0+1) [I f]/\Bf (f==a) (AX [] [b] w λi=>Cz YG #[.agg #[.pointer e,I h]] i λn j=>n=.returned (.tuple #[])/\Q8 [b] i j/\AR [b] j R (.tuple #[])) (AR [] w R (.tuple #[]))
theorem DH(a b):JA (Dq a b) Vc #[.pointer a,I b]:=eV [] false [] Tryz.func116 Qk Qk
def Hv(b c g h e j i f d:Int)(w:Wo)(R:RT):=NB w λa=>R (.bool (b==0)) w
theorem HQ(a b c d e f g h i):X8 (Hv a b c d e f g h i) X0 #[.agg #[I a,I b,I c,I d,I e,I f,I g,I h,I i]]:=pV [] false [] Tryz.func132 Qk Qk
def Ev(a y j h q:OA)(w:Wo)(R:RT):=∃J,Q1 [] w y 0 [I J]/\∃f,PX [] Uy #[I J] w (.bool f)/\∃x,((!f)=false->Q1 [] w j 0 [I x])/\∃i,((!f)=false->PX [] Xt #[I x] w (.bool i))/\Bf ((!f)||(!i)) (AR [] w R (.iface Z3 (.agg #[I 1]))) (a.isSome=true/\∃O B z,Q1 [] w a (0+3) [S O B z]/\∃E,Q1 [] w h 0 [I E]/\∃o,PX [] XV #[S O B z,I E] w (.bool o)/\Bf (!o) (AR [] w R (.iface Z3 (.agg #[I 2]))) (a.isSome=true/\∃H C K,Q1 [] w a (0+2) [S H C K]/\CI [] ZJ #[S H C K,.func (.func X0) #[] #[]] w λe c=>Bf (decide (e<0)) (AR [] c R (.iface Z3 (.agg #[I 3]))) (∃n,PX [] JK #[.pointer a] c (.bool n)/\Bf (!n) (AR [] c R (.iface Z3 (.agg #[I 10]))) (∃s,Q1 [] c j 0 [I s]/\∃A,Q1 [] c h 0 [I A]/\∃P,PX [] Xa #[.pointer a,I s,I A] c (I P)/\CI [] U8 #[.pointer a,I P] c λN b=>∃l p,PX [] Zk #[.pointer a,I N] b (.agg #[.pointer l,I p])/\NB b λd=>a.isSome=true/\∃g t U,Q1 [] b a (0+2) [S g t U]/\∃M,Q1 [] b h 0 [I M]/\∃u,Q1 [] b y 0 [I u]/\∃v,Q1 [] b j 0 [I v]/\∃F,Q1 [] b h 0 [I F]/\∃k,PX [] QC #[.agg #[.pointer l,I p],I F] b (.pointer k)/\k.isSome=true/\∃r,Q1 [] b k (0+0) [I r]/\Ix g t e/\Yo [] b g (Int.toNat e*9) 9/\AX [] [d] (R9 b g (Int.toNat e*9) [I 1,I M,I N,I u,I v,I r,I 0,I 0,I 0]) λD=>Cz YG #[.agg #[.pointer l,I p]] D λT L=>T=.returned (.tuple #[])/\Q8 [d] D L/\AY [d] L λG=>Cz XU #[.pointer a] G λQ m=>Q=.returned (.tuple #[])/\Q8 [d] G m/\Yo [d] m q 0 1/\AR [d] (R9 m q 0 [I e]) R .nilIface))))
theorem EZ(a b c d e):JA (Ev a b c d e) JJ #[.pointer a,.pointer b,.pointer c,.pointer d,.pointer e]:=eV [] false [] Tryz.func130 Qk Qk
def Eu(a e:OA)(w:Wo)(R:RT):=∃m,Q1 [] w e 0 [I m]/\∃g,PX [] Xc #[.pointer a,I m] w (.bool g)/\Bf (!g) (AR [] w R (.iface Z3 (.agg #[I 2]))) (∃f,PX [] JK #[.pointer a] w (.bool f)/\Bf (!f) (AR [] w R (.iface Z3 (.agg #[I 10]))) (∃j,Q1 [] w e 0 [I j]/\AY [] w λl=>Cz Vc #[.pointer a,I j] l λp b=>p=.returned (.tuple #[])/\Q8 [] l b/\a.isSome=true/\∃d i o,Q1 [] b a (0+2) [S d i o]/\∃c,Q1 [] b e 0 [I c]/\Ix d i c/\Yo [] b d (Int.toNat c*9) 9/\AY [] (R9 b d (Int.toNat c*9) [I 0,I 0,I 0,I 0,I 0,I 0,I 0,I 0,I 0]) λk=>Cz XU #[.pointer a] k λn h=>n=.returned (.tuple #[])/\Q8 [] k h/\AR [] h R .nilIface))
theorem EY(a b):JA (Eu a b) JI #[.pointer a,.pointer b]:=eV [] false [] Tryz.func137 Qk Qk
def KR(h i:Int)(d:OA)(w:Wo)(R:RT):=∃g,Q1 [] w d 0 [.pointer g]/\∃b c,PX [] Jg #[.pointer g,I h] w (.tuple #[I b,I c])/\∃e,Q1 [] w d 0 [.pointer e]/\∃a f,PX [] Jg #[.pointer e,I i] w (.tuple #[I a,I f])/\R (.bool ((decide (b<a))||((b==a)&&(decide (c<f))))) w
theorem L9(a b c):X8 (KR a b c) Yq #[I a,I b,.pointer c]:=pV [] false [] Tryz.func199 Qk Qk
def Kg(p:Fn)(q:Array Va)(m:Array Va)(n:OA)(w:Wo)(R:RT):=∃(d:LQ) (e:LM),(AY [] w λl=>d [I 0] l)/\∀(a:Int) b,(∀bq∈([]:List Nat),bq<b.heap.size)->d [I a] b->Bf (decide (a<4)) (∃j,Q1 [] b n 0 [I j]/\∃c,PX [] JL #[I j,I a] b (.bool c)/\(c=true->AY [] b λh=>MA Tryz.prog (.func p q m) [I a] h λo f=>∃g,o=.returned (.bool g)/\Q8 [] h f/\Bf (c&&(!g)) (AR [] f R (.tuple #[])) (Qz (a+1)/\AY [] f λk=>d [I (a+1)] k/\e [I (a+1)] k<e [I a] b))/\((c=true->False)->Bf false (AR [] b R (.tuple #[])) (Qz (a+1)/\AY [] b λi=>d [I (a+1)] i/\e [I (a+1)] i<e [I a] b))) (AR [] b R (.tuple #[]))
theorem Kl(a b c d):JA (Kg a b c d) Z0 #[.func a b c,.pointer d]:=eV [] false [(1,⟨[(4,Ri)],[],[0,1],[],[]⟩)] Tryz.func233 Qk Qk
noncomputable def PC(l:Option Nat):UJ:={ P:=Tryz.prog,T:=Vk zrb,pf:=zsz,ef:=zrx,tt:=zw6,vis:=[3,6,7],n:=22,pm:=false,wr:=false,rd:=l }
noncomputable def HX:List (Nat×Ya):=[]
noncomputable def Xm:List Code:=[cL ((Jm Tryz.f198)),cL (cR ((Jm Tryz.f198))),cL (cR (cR ((Jm Tryz.f198))))]
def Py(i:Fn)(j:Array Va)(h:Array Va)(w:Wo)(R:Exit->List Va->Wo->Prop):Prop:= (∀c f,Q0 [] w f->w.heap.size<=c->f.heap[c]? = some (Obj.cells ([.func i j h]:List Va).toArray 59 (0,0))->c∉([]:List Nat)->(∀e b,Q0 [] f b->f.heap.size<=e->b.heap[e]? = some (Obj.cells ([I 0]:List Va).toArray Qc (0,0))->e∉([]:List Nat)->(∀a d,Q0 [] b d->b.heap.size<=a->d.heap[a]? = some (Obj.cells ([.bool false]:List Va).toArray Ye (0,0))->a∉([]:List Nat)->Yo [] d (some (Addr.mk a 0 none)) 0 1/\(∀g,Q0 [] (R9 d (some (Addr.mk a 0 none)) 0 [.bool false]) g->R .normal [.pointer ((some (Addr.mk c 0 none)).map (·.add 0)),.pointer ((some (Addr.mk e 0 none)).map (·.add 0)),.pointer ((some (Addr.mk a 0 none)).map (·.add 0))] g))))
theorem D0(l:Option Nat)(sJ:Fn)(sI:Array Va)(sK:Array Va)(w:Wo)(R:Exit->List Va->Wo->Prop):z2l (PC l) HX Xm (U9 [(1,.func sJ sI sK)]) w (MI [3,6,7] R)=Py sJ sI sK w R:=Qk
theorem HM(l:Option Nat)(sJ:Fn)(sI:Array Va)(sK:Array Va){w:Wo}{R:Exit->List Va->Wo->Prop}{X:Code}{Q:Exit->Act->Wo->Prop}{a:Act}(hn:a.tmps.size=22)(vZ:Lm [(1,.func sJ sI sK)] a)(hvc:Py sJ sI sK w R)(hX:∀vs a1 w1,R .normal vs w1->znp (Pb Xm) [3,6,7] a a1 vs->X.wpIn (T7 l) 0 Tryz.prog Q a1 w1)(hQ:∀e vs a1 w1,e≠.normal->R e vs w1->znp (Pb Xm) [3,6,7] a a1 vs->Q e a1 w1):(zpa Xm X).wpIn (T7 l) 0 Tryz.prog Q a w:=
 zz2 (C:=PC l) (zup _ _ _ _ _) hn vZ (by rw[D0]; exact hvc) hX hQ
noncomputable def PB(l:Option Nat):UJ:={ P:=Tryz.prog,T:=Vk zrb,pf:=zsz,ef:=zrx,tt:=zw6,vis:=[],n:=22,pm:=false,wr:=false,rd:=l }
noncomputable def HW:List (Nat×Ya):=[]
noncomputable def Jk:Code:=(cL (cL (cR (cR (cR ((Jm Tryz.f198)))))))
def Px(d:Fn)(b:Array Va)(c:Array Va)(w:Wo)(R:Exit->List Va->Wo->Prop):Prop:= (∀a,Q0 [] w a->R .normal [.func d b c] a)
theorem HZ(l:Option Nat)(xF:Fn)(xE:Array Va)(xG:Array Va)(w:Wo)(R:Exit->List Va->Wo->Prop):Bd (PB l) HW Jk (U9 [(0,.func xF xE xG)]) w (MI [9] R)=Px xF xE xG w R:=Qk
theorem HL(l:Option Nat)(xF:Fn)(xE:Array Va)(xG:Array Va){w:Wo}{R:Exit->List Va->Wo->Prop}{Q:Exit->Act->Wo->Prop}{a:Act}(hn:a.tmps.size=22)(vZ:Lm [(0,.func xF xE xG)] a)(hvc:Px xF xE xG w R)(hQ:∀e vs a1 w1,R e vs w1->znp (X9 Jk) [9] a a1 vs->Q e a1 w1):Jk.wpIn (T7 l) 0 Tryz.prog Q a w:=
 zb1 (C:=PB l) (zup _ _ _ _ _) hn vZ (by rw[HZ]; exact hvc) hQ
noncomputable def PA(l:Option Nat):UJ:={ P:=Tryz.prog,T:=Vk zrb,pf:=zsz,ef:=zrx,tt:=zw6,vis:=[],n:=22,pm:=false,wr:=false,rd:=l }
noncomputable def HV:List (Nat×Ya):=[]
noncomputable def Jj:Code:=(z3y (cB (cR (cL (cR (cR (cR ((Jm Tryz.f198)))))))))
def Pw(b:Int)(w:Wo)(R:Exit->List Va->Wo->Prop):Prop:= (∀a,Q0 [] w a->R .normal [I b] a)
theorem HY(l:Option Nat)(x:Int)(w:Wo)(R:Exit->List Va->Wo->Prop):Bd (PA l) HV Jj (U9 [(10,.int .i64 x)]) w (MI [8] R)=Pw x w R:=Qk
theorem HK(l:Option Nat)(x:Int){w:Wo}{R:Exit->List Va->Wo->Prop}{Q:Exit->Act->Wo->Prop}{a:Act}(hn:a.tmps.size=22)(vZ:Lm [(10,.int .i64 x)] a)(hvc:Pw x w R)(hQ:∀e vs a1 w1,R e vs w1->znp (X9 Jj) [8] a a1 vs->Q e a1 w1):Jj.wpIn (T7 l) 0 Tryz.prog Q a w:=
 zb1 (C:=PA l) (zup _ _ _ _ _) hn vZ (by rw[HY]; exact hvc) hQ
noncomputable def OX(l:Option Nat):UJ:={ P:=Tryz.prog,T:=Vk zrb,pf:=zsz,ef:=zrx,tt:=zw6,vis:=[],n:=22,pm:=false,wr:=false,rd:=l }
noncomputable def GP:List (Nat×Ya):=[]
noncomputable def J3:Code:=(z3o (cB (cR (cL (cR (cR (cR ((Jm Tryz.f198)))))))))
def OO(p b d:OA)(e:Int)(w:Wo)(R:Exit->List Va->Wo->Prop):Prop:= (∃(a:Bool),Q1 [] w d 0 [.bool a]/\(∃(k:Fn) (l:Array Va) (h:Array Va),((!a)=false->Q1 [] w p 0 [.func k l h])/\(∃(m:Int),((!a)=false->Q1 [] w b 0 [I m])/\((!a)=false->(AY [] w λi=>MA Tryz.prog (.func k l h) [I e,I m] i λq c=>(∃(f:Bool),q=.returned (.bool f)/\Q8 [] i c/\(((!a)||f)=true->Yo [] c b 0 1/\Yo [] (R9 c b 0 [I e]) d 0 1/\(∀g,Q0 [] (R9 (R9 c b 0 [I e]) d 0 [.bool true]) g->R .normal [] g))/\(((!a)||f)=false->(∀o,Q0 [] c o->R .normal [] o)))))/\(((!a)=false->False)->(true=true->Yo [] w b 0 1/\Yo [] (R9 w b 0 [I e]) d 0 1/\(∀n,Q0 [] (R9 (R9 w b 0 [I e]) d 0 [.bool true]) n->R .normal [] n))/\(true=false->(∀j,Q0 [] w j->R .normal [] j))))))
theorem GX(l:Option Nat)(before:OA)(bR:OA)(cA:OA)(x:Int)(w:Wo)(R:Exit->List Va->Wo->Prop):Bd (OX l) GP J3 (U9 [(3,.pointer before),(6,.pointer bR),(7,.pointer cA),(8,.int .i64 x)]) w (MI [] R)=OO before bR cA x w R:=Qk
theorem Gi(l:Option Nat)(before:OA)(bR:OA)(cA:OA)(x:Int){w:Wo}{R:Exit->List Va->Wo->Prop}{Q:Exit->Act->Wo->Prop}{a:Act}(hn:a.tmps.size=22)(vZ:Lm [(3,.pointer before),(6,.pointer bR),(7,.pointer cA),(8,.int .i64 x)] a)(hvc:OO before bR cA x w R)(hQ:∀e vs a1 w1,R e vs w1->znp (X9 J3) [] a a1 vs->Q e a1 w1):J3.wpIn (T7 l) 0 Tryz.prog Q a w:=
 zb1 (C:=OX l) (zup _ _ _ _ _) hn vZ (by rw[GX]; exact hvc) hQ
noncomputable def OY(l:Option Nat):UJ:={ P:=Tryz.prog,T:=Vk zrb,pf:=zsz,ef:=zrx,tt:=zw6,vis:=[],n:=22,pm:=false,wr:=false,rd:=l }
noncomputable def GQ:List (Nat×Ya):=[]
noncomputable def J4:Code:=(cR (cR (cR (cR ((Jm Tryz.f198))))))
def OP(e d:OA)(w:Wo)(R:Exit->List Va->Wo->Prop):Prop:= (∃(c:Int),Q1 [] w e 0 [I c]/\(∃(b:Bool),Q1 [] w d 0 [.bool b]/\(∀a,Q0 [] w a->R .ret [I c,.bool b] a)))
theorem GY(l:Option Nat)(bR:OA)(cA:OA)(w:Wo)(R:Exit->List Va->Wo->Prop):Bd (OY l) GQ J4 (U9 [(6,.pointer bR),(7,.pointer cA)]) w (MI [4,5] R)=OP bR cA w R:=Qk
theorem Gj(l:Option Nat)(bR:OA)(cA:OA){w:Wo}{R:Exit->List Va->Wo->Prop}{Q:Exit->Act->Wo->Prop}{a:Act}(hn:a.tmps.size=22)(vZ:Lm [(6,.pointer bR),(7,.pointer cA)] a)(hvc:OP bR cA w R)(hQ:∀e vs a1 w1,R e vs w1->znp (X9 J4) [4,5] a a1 vs->Q e a1 w1):J4.wpIn (T7 l) 0 Tryz.prog Q a w:=
 zb1 (C:=OY l) (zup _ _ _ _ _) hn vZ (by rw[GY]; exact hvc) hQ
theorem T1:zpr Tryz.prog M1 5 YX 40 (⟨0,false,0,0,0⟩:KN):=DN Qk λ_=>rfl
theorem Pt:Tryz.prog.underlying Za=some (.slice YX):=Qk
def Z2(b:JB)(m:MG):List Va:=[I b.IZ,I b.RJ,I b.SB,.slice m.lO b.locals.length m.lC,.slice m.dO b.Rz.length m.dC]
theorem UY{a b:ByteArray}:ZI a b=true↔a=b:=by
 unfold ZI;rw[It];constructor
 ·intro h
  have h1:∀x:ByteArray,x.toList=x.data.toList:=λx=>by
   have key:∀(n i:Nat) (r:List UInt8),n=x.size-i->ByteArray.toList.loop x i r=r.reverse++x.data.toList.drop i:=by
    intro n
    induction n with
    | zero=>
     intro i r hn;unfold ByteArray.toList.loop;rw[C' Qo,List.drop_eq_nil_iff.2 (by simp only[Array.length_toList]; show x.size<=i; omega),List.append_nil]
    | succ n ih=>
     intro i r hn;unfold ByteArray.toList.loop;have hi:i<x.data.toList.length:=by simp only[Array.length_toList]; show i<x.size; omega
     rw[E' Qo,ih (i+1) _ Qo,List.reverse_cons,List.append_assoc,List.singleton_append,List.drop_eq_getElem_cons hi]
     have:x.get! i=x.data.toList[i]:=by
      have hi':i<x.data.size:=by simpa using hi
      simp[ByteArray.get!,getElem!_pos x.data i hi']
     rw[this]
   have:=key _ 0 [] rfl
   simpa[ByteArray.toList] using this
  rw[h1,h1] at h
  cases a; cases b
  simp only at h
  congr 1
  exact Array.ext' h
 ·rintro rfl; rfl
theorem B0(a b:ByteArray):ZI a b=decide (a=b):=by
 cases h:ZI a b with
 | true=>rw[Ii (UY.1 h)]
 | false=>rw[decide_eq_false λe=>by rw[UY.2 e] at h; cases h]
def TP(p:ZV×MG):List Va:=Yv p.1 p.2
def P8:ZV×MG:=(⟨false,0,ByteArray.empty,0,0,0,0,0,⟨0,0,0,[],[]⟩,[]⟩,⟨none,0,none,0,none,0⟩)
theorem Yf:zpr Tryz.prog TP 14 QP 168 P8:=DN Qk λ_=>rfl
theorem Ps:Tryz.prog.underlying QA=some (.slice QP):=Qk
def Qn(m:MG):List Nat:=QE m.lO++QE m.dO++QE m.sO
structure PI (base:Nat) (w:Wo) (p:ZV×MG):Prop where
 loc:Uo Jn 1 Qc base w p.2.lO p.2.lC p.1.IQ.locals
 Rz:Uo M0 1 Ye base w p.2.dO p.2.dC p.1.IQ.Rz
 shl:Uo M1 5 YX base w p.2.sO p.2.sC p.1.IG
theorem PI.ext{base:Nat}{w w':Wo}{p:ZV×MG}{bs:List Nat}(h:PI base w p)(hx:Q0 bs w w')(hd:∀b∈Qn p.2,b∉bs):PI base w' p:=
 ⟨h.loc.ext hx λb hb=>hd b (by simp[Qn,hb]),h.Rz.ext hx λb hb=>hd b (by simp[Qn,hb]),h.shl.ext hx λb hb=>hd b (by simp[Qn,hb])⟩
theorem PI.WQ{base:Nat}{w w':Wo}{p:ZV×MG}(h:PI base w p)(hx:Q0 [] w w'):PI base w' p:=h.ext hx Qs
theorem PI.mono{base aU:Nat}{w:Wo}{p:ZV×MG}(h:PI base w p)(hb:aU<=base):PI aU w p:=⟨h.loc.mono hb,h.Rz.mono hb,h.shl.mono hb⟩
theorem PI.lt{base:Nat}{w:Wo}{p:ZV×MG}(h:PI base w p):∀b∈Qn p.2,base<=b/\b<w.heap.size:=by
 intro b hb;simp only[Qn,Io] at hb;rcases hb with (hb | hb) | hb
 ·exact h.loc.lt b hb
 ·exact h.Rz.lt b hb
 ·exact h.shl.lt b hb
structure KP (base:Nat) (w:Wo) (o:OA) (cap:Nat) (ps:List (ZV×MG)):Prop where
 row:Uo TP 14 QP base w o cap ps
 each:∀i:Int,0<=i->i<(ps.length:Int)->PI base w (gi ps i)
 dj:∀i j:Int,0<=i->i<(ps.length:Int)->0<=j->j<(ps.length:Int)->i≠j->∀b∈Qn (gi ps i).2,b∉Qn (gi ps j).2
theorem KP.mono{base aU:Nat}{w:Wo}{o:OA}{cap:Nat}{ps:List (ZV×MG)}(h:KP base w o cap ps)(hb:aU<=base):KP aU w o cap ps:=
 ⟨h.row.mono hb,λi a b=>(h.each i a b).mono hb,h.dj⟩
theorem XZ{base:Nat}{w:Wo}{o:OA}{cap:Nat}{ps:List (ZV×MG)}(h:Uo TP 14 QP base w o cap ps){aU:Nat}{p:ZV×MG}(hp:PI aU w p):∀b∈Qn p.2,b∉QE o:=by
 intro b hb hx;simp only[Qn,Io] at hb;rcases hb with (hb | hb) | hb
 ·exact hp.loc.Wf h Qd b hb hx
 ·exact hp.Rz.Wf h Qd b hb hx
 ·exact hp.shl.Wf h Qd b hb hx
theorem KP.put{base:Nat}{w:Wo}{o:OA}{cap:Nat}{ps:List (ZV×MG)}(h:KP base w o cap ps){i:Int}(h0:0<=i)(hi:i<(ps.length:Int)){p:ZV×MG}(hp:PI base w p)(hd:∀j:Int,0<=j->j<(ps.length:Int)->i≠j->∀b∈Qn (gi ps j).2,b∉Qn p.2):KP base (R9 w o (Int.toNat i*14) (TP p)) o cap (ps.set i.toNat p):=by
 have hx:=h.row.rD (Int.toNat i*14) (TP p);have hlen:(ps.set i.toNat p).length=ps.length:=H';refine⟨?_,λj hj hjl=>?_,λj k hj hjl hk uG iP b hb jF=>?_⟩
 ·have:=h.row.R9 Yf.len h0 hi (j:=0) (vs:=TP p) (x:=p) (by rw[List.take_zero,List.nil_append,List.drop_eq_nil_iff.2 (by rw[Nat.zero_add,Yf.len,Yf.len]; exact I8 _),List.append_nil]) (by rw[Nat.zero_add,Yf.len]; exact I8 _);exact this
 ·rw[hlen] at hjl;rw[QG _ _ h0 hi hj];split
  ·exact hp.ext hx (XZ h.row hp)
  ·exact(h.each j hj hjl).ext hx (XZ h.row (h.each j hj hjl))
 ·rw[hlen] at hjl uG;rw[QG _ _ h0 hi hj] at hb;rw[QG _ _ h0 hi hk] at jF
  by_cases e1:i=j
  ·rw[E' e1] at hb
   by_cases e2:i=k
   ·omega
   ·rw[C' e2] at jF;exact hd k hk uG e2 b jF hb
  ·rw[C' e1] at hb
   by_cases e2:i=k
   ·rw[E' e2] at jF;exact hd j hj hjl e1 b hb jF
   ·rw[C' e2] at jF;exact h.dj j k hj hjl hk uG iP b hb jF
theorem Uj{z:Int}(h1 : -9223372036854775808<=z)(h2:z<=9223372036854775807):Qm .i64 z:=⟨h1,h2⟩
def zic(w:Int):Int:=Int.tdiv 232792560 w
def YQ(n a b:Int):Bool:=decide (n>=a)&&decide (n<=b)
theorem Qu{n a b:Int}:YQ n a b=true↔a<=n/\n<=b:=by simp[YQ]
theorem zz3{n a b:Int}:YQ n a b=false↔¬(a<=n/\n<=b):=by rw[<-Qu]; simp
def Zf(n w:Int):Int:=if YQ n 0 100000000&&YQ w 1 20 then n*zic w else 0
def ZB(w:Int):Int:=Zf 149 w
theorem zzm:∀k:Fin 20,zic ((k.val:Int)+1)*((k.val:Int)+1)=232792560:=Qd
theorem zzn{w:Int}(h1:1<=w)(h2:w<=20):zic w*w=232792560:=by
 have:=zzm ⟨(w-1).toNat,Qo⟩;have e:(((w-1).toNat:Nat):Int)+1=w:=Qo;simp only[e] at this;exact this
theorem zd5{w:Int}(h1:1<=w)(h2:w<=20):11639628<=zic w/\zic w<=232792560:=by
 have h:=zzn h1 h2
 have hp:0<=zic w:=by
  rcases Int.lt_or_le (zic w) 0 with hn | hn
  ·have:=Int.mul_neg_of_neg_of_pos hn (show 0<w by omega);omega
  ·exact hn
 constructor
 ·have:=Int.mul_le_mul_of_nonneg_left h2 hp;omega
 ·have:=Int.mul_le_mul_of_nonneg_left h1 hp;omega
theorem P7{n w:Int}(h1:0<=n)(h2:n<=100000000)(h3:1<=w)(h4:w<=20):Zf n w=n*zic w:=by
 unfold Zf;rw[E'];rw[A',Qu,Qu]; exact⟨⟨h1,h2⟩,h3,h4⟩
theorem Hq{n w:Int}(h:¬(0<=n/\n<=100000000/\1<=w/\w<=20)):Zf n w=0:=by
 unfold Zf;rw[C'];rw[A',Qu,Qu]; omega
theorem zkb{n w:Int}(h1:0<=n)(h2:n<=100000000)(h3:1<=w)(h4:w<=20):0<=n*zic w/\n*zic w<=23279256000000000:=by
 have hs:=zd5 h3 h4;refine⟨Int.mul_nonneg h1 Qo,?_⟩
 calc n*zic w<=100000000*zic w:=Int.mul_le_mul_of_nonneg_right h2 Qo
  _<=100000000*232792560:=Int.mul_le_mul_of_nonneg_left hs.2 Qd
  _=23279256000000000:=rfl
theorem H0(n w:Int):0<=Zf n w/\Zf n w<=23279256000000000:=by
 by_cases h:0<=n/\n<=100000000/\1<=w/\w<=20
 ·rw[P7 h.1 h.2.1 h.2.2.1 h.2.2.2]; exact zkb h.1 h.2.1 h.2.2.1 h.2.2.2
 ·rw[Hq h]; omega
theorem QW{n a b:Int}{w:Wo}{bs:List Nat}:PX bs QD #[I n,I a,I b] w (.bool (YQ n a b)):=
 zda n a b λwr hx=>by unfold G1; rfl
theorem Qr{n a b:Int}{w:Wo}{bs:List Nat}:PX bs Qi #[I n,I a,I b] w (.bool (YQ n a b)):=
 zmn n a b λwr hx=>by unfold NP; rfl
theorem Pn{n:Int}{w:Wo}{bs:List Nat}:PX bs Jo #[I n] w (.bool (YQ n 1 20)):=
 CA n λwr hx=>⟨_,QW,rfl⟩
theorem JY{n:Int}{w:Wo}{bs:List Nat}:PX bs YN #[I n] w (.bool (YQ n 1 20)):=
 CH n λwr hx=>⟨_,Qr,rfl⟩
theorem K6{n:Int}{w:Wo}{bs:List Nat}:PX bs Uy #[I n] w (.bool (YQ n (-10) 9)):=
 zge n λwr hx=>⟨_,QW,rfl⟩
def Tb(k j:Nat):Int:=if j<=k then zic (j:Int) else 0
def z3q(k:Nat):List Va:=[I ((k:Int)+1),I 0,I (Tb k 1),I (Tb k 2),I (Tb k 3),I (Tb k 4),I (Tb k 5),I (Tb k 6),I (Tb k 7),
 I (Tb k 8),I (Tb k 9),I (Tb k 10),I (Tb k 11),I (Tb k 12),I (Tb k 13),I (Tb k 14),I (Tb k 15),I (Tb k 16),I (Tb k 17),I (Tb k 18),I (Tb k 19),I (Tb k 20)]
theorem DU{w:Wo}{bs:List Nat}:PX bs Vd #[] w (.agg #[I 0,I (Tb 20 1),I (Tb 20 2),I (Tb 20 3),I (Tb 20 4),I (Tb 20 5),I (Tb 20 6),I (Tb 20 7),
 I (Tb 20 8),I (Tb 20 9),I (Tb 20 10),I (Tb 20 11),I (Tb 20 12),I (Tb 20 13),I (Tb 20 14),I (Tb 20 15),I (Tb 20 16),I (Tb 20 17),I (Tb 20 18),I (Tb 20 19),I (Tb 20 20)]):=
 E8 λwr hx=>by
  intro _ _ _ _
  refine⟨λvs=>∃k:Nat,k<=20/\vs=z3q k,λvs=>match vs with
   | .int _ i::_=>(21-i).toNat
   | _=>0,⟨0,Qo,rfl⟩,?_⟩
  rintro i l l1 l2 l3 l4 l5 l6 l7 l8 l9 l10 l11 l12 l13 l14 l15 l16 l17 l18 l19 l20 ⟨k,hk,he⟩;simp only[z3q,I5,I6,true_and,and_true] at he;obtain⟨rfl,rfl,rfl,rfl,rfl,rfl,rfl,rfl,rfl,rfl,rfl,rfl,rfl,rfl,rfl,rfl,rfl,rfl,rfl,rfl,rfl,rfl⟩:=he;constructor
  ·intro h;have h:=Ot h;refine⟨⟨Qo,?_⟩,⟨Qo,Qo⟩,Qo,?_⟩
   ·have:=zd5 (w:=(k:Int)+1) Qo Qo;exact Uj (by unfold zic at this; omega) (by unfold zic at this; omega)
   ·refine⟨_,_,_,_,_,_,_,_,_,_,_,_,_,_,_,_,_,_,_,_,_,?_,Uj Qo Qo,⟨k+1,Qo,rfl⟩,?_⟩
    ·have:k=0\/k=1\/k=2\/k=3\/k=4\/k=5\/k=6\/k=7\/k=8\/k=9\/k=10\/k=11\/k=12\/k=13\/k=14\/k=15\/k=16\/k=17\/k=18\/k=19:=Qo;rcases this with rfl | rfl | rfl | rfl | rfl | rfl | rfl | rfl | rfl | rfl | rfl | rfl | rfl | rfl | rfl | rfl | rfl | rfl | rfl | rfl <;> rfl
    ·show (21-(((k:Int)+1)+1)).toNat<(21-((k:Int)+1)).toNat;omega
  ·intro h;have h:=Ou h;have hk:k=20:=Qo;subst hk;rfl
theorem z11{k:Int}(h1:1<=k)(h2:k<=20):(#[I 0,I (Tb 20 1),I (Tb 20 2),I (Tb 20 3),I (Tb 20 4),I (Tb 20 5),I (Tb 20 6),I (Tb 20 7),
 I (Tb 20 8),I (Tb 20 9),I (Tb 20 10),I (Tb 20 11),I (Tb 20 12),I (Tb 20 13),I (Tb 20 14),I (Tb 20 15),I (Tb 20 16),I (Tb 20 17),I (Tb 20 18),I (Tb 20 19),I (Tb 20 20)]:Array Va)[Int.toNat k]? = some (I (zic k)):=by
 have:k=1\/k=2\/k=3\/k=4\/k=5\/k=6\/k=7\/k=8\/k=9\/k=10\/k=11\/k=12\/k=13\/k=14\/k=15\/k=16\/k=17\/k=18\/k=19\/k=20:=Qo;rcases this with rfl | rfl | rfl | rfl | rfl | rfl | rfl | rfl | rfl | rfl | rfl | rfl | rfl | rfl | rfl | rfl | rfl | rfl | rfl | rfl <;> rfl
theorem VV{n k:Int}{w:Wo}{bs:List Nat}:PX bs Xj #[I n,I k] w (I (Zf n k)):=
 E2 n k λwr hx=>by
  refine⟨_,QW,_,λ_=>Pn,λh=>?_,λh=>?_⟩
  ·congr 1; unfold Zf; rw[C']; intro h2; simp only[A'] at h2; simp[h2] at h
  ·have h2:YQ n 0 100000000=true/\YQ k 1 20=true:=by simpa using h
   rw[Qu,Qu] at h2;have hm:=zkb h2.1.1 h2.1.2 h2.2.1 h2.2.2;refine⟨_,_,_,_,_,_,_,_,_,_,_,_,_,_,_,_,_,_,_,_,_,DU,zic k,⟨Qo,Qo,z11 h2.2.1 h2.2.2⟩,Uj Qo Qo,?_⟩;rw[P7 h2.1.1 h2.1.2 h2.2.1 h2.2.2]
theorem Gn{k:Int}{w:Wo}{bs:List Nat}:PX bs Vu #[I k] w (I (ZB k)):=
 zc7 k λwr hx=>⟨_,VV,rfl⟩
def MF(s:ByteArray):Bool:=(((((ZI s (⟨[119,101,105,103,104,116].toArray⟩))||(ZI s (⟨[109,97,120].toArray⟩)))||(ZI s (⟨[99,112,117,115].toArray⟩)))||(ZI s (⟨[112,114,111,99,115].toArray⟩)))||(ZI s (⟨[115,116,97,116].toArray⟩)))
def zxg(x:Int):Bool:=(((decide (x>=97))&&(decide (x<=122)))||((decide (x>=48))&&(decide (x<=57))))
def UG(s:ByteArray):Bool:=YQ (s.size:Int) 1 8 && !MF s&&(List.range s.size).all λi=>zxg (Um s (i:Int))
theorem L7{s:ByteArray}:UG s=true↔(1<=s.size/\s.size<=8)/\MF s=false/\∀i:Nat,i<s.size->zxg (Um s (i:Int))=true:=by
 unfold UG;simp only[A',Qu,ID,List.all_eq_true,List.mem_range];constructor
 ·rintro⟨⟨h1,h2⟩,h3⟩; exact⟨⟨Qo,Qo⟩,h2,h3⟩
 ·rintro⟨⟨h0,h1⟩,h2,h3⟩; exact⟨⟨⟨Qo,Qo⟩,h2⟩,h3⟩
theorem Kx{s:ByteArray}(h:¬((1<=s.size/\s.size<=8)/\MF s=false/\∀i:Nat,i<s.size->zxg (Um s (i:Int))=true)):UG s=false:=by
 cases hn:UG s with
 | false=>rfl
 | true=>exact Is (L7.1 hn) h
theorem zf1{s:ByteArray}{w:Wo}{bs:List Nat}:PX bs M8 #[.string s] w (.bool (MF s)):=
 zgo s λwr hx=>rfl
theorem Db{s:ByteArray}{w:Wo}{bs:List Nat}:PX bs Tq #[.string s] w (.bool (UG s)):=
 zgk s λwr hx=>by
  refine⟨_,Qr,MF s,λ_=>zf1,λh=>?_,λh=>?_⟩
  ·rw[Kx];rintro⟨h1,h2,_⟩;rw[h2,Qu.2 Qo] at h;cases h
  ·have h:YQ (s.size:Int) 1 8=true/\MF s=false:=by simpa using h
   have h1:=Qu.1 h.1;refine XL s.size 0 rfl (λk=>k<=s.size/\∀j:Nat,j<k->zxg (Um s (j:Int))=true) ⟨Ie _,λj hj=>Is hj (Nat.not_lt_zero j)⟩ λk ⟨hk,hI⟩=>⟨λIU=>?_,λRN=>?_⟩
   ·have IU:=Ot IU;have hr:0<=(k:Int)/\(k:Int)<(s.size:Int):=⟨Qo,IU⟩;refine⟨hr,λ_=>hr,λ_=>hr,λ_ _=>hr,λjH=>?_,λAQ9=>⟨⟨Qo,Qo⟩,QI Qo ⟨Qo,λj hj=>?_⟩⟩⟩
    ·rw[Kx];rintro⟨_,_,h3⟩;have:=h3 k Qo;unfold zxg at this;rw[this] at jH;cases jH
    ·by_cases iP:j<k
     ·exact hI j iP
     ·have:j=k:=Qo;subst this;unfold zxg;rw[I7] at AQ9;exact AQ9
   ·have RN:=Ou RN;have hk:k=s.size:=Qo;subst hk;rw[L7.2 ⟨⟨Qo,Qo⟩,h.2,hI⟩]
def Q6(gs:List ZV)(g:Int):Bool:=(decide (g>=0)&&decide (g<(gs.length:Int)))&&(gi gs g).used
theorem Q5{gs:List ZV}{g:Int}:Q6 gs g=true↔0<=g/\g<(gs.length:Int)/\(gi gs g).used=true:=by
 unfold Q6;simp[and_assoc]
def dep:Nat->List ZV->Int->Int
 | 0,_,g=>if g=0 then 0 else -1
 | f+1,gs,g=>if g=0 then 0 else if dep f gs (gi gs g).parent<0 then -1 else dep f gs (gi gs g).parent+1
def P2:Nat->List ZV->Int->Int->Int
 | 0,_,_,_ => -1
 | f+1,gs,g,n=>if Q6 gs g=false then -1 else if g=0 then n else P2 f gs (gi gs g).parent (n+1)
theorem O2(gs:List ZV):∀(f:Nat) (g:Int),-1<=dep f gs g/\dep f gs g<=f
 | 0,g=>by simp only[dep]; split <;> omega
 | f+1,g=>by
  have:=O2 gs f (gi gs g).parent;simp only[dep];split
  ·omega
  ·split <;> omega
theorem G9(gs:List ZV):∀(f f':Nat) (g:Int),0<=dep f gs g->dep f gs g<=f'->dep f' gs g=dep f gs g
 | 0,f',g,h,_=>by
  simp only[dep] at h ⊢
  split at h
  ·rename_i hg
   cases f' <;> simp[dep,hg]
  ·omega
 | f+1,f',g,h,hle=>by
  simp only[dep] at h hle ⊢
  by_cases hg:g=0
  ·rw[E' hg]
   cases f' <;> simp[dep,hg]
  ·rw[C' hg] at h hle ⊢
   by_cases hd:dep f gs (gi gs g).parent<0
   ·rw[E' hd] at h; omega
   ·rw[C' hd] at hle ⊢
    cases f' with
    | zero=>omega
    | succ f'=>
     have:=G9 gs f f' (gi gs g).parent Qo Qo;simp only[dep];rw[C' hg,this,C' hd]
theorem Y4(gs:List ZV)(f:Nat):dep f gs 0=0:=by cases f <;> simp[dep]
theorem zuk{gs:List ZV}{f:Nat}{g:Int}(h:dep f gs g=0):g=0:=by
 cases f with
 | zero=>simp only[dep] at h; split at h <;> first | assumption | omega
 | succ f=>
  simp only[dep] at h
  split at h
  ·assumption
  ·split at h <;> omega
structure Yk (gs:List ZV):Prop where
 len:gs.length=8
 ru:(gi gs 0).used=true
 rp:(gi gs 0).parent = -1
 rn:(gi gs 0).name=⟨[].toArray⟩
 nm:∀g:Int,1<=g->g<8->(gi gs g).used=true->UG (gi gs g).name=true
 par:∀g:Int,1<=g->g<8->(gi gs g).used=true->Q6 gs (gi gs g).parent=true
 dp:∀g:Int,1<=g->g<8->(gi gs g).used=true->0<=dep 3 gs g
 uniq:∀g h:Int,1<=h->h<g->g<8->(gi gs g).used=true->(gi gs h).used=true->¬((gi gs h).parent=(gi gs g).parent/\(gi gs h).name=(gi gs g).name)
noncomputable def ML(gs:List ZV):Bool:=@decide (Yk gs) (Classical.propDecidable _)
theorem T5{gs:List ZV}:ML gs=true↔Yk gs:=@decide_eq_true_iff _ (Classical.propDecidable _)
theorem B5{gs:List ZV}(h:¬Yk gs):ML gs=false:=by
 cases hb:ML gs with
 | false=>rfl
 | true=>exact Is (T5.1 hb) h
theorem Fu{gs:List ZV}(hp:∀g:Int,g≠0->Q6 gs g=true->Q6 gs (gi gs g).parent=true):∀(f:Nat) (g n:Int),Q6 gs g=true->P2 (f+1) gs g n=if dep f gs g<0 then -1 else n+dep f gs g
 | 0,g,n,hu=>by
  simp only[P2,dep,hu]
  by_cases hg:g=0 <;> simp[hg]
 | f+1,g,n,hu=>by
  rw[P2];simp only[hu]
  by_cases hg:g=0
  ·simp[hg,dep]
  ·have ih:=Fu hp f (gi gs g).parent (n+1) (hp g hg hu);have hr:=O2 gs f (gi gs g).parent;simp only[dep,C' hg];rw[ih]
   by_cases hd:dep f gs (gi gs g).parent<0
   ·simp[hd]
   ·have h2:¬(dep f gs (gi gs g).parent+1<0):=Qo;simp[hd,h2]; omega
theorem zsh{gs:List ZV}{f:Nat}{g n:Int}(hg:g≠0)(h:P2 (f+1) gs g n≠-1):f≠0/\Q6 gs (gi gs g).parent=true:=by
 rw[P2] at h
 by_cases hu:Q6 gs g=false
 ·rw[E' hu] at h; exact Is rfl h
 ·rw[C' hu,C' hg] at h
  cases f with
  | zero=>exact Is rfl h
  | succ f=>
   rw[P2] at h
   by_cases hp:Q6 gs (gi gs g).parent=false
   ·rw[E' hp] at h; exact Is rfl h
   ·exact⟨Qo,by simpa using hp⟩
structure zpu (gs:List ZV) (k:Int):Prop where
 each:∀g:Int,1<=g->g<k->(gi gs g).used=true->UG (gi gs g).name=true/\YQ (P2 9 gs g 0) 1 3=true/\∀h:Int,1<=h->h<g->(gi gs h).used=true->¬((gi gs h).parent=(gi gs g).parent/\(gi gs h).name=(gi gs g).name)
theorem zti{gs:List ZV}(hl:gs.length=8)(ru:(gi gs 0).used=true)(rp:(gi gs 0).parent = -1)(rn:(gi gs 0).name=⟨[].toArray⟩)(h:zpu gs 8):Yk gs:=by
 have par:∀g:Int,1<=g->g<8->(gi gs g).used=true->Q6 gs (gi gs g).parent=true:=λg h1 h2 hu=>by
  have:=Qu.1 (h.each g h1 h2 hu).2.1;exact(zsh (f:=8) (n:=0) Qo (by show P2 9 gs g 0≠-1; omega)).2
 have hp:∀g:Int,g≠0->Q6 gs g=true->Q6 gs (gi gs g).parent=true:=λg hg hu=>by
  obtain⟨a,b,c⟩:=Q5.1 hu;exact par g Qo Qo c
 refine⟨hl,ru,rp,rn,λg h1 h2 hu=>(h.each g h1 h2 hu).1,par,λg h1 h2 hu=>?_,λg k h1 h2 h3 hu hk=>(h.each g Qo h3 hu).2.2 k h1 h2 hk⟩;have h9:=Qu.1 (h.each g h1 h2 hu).2.1;rw[Fu hp 8 g 0 (Q5.2 ⟨Qo,Qo,hu⟩)] at h9
 split at h9
 ·omega
 ·rename_i hd;have:=G9 gs 8 3 g Qo Qo;omega
theorem zrk{gs:List ZV}(h:Yk gs):zpu gs 8:=by
 have hp:∀g:Int,g≠0->Q6 gs g=true->Q6 gs (gi gs g).parent=true:=λg hg hu=>by
  obtain⟨a,b,c⟩:=Q5.1 hu;have:=h.len;exact h.par g Qo Qo c
 refine⟨λg h1 h2 hu=>⟨h.nm g h1 h2 hu,?_,λk h3 h4 hk=>h.uniq g k h3 h4 h2 hu hk⟩⟩;have hl:=h.len;rw[Fu hp 8 g 0 (Q5.2 ⟨Qo,Qo,hu⟩)];have h3:=h.dp g h1 h2 hu;have hr:=O2 gs 3 g;have:=G9 gs 3 8 g h3 Qo;rw[this,C' Qo];have hz:dep 3 gs g≠0:=λe=>by have:=zuk e; omega
 exact Qu.2 Qo
section
variable {gs:List ZV}{ms:Nat->MG}{o:OA}{c:Nat}{w:Wo}{bs:List Nat}
theorem Li.used(h:Li bs w o gs ms){i:Int}(h0:0<=i)(h1:i<(gs.length:Int)):Q1 bs w o (Int.toNat i*14+0) [.bool (gi gs i).used]:=(h.cells i h0 h1).get 0 _ rfl
theorem Li.parent(h:Li bs w o gs ms){i:Int}(h0:0<=i)(h1:i<(gs.length:Int)):Q1 bs w o (Int.toNat i*14+1) [I (gi gs i).parent]:=(h.cells i h0 h1).get 1 _ rfl
theorem Li.name(h:Li bs w o gs ms){i:Int}(h0:0<=i)(h1:i<(gs.length:Int)):Q1 bs w o (Int.toNat i*14+2) [.string (gi gs i).name]:=(h.cells i h0 h1).get 2 _ rfl
theorem Xs{g:Int}(h:Li bs w o gs ms):PX bs Yh #[.slice o gs.length c,I g] w (.bool (Q6 gs g)):=
 zgp o gs.length c g λwr hx=>by
  have h:=(h.ext hx).less (cs:=[]) Qs;refine⟨λq=>?_,(gi gs g).used,λq=>?_,rfl⟩
  ·have q:0<=g/\g<(gs.length:Int):=by simpa using q
   exact h.ix q.1 q.2
  ·have q:0<=g/\g<(gs.length:Int):=by simpa using q
   exact h.used q.1 q.2
theorem Mk{g:Int}(h:Li bs w o gs ms)(hl:gs.length<maxLen):PX bs JX #[.slice o gs.length c,I g] w (I (P2 (gs.length+1) gs g 0)):=
 zdi o gs.length c g λwr hx=>by
  have h:=(h.ext hx).less (cs:=[]) Qs;refine P3 (gs.length+1) 0 rfl (λx k=>k<=gs.length+1/\P2 (gs.length+1-k) gs x k=P2 (gs.length+1) gs g 0) ⟨Qo,rfl⟩ λx k ⟨hk,he⟩=>⟨λIU=>?_,λRN=>?_⟩
  ·have IU:=Ot IU;have hf:gs.length+1-k=(gs.length-k)+1:=Qo;rw[hf,P2] at he;refine⟨_,Xs h,λhu=>?_,λhu=>?_⟩
   ·have hu:Q6 gs x=false:=by simpa using hu
    rw[E' hu] at he;rw[<-he]
   ·have hu:Q6 gs x=true:=by simpa using hu
    rw[C' (by simp[hu])] at he;obtain⟨u1,u2,u3⟩:=Q5.1 hu;refine⟨λhz=>?_,λhz=>?_⟩
    ·rw[E' (by simpa using hz)] at he;rw[<-he]
    ·rw[C' (by simpa using hz)] at he;have hm:=Js;refine⟨h.ix u1 u2,_,h.parent u1 u2,⟨Qo,Qo⟩,QO Qo ⟨Qo,?_⟩⟩;rw[<-he,show gs.length+1-(k+1)=gs.length-k by omega];rfl
  ·have RN:=Ou RN;have:gs.length+1-k=0:=Qo;rw[this] at he;rw[<-he]; rfl
theorem Dc(h:Li bs w o gs ms)(hl:gs.length<=maxLen):PX bs Ts #[.slice o gs.length c] w (.bool (ML gs)):=
 zgl o gs.length c λwr hx=>by
  have h:=(h.ext hx).less (cs:=[]) Qs;have l8:((((gs.length:Nat):Int) != 8)=false)->gs.length=8:=λq=>by have:=(bne_eq_false_iff_eq).1 q; omega
  have i0:∀q:(((gs.length:Nat):Int) != 8)=false,(0:Int)<(gs.length:Int):=λq=>by have:=l8 q; omega
  refine⟨λq=>h.ix (I3 _) (i0 q),(gi gs 0).used,λq=>h.used (I3 _) (i0 q),λq=>?_,(gi gs 0).parent,λq=>?_,λq=>?_,(gi gs 0).name,λq=>?_,λq=>?_,λq=>?_⟩
  ·simp only[I0] at q; exact h.ix (I3 _) (i0 q.1)
  ·simp only[I0] at q; exact h.parent (I3 _) (i0 q.1)
  ·simp only[I0] at q; exact h.ix (I3 _) (i0 q.1.1)
  ·simp only[I0] at q; exact h.name (I3 _) (i0 q.1.1)
  ·rw[B5];intro ht;have e:((gs.length:Nat):Int)=8:=by have:=ht.len; omega
   rw[e,ht.ru,ht.rp,ht.rn,B0] at q;simp at q
  ·simp only[I0,I7,bne_eq_false_iff_eq,UY] at q;obtain⟨⟨⟨q1,ru⟩,rp⟩,rn⟩:=q;have hl8:gs.length=8:=Qo;refine XL 8 1 rfl (λk=>1<=k/\k<=8/\zpu gs k) ⟨I8 _,Qo,⟨λg h1 h2=>by omega⟩⟩ λk ⟨hk1,hk,hS⟩=>⟨λIU=>?_,λRN=>?_⟩
   ·have IU:=Ot IU;have gD:(0:Int)<=(k:Int):=Qo
    have step:((gi gs (k:Int)).used=true->UG (gi gs (k:Int)).name=true/\YQ (P2 9 gs (k:Int) 0) 1 3=true/\∀h:Int,1<=h->h<(k:Int)->(gi gs h).used=true->¬((gi gs h).parent=(gi gs (k:Int)).parent/\(gi gs h).name=(gi gs (k:Int)).name))->zpu gs ((k+1:Nat):Int):=λmS=>⟨λg h1 h2 hu=>by
     by_cases uF:g<(k:Int)
     ·exact hS.each g h1 uF hu
     ·have:g=(k:Int):=Qo;subst this; exact mS hu⟩
    refine⟨h.ix gD IU,_,h.used gD IU,λhu=>⟨⟨Qo,Qo⟩,QI Qo ⟨Qo,Qo,step λhu'=>by rw[hu'] at hu; cases hu⟩⟩,λhu=>?_⟩;have hu:(gi gs (k:Int)).used=true:=by simpa using hu
    refine⟨h.ix gD IU,_,h.name gD IU,_,Db,P2 9 gs (k:Int) 0,λ_=>?_,YQ (P2 9 gs (k:Int) 0) 1 3,λ_=>Qr,λq=>?_,λq=>?_⟩
    ·have:=Mk (c:=c) (g:=(k:Int)) h (by rw[hl8]; simp[maxLen])
     rwa[hl8] at this ⊢
    ·rw[B5];intro ht;have:=(zrk ht).each (k:Int) Qo Qo hu;rw[this.1,this.2.1] at q;cases q
    ·simp only[I0,I7] at q;refine XL k 1 rfl (λj=>1<=j/\j<=k/\∀h:Int,1<=h->h<(j:Int)->(gi gs h).used=true->¬((gi gs h).parent=(gi gs (k:Int)).parent/\(gi gs h).name=(gi gs (k:Int)).name)) ⟨I8 _,hk1,λg h1 h2=>by omega⟩ λj ⟨hj1,iP,hJ⟩=>⟨λRM=>?_,λbS=>?_⟩
     ·have RM:=Ot RM;have hj0:(0:Int)<=(j:Int):=Qo;have hjl:(j:Int)<(gs.length:Int):=Qo;refine⟨h.ix hj0 hjl,_,h.used hj0 hjl,λ_=>h.ix hj0 hjl,_,λ_=>h.parent hj0 hjl,λ_=>h.ix gD IU,_,λ_=>h.parent gD IU,λ_=>h.ix hj0 hjl,_,λ_=>h.name hj0 hjl,λ_=>h.ix gD IU,_,λ_=>h.name gD IU,λhs=>?_,λhs=>⟨⟨Qo,Qo⟩,QI Qo ⟨Qo,Qo,λg h1 h2 hg=>?_⟩⟩⟩
      ·rw[B5];intro ht;simp only[A',It,UY] at hs;exact ht.uniq (k:Int) (j:Int) Qo RM Qo hu hs.1.1 ⟨hs.1.2,hs.2⟩
      ·by_cases hgj:g<(j:Int)
       ·exact hJ g h1 hgj hg
       ·have:g=(j:Int):=Qo;subst this;rintro⟨e1,e2⟩;rw[hg,e1,e2,B0] at hs;simp at hs
     ·have bS:=Ou bS;have:j=k:=Qo;subst this;exact⟨⟨Qo,Qo⟩,QI Qo ⟨Qo,Qo,step λ_=>⟨q.1,q.2,hJ⟩⟩⟩
   ·have RN:=Ou RN;have:k=8:=Qo;subst this;rw[T5.2 (zti hl8 ru rp rn hS)]
def TQ:Nat->List ZV->Int->Int->Bool
 | 0,_,g,h=>h==g
 | f+1,gs,g,h=>h==g||(h != 0&&TQ f gs g (gi gs h).parent)
noncomputable def Pu(gs:List ZV)(g h:Int):Bool:=ML gs&&Q6 gs g&&Q6 gs h&&TQ 3 gs g h
theorem Yl{gs:List ZV}(ht:Yk gs){h:Int}(hu:Q6 gs h=true)(hz:h≠0):Q6 gs (gi gs h).parent=true/\0<=h/\h<(gs.length:Int)/\∃d:Nat,dep 3 gs h=(d:Int)+1/\dep 3 gs (gi gs h).parent=(d:Int)/\d<3:=by
 obtain⟨a,b,u⟩:=Q5.1 hu;have hl:=ht.len;have h1:1<=h:=Qo;have hd:=ht.dp h h1 Qo u;refine⟨ht.par h h1 Qo u,a,b,?_⟩;have hr:=O2 gs 2 (gi gs h).parent;have e:dep 3 gs h=if dep 2 gs (gi gs h).parent<0 then -1 else dep 2 gs (gi gs h).parent+1:=by simp only[dep,C' hz]
 rw[e] at hd ⊢
 split at hd
 ·omega
 ·rename_i hn;rw[C' hn];have:=G9 gs 2 3 (gi gs h).parent Qo Qo;exact⟨(dep 2 gs (gi gs h).parent).toNat,Qo,Qo,Qo⟩
theorem zr9{gs:List ZV}(ht:Yk gs)(g:Int):∀(f f':Nat) (h:Int),Q6 gs h=true->dep 3 gs h<=f->dep 3 gs h<=f'->TQ f gs g h=TQ f' gs g h:=by
 intro f
 induction f with
 | zero=>
  intro f' h hu h1 h2
  have hz:h=0:=Ir λhz=>by
   obtain⟨_,_,_,d,e,_⟩:=Yl ht hu hz;omega
  subst hz
  cases f' <;> simp[TQ]
 | succ f ih=>
  intro f' h hu h1 h2
  by_cases hz:h=0
  ·subst hz
   cases f' <;> simp[TQ]
  ·obtain⟨hp,_,_,d,e,e2,_⟩:=Yl ht hu hz
   cases f' with
   | zero=>omega
   | succ f'=>
    simp only[TQ];rw[ih f' (gi gs h).parent hp Qo Qo]
theorem zhg{gs:List ZV}(ht:Yk gs){g h:Int}(hu:Q6 gs h=true)(hz:h≠0)(hg:h≠g):TQ 3 gs g h=TQ 3 gs g (gi gs h).parent:=by
 obtain⟨hp,_,_,d,e,e2,hd⟩:=Yl ht hu hz;rw[<-zr9 ht g 2 3 (gi gs h).parent hp Qo Qo];have e3:TQ 3 gs g h=(h==g||(h != 0&&TQ 2 gs g (gi gs h).parent)):=rfl;rw[e3];have e4:(h==g)=false:=by simpa using hg
 have e5:(h != 0)=true:=by simpa using hz
 rw[e4,e5,Bool.false_or,Bool.true_and]
theorem Oo{g h:Int}(hr:Li bs w o gs ms)(hl:gs.length<=maxLen):PX bs XX #[.slice o gs.length c,I g,I h] w (.bool (Pu gs g h)):=
 Nr o gs.length c g h λwr hx=>by
  have hr:=(hr.ext hx).less (cs:=[]) Qs;refine⟨_,Dc hr hl,_,λ_=>Xs hr,_,λ_=>Xs hr,λq=>?_,λq=>?_⟩
  ·have:Pu gs g h=false:=by
    unfold Pu
    cases h1:ML gs <;> cases h2:Q6 gs g <;> cases h3:Q6 gs h <;> simp_all
   rw[this]
  ·simp only[I0,I7] at q;obtain⟨⟨q1,q2⟩,q3⟩:=q;have ht:=T5.1 q1;have hU:Pu gs g h=TQ 3 gs g h:=by unfold Pu; rw[q1,q2,q3]; rfl
   refine⟨λvs=>∃x:Int,vs=[I x]/\Q6 gs x=true/\TQ 3 gs g x=TQ 3 gs g h,λvs=>(dep 3 gs (ZQ 0 vs)).toNat,⟨h,rfl,q3,rfl⟩,?_⟩;rintro x ⟨x',he,hu,hI⟩;simp only[I5,I6,true_and,and_true] at he;subst he;refine⟨λgE=>⟨λhz=>?_,λhz=>?_⟩,λheq=>?_⟩
   ·have hz:x=0:=by simpa using hz
    subst hz
    have:TQ 3 gs g 0=false:=by
     have:¬(0=g):=by simpa using gE
     simp[TQ,this]
    rw[hU,<-hI,this]
   ·have hz:x≠0:=by simpa using hz
    have gE:x≠g:=by simpa using gE
    obtain⟨hp,a,b,d,e,e2,hd⟩:=Yl ht hu hz;refine⟨hr.ix a b,_,hr.parent a b,⟨_,rfl,hp,by rw[<-zhg ht hu hz gE]; exact hI⟩,?_⟩;show (dep 3 gs (gi gs x).parent).toNat<(dep 3 gs x).toNat;omega
   ·have heq:x=g:=by simpa using heq
    subst heq;rw[hU,<-hI];simp[TQ]
end
theorem zr6{s:ByteArray}{i:Nat}(h:i<s.size):((s.get! i).toNat:Int)=Um s (i:Int):=by
 have hi:i<s.data.size:=h;unfold Um;rw[Ih];simp[ByteArray.get!,getElem!_pos s.data i hi,Array.getD,h]
theorem zhb{s:ByteArray}{i:Nat}(h:(s.get! i).toNat<128):Utf8.decode s i=((s.get! i).toNat,1):=by
 simp only[Utf8.decode,Nat.add_zero];rw[E' h]
theorem zrv{s:ByteArray}{i:Nat}(h:¬(s.get! i).toNat<128):128<=(Utf8.decode s i).1/\1<=(Utf8.decode s i).2:=by
 simp only[Utf8.decode,Nat.add_zero,Utf8.runeError];rw[C' h];split
 ·split
  ·rename_i h1; exact⟨h1,by show 1<=2; omega⟩
  ·exact⟨Qd,Qd⟩
 ·split
  ·split
   ·rename_i h1;simp only[ge_iff_le,A',Ik] at h1;exact⟨by show 128<=_; omega,by show 1<=3; omega⟩
   ·exact⟨Qd,Qd⟩
  ·split
   ·split
    ·rename_i h1;simp only[ge_iff_le,A',Ik] at h1;exact⟨by show 128<=_; omega,by show 1<=4; omega⟩
    ·exact⟨Qd,Qd⟩
   ·exact⟨Qd,Qd⟩
theorem zsc(w:Wo)(b:Nat)(s:ByteArray)(p:Nat):Q0 [b] w (Mg w b s p):=
 ⟨rfl,rfl,rfl,by simp[Mg],λk _ hk=>by
  have:b≠k:=λe=>hk (by simp[e])
  simp only[Mg];rw[Array.getElem?_setIfInBounds_ne this]⟩
theorem zu9{w:Wo}{b:Nat}{s:ByteArray}{p:Nat}(h:b<w.heap.size):(Mg w b s p).heap[b]? = some (.stringIter s p):=by
 simp[Mg,h]
def z0f(b:Nat)(w:Wo):Nat:=match w.heap[b]? with
 | some (.stringIter s p)=>s.size+1-p
 | _=>0
theorem zlp{s:ByteArray}(h1:ZI s (⟨[119,101,105,103,104,116].toArray⟩)=false)(h2:ZI s (⟨[109,97,120].toArray⟩)=false)(h3:ZI s (⟨[99,112,117,115].toArray⟩)=false)(h4:ZI s (⟨[112,114,111,99,115].toArray⟩)=false)(h5:ZI s (⟨[115,116,97,116].toArray⟩)=false):MF s=false:=by
 unfold MF; rw[h1,h2,h3,h4,h5]; rfl
theorem P4{s:ByteArray}(h:MF s=true):UG s=false:=Kx λ⟨_,h2,_⟩=>by rw[h] at h2; cases h2
theorem zft{s:ByteArray}{w:Wo}{bs:List Nat}:PX bs M4 #[.string s] w (.bool (UG s)):=by
 refine FSx λwr hx=>zfh s (R:=λv w'=>v=.bool (UG s)/\Q0 [] wr w') ?_
 refine⟨λh=>?_,λh1=>⟨λh=>?_,λh2=>⟨λh=>?_,λh3=>⟨λh=>?_,λh4=>⟨λh=>?_,λh5=>?_⟩⟩⟩⟩⟩
 ·intro w1 RZ; rw[P4 (by unfold MF; rw[h]; rfl)]; exact⟨rfl,RZ⟩
 ·intro w1 RZ; rw[P4 (by unfold MF; rw[h]; simp)]; exact⟨rfl,RZ⟩
 ·intro w1 RZ; rw[P4 (by unfold MF; rw[h]; simp)]; exact⟨rfl,RZ⟩
 ·intro w1 RZ; rw[P4 (by unfold MF; rw[h]; simp)]; exact⟨rfl,RZ⟩
 ·intro w1 RZ; rw[P4 (by unfold MF; rw[h]; simp)]; exact⟨rfl,RZ⟩
 ·have hf:=zlp h1 h2 h3 h4 h5;refine⟨_,QW,λh=>?_,λh=>?_⟩
  ·intro w1 RZ;have h:YQ (s.size:Int) 1 8=false:=by simpa using h
   have h:=zz3.1 h;rw[Kx λ⟨h6,_⟩=>h Qo];exact⟨rfl,RZ⟩
  ·have h:YQ (s.size:Int) 1 8=true:=by simpa using h
   have h:=Qu.1 h;intro w1 RZ _;refine⟨some ⟨w1.heap.size,0,none⟩,w1.alloc (.stringIter s 0),by simp[Instr.range,run_underlying zea],Y6,?_⟩;have hb0:(w1.alloc (.stringIter s 0)).heap[w1.heap.size]? = some (.stringIter s 0):=Array.getElem?_push_size ..;have hX0:Q0 [] wr (w1.alloc (.stringIter s 0)):=RZ.trans (Z9 w1 _);have hbr:wr.heap.size<=w1.heap.size:=RZ.size;generalize w1.heap.size=b at hb0 hbr;generalize w1.alloc (.stringIter s 0)=w2 at hb0 hX0;refine⟨λvs w'=>vs=[]/\Q0 [] wr w'/\∃p:Nat,p<=s.size/\w'.heap[b]? = some (.stringIter s p)/\∀j:Nat,j<p->zxg (Um s (j:Int))=true,λ_ w'=>z0f b w',λw3 Rb _=>⟨rfl,hX0.trans Rb,0,Ie _,Qq hb0 Rb Qs,λj hj=>Is hj (Nat.not_lt_zero j)⟩,?_⟩;intro w3 _ ⟨_,hX,p,hp,hb,hI⟩ w4 SZ _;have hb4:=Qq hb SZ Qs;refine⟨b,s,p,rfl,Qs,hb4,λRN=>⟨(by intro q; cases q),λ_ w5 Sy=>?_⟩,λIU=>⟨λ_=>?_,by intro q; cases q⟩⟩
   ·have:p=s.size:=Qo;subst this;rw[L7.2 ⟨⟨Qo,Qo⟩,hf,hI⟩];exact⟨rfl,(hX.trans SZ).trans Sy⟩
   ·have hX5:Q0 [] wr (Mg w4 b s (p+(Utf8.decode s p).2)):=(hX.trans SZ).fresh (zsc w4 b s _) λx hm=>.inl (by rw[IA.1 hm]; exact hbr)
    have hg:=zr6 IU;refine⟨λjH=>?_,λAQ9=>?_⟩
    ·intro w5 Sy
     have C51:UG s=false:=Kx λ⟨_,_,h3⟩=>by
      have h3:=h3 p IU
      by_cases hlo:(s.get! p).toNat<128
      ·rw[zhb hlo] at jH;simp only[hg] at jH;unfold zxg at h3;rw[h3] at jH;cases jH
      ·unfold zxg at h3;simp only[Iv,A',Ik] at h3;omega
     rw[C51];exact⟨rfl,hX5.trans Sy⟩
    ·intro w5 Sy _
     by_cases hlo:(s.get! p).toNat<128
     ·rw[zhb hlo] at AQ9 hX5 Sy;simp only[hg] at AQ9;have hat:=Qq (zu9 (s:=s) (p:=p+1) (YY hb4)) Sy Qs;refine⟨⟨rfl,hX5.trans Sy,p+1,Qo,hat,λj hj=>?_⟩,?_⟩
      ·by_cases hjp:j<p
       ·exact hI j hjp
       ·have:j=p:=Qo;subst this;unfold zxg;rw[I7] at AQ9;exact AQ9
      ·simp only[z0f,hat,hb];omega
     ·exfalso
      have:=zrv hlo;rw[I7] at AQ9;simp only[Iv,A',Ik] at AQ9;omega
end Go.Proofs.YtnclplgaicdapaaGreatDoor
