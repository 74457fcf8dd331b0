/- Part 7 of what the law FnPick needs. -/
import Derived.Test.YtjinkcmkgnofjaaGreatFnPickPf
set_option linter.all false
set_option maxRecDepth 100000
set_option maxHeartbeats 8000000
namespace Go.Proofs.YtjinkcmkgnofjaaGreat
open Go.RowKit
def zdl(b:OA)(d a8:Nat)(w:Wo)(R:RT):=(((d:Int) != 8)=false->Ix b d 0)/\∃l,(((d:Int) != 8)=false->Q2 [] w b (Int.toNat 0*14+0) [.bool l])/\((((d:Int) != 8)||(!l))=false->Ix b d 0)/\∃q,((((d:Int) != 8)||(!l))=false->Q2 [] w b (Int.toNat 0*14+1) [I q])/\(((((d:Int) != 8)||(!l))||(q != (-1)))=false->Ix b d 0)/\∃(D:ByteArray),(((((d:Int) != 8)||(!l))||(q != (-1)))=false->Q2 [] w b (Int.toNat 0*14+2) [.string D])/\Bf (((((d:Int) != 8)||(!l))||(q != (-1)))||(!Zt D (ByteArray.mk [].toArray))) (AR [] w R (.tuple #[S none 0 0,.bool false])) (AY [] w λP=>∃f j V,∃B,((Instr.makeSlice Pp (I 8) (I 8)):Sem Va).run Tryz.prog P=.ok (S f j V) B/\Q9 [] P B/\∃(z:LQ) (v:LM),(AY [] B λa5=>z [I 0] a5)/\∀(e:Int) g,(∀bq∈([]:List Nat),bq<g.heap.size)->z [I e] g->Bf (decide (e<(d:Int))) (Ix b d e/\∃H,Q2 [] g b (e.toNat*14+0) [.bool H]/\Bf H (Ix b d e/\∃(T:ByteArray),Q2 [] g b (e.toNat*14+2) [.string T]/\∀r A,Q0 [] g A->g.heap.size<=r->A.heap[r]? = some (Obj.cells ([I e,.string T,.pointer none]:LV).toArray Dt (0,0))->r∉([]:List Nat)->Ix f j e/\Xx [] A f (e.toNat*1) 1/\Qz (e+1)/\AY [] (RN A f (e.toNat*1) [.pointer ((some (Addr.mk r 0 none)).map (·.add 0))]) λY=>z [I (e+1)] Y/\v [I (e+1)] Y<v [I e] g) (Qz (e+1)/\AY [] g λU=>z [I (e+1)] U/\v [I (e+1)] U<v [I e] g)) (AY [] g λQ=>∃(K:Va),∃J,((Instr.makeMap Zw none):Sem Va).run Tryz.prog Q=.ok K J/\Q9 [] Q J/\∃(t:LQ) (u:LM),(AY [] J λa9=>t [I 1] a9)/\∀(a:Int) c,(∀bq∈([]:List Nat),bq<c.heap.size)->t [I a] c->Bf (decide (a<8)) (Ix f j a/\∃L,Q2 [] c f (a.toNat*1) [.pointer L]/\Bf L.isNone (Qz (a+1)/\AY [] c λa3=>t [I (a+1)] a3/\u [I (a+1)] a3<u [I a] c) (Ix b d a/\∃(a1:ByteArray),Q2 [] c b (a.toNat*14+2) [.string a1]/\∃o,PX [] OI #[.string a1] c (.bool o)/\((!o)=false->Ix b d a)/\∃Z,((!o)=false->Q2 [] c b (a.toNat*14+1) [I Z])/\∃G,((!o)=false->PX [] Jp #[S b d a8,I Z] c (.bool G))/\Bf ((!o)||(!G)) (AR [] c R (.tuple #[S none 0 0,.bool false])) (Ix f j a/\∃h,Q2 [] c f (a.toNat*1) [.pointer h]/\Ix b d a/\∃N,Q2 [] c b (a.toNat*14+1) [I N]/\Ix f j N/\∃m,Q2 [] c f (Int.toNat N*1) [.pointer m]/\h.isSome/\Xx [] c h (0+2) 1/\Ix b d a/\∃x,Q2 [] (RN c h (0+2) [.pointer m]) b (a.toNat*14+1) [I x]/\Ix b d a/\∃(y:ByteArray),Q2 [] (RN c h (0+2) [.pointer m]) b (a.toNat*14+2) [.string y]/\∀n,(RN c h (0+2) [.pointer m]).heap.size<=n->Q2 [] (RN c h (0+2) [.pointer m]) b (a.toNat*14+2) [.string y]/\Q2 [] (RN c h (0+2) [.pointer m]) b (a.toNat*14+1) [I x]/\AX [] [n] (RN c h (0+2) [.pointer m]) λa2=>∃a6 F,∃s,((Instr.lookup Zw K (.agg #[I x,.string y]) true):Sem Va).run Tryz.prog a2=.ok (.tuple #[I a6,.bool F]) s/\Q9 [n] a2 s/\Bf F (AR [n] s R (.tuple #[S none 0 0,.bool false])) (AY [n] s λa4 =>∃M,((do Instr.mapUpdate Zw K (.agg #[I x,.string y]) (I a);pure undef):Sem Va).run Tryz.prog a4=.ok undef M/\Q9 [n] a4 M/\Qz (a+1)/\AY [n] M λX=>t [I (a+1)] X/\u [I (a+1)] X<u [I a] c)))) (∃(E:LQ) (O:LM),(AY [] c λa7=>E [I 0] a7)/\∀(i:Int) k,(∀bq∈([]:List Nat),bq<k.heap.size)->E [I i] k->Bf (decide (i<(j:Int))) (Ix f j i/\∃p,Q2 [] k f (i.toNat*1) [.pointer p]/\∃C,((!p.isNone)->PX [] UJ #[.pointer p] k (I C))/\Bf ((!p.isNone)&&(decide (C<0))) (AR [] k R (.tuple #[S none 0 0,.bool false])) (Qz (i+1)/\AY [] k λa0=>E [I (i+1)] a0/\O [I (i+1)] a0<O [I i] k)) (AR [] k R (.tuple #[S f j V,.bool true])))))
def zee(a b c):U8 (zdl a b c) Py #[S a b c]:=eV [57] false [(5,⟨[(40,Ri)],[],[0,4,39],[],[]⟩),(12,⟨[(7,Ri)],[],[0,4,6],[],[]⟩),(24,⟨[(124,Ri)],[],[4,122,123],[],[]⟩)] Tryz.func109 Qk Qk
def j9(e:OA)(d g:Nat)(w:Wo)(R:RT):=AY [] w λb=>Cz Py #[S e d g] b λh a=>∃i j f c,h=.returned (.tuple #[S i j f,.bool c])/\Q9 [] b a/\AR [] a R (.bool c)
def zam(a b c):U8 (j9 a b c) OJ #[S a b c]:=eV [] false [] Tryz.func73 Qk Qk
def Kd(b:OA)(w:Wo)(R:RT):=b.isSome/\∃i,Q2 [] w b (0+0) [I i]/\NB w λg=>∃a,(∀f,Q0 [] w f->f.heap[g]? = some (Obj.cells ([I i]:LV).toArray Qc (0,0))->PX [] ZA #[S (some (Addr.mk g 0 none)) 1 1] f (.bool a))/\(a->b.isSome)/\∃q k o,(a->Q2 [] w b (0+1) [S q k o])/\∃c,(a->PX [] Qx #[I (k:Int),I 1,I 4] w (.bool c))/\∃d,((a&&c)->PX [] YD #[.pointer b] w (I d))/\(((a&&c)&&(d != 0))->b.isSome)/\∃p e n,(((a&&c)&&(d != 0))->Q2 [] w b (0+2) [S p e n])/\((((a&&c)&&(d != 0))&&((e:Int)==12))->b.isSome)/\∃j l h,((((a&&c)&&(d != 0))&&((e:Int)==12))->Q2 [] w b (0+3) [S j l h])/\∃m,((((a&&c)&&(d != 0))&&((e:Int)==12))->PX [] OJ #[S j l h] w (.bool m))/\R (.bool ((((a&&c)&&(d != 0))&&((e:Int)==12))&&m)) w
def KO(a):YL (Kd a) Xi #[.pointer a]:=pV [] false [] Tryz.func35 Qk Qk
def FB(f b d:Int)(g:OA)(a j:Nat)(h:OA)(e i:Nat)(w:Wo)(R:RT):=NB w λc=>R (.bool (((((f==0)&&(b==0))&&(d==0))&&((a:Int)==0))&&((e:Int)==0))) w
def BR(a b c d e f g h i):YL (FB a b c d e f g h i) JW #[.agg #[I a,I b,I c,S d e f,S g h i]]:=pV [] false [] Tryz.func110 Qk Qk
def DG(h:Bool)(a:Int)(i:ByteArray)(b c d g e t k p:Int)(o:OA)(j s:Nat)(l:OA)(r q:Nat)(v:OA)(m u:Nat)(w:Wo)(R:RT):=NB w λn=>∃f,(((((((((!h)&&(a==0))&&(Zt i (ByteArray.mk [].toArray)))&&(b==0))&&(c==0))&&(d==0))&&(g==0))&&(e==0))->PX [] JW #[.agg #[I t,I k,I p,S o j s,S l r q]] w (.bool f))/\R (.bool ((((((((((!h)&&(a==0))&&(Zt i (ByteArray.mk [].toArray)))&&(b==0))&&(c==0))&&(d==0))&&(g==0))&&(e==0))&&f)&&((m:Int)==0))) w
def EL(a b c d e f g h i j k l m n o p q r s t):YL (DG a b c d e f g h i j k l m n o p q r s t) Vh #[.agg #[.bool a,I b,.string c,I d,I e,I f,I g,I h,I i,I j,I k,S l m n,S o p q,S r s t]]:=pV [] false [] Tryz.func74 Qk Qk
def FG(b:Int)(w:Wo)(R:RT):=∃a,PX [] Qx #[I b,I 1,I 20] w (.bool a)/\R (.bool a) w
def BV(a):YL (FG a) XI #[I a]:=pV [] false [] Tryz.func75 Qk Qk
def DE(a:Int)(w:Wo)(R:RT):=R (.bool ((decide (a>=0))&&(decide (a<=15)))) w
def EJ(a):YL (DE a) Jo #[I a]:=pV [] false [] Tryz.func144 Qk Qk
def CZ(b:Int)(w:Wo)(R:RT):=∃a,PX [] Jo #[I b] w (.bool a)/\R (.bool a) w
def zbc(a):YL (CZ a) JG #[I a]:=pV [] false [] Tryz.func111 Qk Qk
def FF(a:Int)(w:Wo)(R:RT):=∃b,((a != 0)->PX [] JG #[I a] w (.bool b))/\R (.bool ((a != 0)&&b)) w
def BU(a):YL (FF a) JX #[I a]:=pV [] false [] Tryz.func76 Qk Qk
def CY(f g l:Int)(r:OA)(c t:Nat)(p:OA)(m u:Nat)(w:Wo)(R:RT):=NB w λs=>∃h,PX [] Qx #[I f,I 1,I 10000] w (.bool h)/\∃k,((!h)=false->PX [] Qx #[I (c:Int),I 1,I 4] w (.bool k))/\Bf (((!h)||(!k))||((m:Int) != (c:Int))) (R (.bool false) w) (∃i,PX [] Qx #[I g,I 0,I f] w (.bool i)/\∃o,((!i)=false->PX [] Qx #[I l,I 0,I f] w (.bool o))/\Bf ((!i)||(!o)) (R (.bool false) w) (Qz (g+l)/\∃(n:LP) (q:LN),n [I (g+l),I 0]/\∀(d a:Int),n [I d,I a]->Bf (decide (a<(c:Int))) (Ix r c a/\∃b,Q2 [] w r (a.toNat*1) [I b]/\∃e,PX [] Qx #[I b,I 0,I f] w (.bool e)/\((!e)=false->Ix p m a)/\∃j,((!e)=false->Q2 [] w p (a.toNat*1) [.bool j])/\Bf ((!e)||(j&&((b != 0)||(g != 0)))) (R (.bool false) w) (Qz (d+b)/\Qz (a+1)/\n [I (d+b),I (a+1)]/\q [I (d+b),I (a+1)]<q [I d,I a])) (R (.bool (d==f)) w)))
def zbb(a b c d e f g h i):YL (CY a b c d e f g h i) OH #[.agg #[I a,I b,I c,S d e f,S g h i]]:=pV [] false [(7,⟨[(3,Ri),(48,Ri)],[],[1,46,47],[],[]⟩)] Tryz.func112 Qk Qk
def Kc(e:OA)(E:Bool)(x:Int)(F:ByteArray)(y A f p C s j n:Int)(m:OA)(b r:Nat)(k:OA)(q o:Nat)(D:OA)(B z:Nat)(w:Wo)(R:RT):=NB w λt=>∃g,PX [] JW #[.agg #[I s,I j,I n,S m b r,S k q o]] w (.bool g)/\Bf g (R (.bool ((f==0)&&(p==0))) w) (∃a,PX [] OH #[.agg #[I s,I j,I n,S m b r,S k q o]] w (.bool a)/\(a->e.isSome)/\∃v c u,(a->Q2 [] w e (0+1) [S v c u])/\∃d,((a&&((b:Int)==(c:Int)))->PX [] Qx #[I f,I 1,I 1000] w (.bool d))/\(((a&&((b:Int)==(c:Int)))&&d)->e.isSome)/\∃h,(((a&&((b:Int)==(c:Int)))&&d)->Q2 [] w e (0+0) [I h])/\(((a&&((b:Int)==(c:Int)))&&d)->Qz (h+1))/\(((a&&((b:Int)==(c:Int)))&&d)->e.isSome)/\∃i,(((a&&((b:Int)==(c:Int)))&&d)->Q2 [] w e (0+0) [I i])/\(((a&&((b:Int)==(c:Int)))&&d)->Qz (i+f))/\∃l,(((a&&((b:Int)==(c:Int)))&&d)->PX [] Qx #[I p,I (h+1),I (i+f)] w (.bool l))/\R (.bool (((a&&((b:Int)==(c:Int)))&&d)&&l)) w)
def KN(a b c d e f g h i j k l m n o p q r s t u):YL (Kc a b c d e f g h i j k l m n o p q r s t u) Xh #[.pointer a,.agg #[.bool b,I c,.string d,I e,I f,I g,I h,I i,I j,I k,I l,S m n o,S p q r,S s t u]]:=pV [] false [] Tryz.func77 Qk Qk
def K3(b:OA)(w:Wo)(R:RT):=b.isSome/\∃J m a4,Q2 [] w b (0+3) [S J m a4]/\∃(k:LP) (f:LN),k [I 0]/\∀(a:Int),k [I a]->Bf (decide (a<(m:Int))) (Ix J m a/\∃(h:Bool) (u:Int) (n:ByteArray) (j i q D l x E t:Int) (r:OA) (y A:Nat) (s:OA) (B o:Nat) (z:OA) (d p:Nat),Q2 [] w J (a.toNat*14) [.bool h,I u,.string n,I j,I i,I q,I D,I l,I x,I E,I t,S r y A,S s B o,S z d p]/\NB w λX=>Bf (!h) (∃H,PX [] Vh #[.agg #[.bool h,I u,.string n,I j,I i,I q,I D,I l,I x,I E,I t,S r y A,S s B o,S z d p]] w (.bool H)/\Bf (!H) (R (.bool false) w) (Qz (a+1)/\k [I (a+1)]/\f [I (a+1)]<f [I a])) (∃c,PX [] XI #[I j] w (.bool c)/\∃e,((!c)=false->PX [] JX #[I i] w (.bool e))/\(((!c)||(!e))=false->NB w λL=>∃g,(((!c)||(!e))=false->∀M,Q0 [] w M->M.heap[L]? = some (Obj.cells ([I l]:LV).toArray Qc (0,0))->PX [] ZA #[S (some (Addr.mk L 0 none)) 1 1] M (.bool g))/\((((!c)||(!e))||(!g))=false->b.isSome)/\∃b8 v b1,((((!c)||(!e))||(!g))=false->Q2 [] w b (0+1) [S b8 v b1])/\∃F,(((((!c)||(!e))||(!g))||((d:Int) != (v:Int)))=false->PX [] Xh #[.pointer b,.agg #[.bool h,I u,.string n,I j,I i,I q,I D,I l,I x,I E,I t,S r y A,S s B o,S z d p]] w (.bool F))/\Bf (((((!c)||(!e))||(!g))||((d:Int) != (v:Int)))||(!F)) (R (.bool false) w) (Qz (a+1)/\k [I (a+1)]/\f [I (a+1)]<f [I a]))/\((((!c)||(!e))=false->False)->(true=false->b.isSome)/\∃b4 C a1,(true=false->Q2 [] w b (0+1) [S b4 C a1])/\∃G,((true||((d:Int) != (C:Int)))=false->PX [] Xh #[.pointer b,.agg #[.bool h,I u,.string n,I j,I i,I q,I D,I l,I x,I E,I t,S r y A,S s B o,S z d p]] w (.bool G))/\Bf ((true||((d:Int) != (C:Int)))||(!G)) (R (.bool false) w) (Qz (a+1)/\k [I (a+1)]/\f [I (a+1)]<f [I a])))) (b.isSome/\∃K Q a2,Q2 [] w b (0+3) [S K Q a2]/\Ix K Q 0/\∃(b5:Bool) (b6:Int) (b2:ByteArray) (O N a0 b7 a7 P a8 b3:Int) (T:OA) (b0 Y:Nat) (U:OA) (a9 a3:Nat) (a5:OA) (V a6:Nat),Q2 [] w K (Int.toNat 0*14) [.bool b5,I b6,.string b2,I O,I N,I a0,I b7,I a7,I P,I a8,I b3,S T b0 Y,S U a9 a3,S a5 V a6]/\NB w λZ=>R (.bool (((O==10)&&(N==15))&&(P==0))) w)
def K9(a):YL (K3 a) YY #[.pointer a]:=pV [] false [(2,⟨[(11,Ri)],[],[0,9,10],[],[]⟩)] Tryz.func36 Qk Qk
def Hc(b:OA)(c:Int)(w:Wo)(R:RT):=NB w λa=>R (.agg #[.pointer b,I c]) w
def D6(a b):YL (Hc a b) ZY #[.pointer a,I b]:=pV [] false [] Tryz.func16 Qk Qk
def Hg(f:OA)(g c:Int)(w:Wo)(R:RT):=NB w λi=>f.isSome/\∃a d h,Q2 [] w f (0+3) [S a d h]/\Ix a d c/\∃b e j,Q2 [] w a (c.toNat*14+13) [S b e j]/\Ix b e g/\R (.pointer (b.map (·.add (g.toNat*5)))) w
def Da(a b c):YL (Hg a b c) QU #[.agg #[.pointer a,I b],I c]:=pV [] false [] Tryz.func63 Qk Qk
def q8(b:Int)(w:Wo)(R:RT):=∃a,PX [] Qx #[I b,I (-10),I 9] w (.bool a)/\R (.bool a) w
def zbe(a):YL (q8 a) Vj #[I a]:=pV [] false [] Tryz.func79 Qk Qk
def q7(b:Int)(w:Wo)(R:RT):=∃a,PX [] Qx #[I b,I 0,I 8000000] w (.bool a)/\R (.bool a) w
def zbd(a):YL (q7 a) OK #[I a]:=pV [] false [] Tryz.func80 Qk Qk
def He(d b:Int)(w:Wo)(R:RT):=∃a,PX [] Jo #[I d] w (.bool a)/\∃c,(a->PX [] Qx #[I b,I 0,I 3] w (.bool c))/\((a&&c)->0<=b)/\R (.bool ((a&&c)&&((VK .and .i64 (Int.fdiv d (2 ^ (min (b.toNat) 64))) 1)==1))) w
def D8(a b):YL (He a b) UI #[I a,I b]:=pV [] false [] Tryz.func113 Qk Qk
def NC(c b:Int)(w:Wo)(R:RT):=∃a,PX [] UI #[I c,I b] w (.bool a)/\R (.bool a) w
def C9(a b):YL (NC a b) O0 #[I a,I b]:=pV [] false [] Tryz.func81 Qk Qk
def NA(c d:Int)(w:Wo)(R:RT):=∃a,PX [] JG #[I c] w (.bool a)/\∃b,((!a)=false->PX [] JG #[I d] w (.bool b))/\Bf ((!a)||(!b)) (R (I 0) w) (R (I (VK .and .i64 c d)) w)
def C8(a b):YL (NA a b) J6 #[I a,I b]:=pV [] false [] Tryz.func146 Qk Qk
def Hd(b:OA)(r:Int)(w:Wo)(R:RT):=∃m,PX [] YD #[.pointer b] w (I m)/\∃(i:LP) (o:LN),i [I r,I m]/\∀(a c:Int),i [I a,I c]->Bf (a != 0) (b.isSome/\∃d k t,Q2 [] w b (0+3) [S d k t]/\Ix d k a/\∃n,Q2 [] w d (a.toNat*14+4) [I n]/\∃g,PX [] J6 #[I c,I n] w (I g)/\b.isSome/\∃e p s,Q2 [] w b (0+3) [S e p s]/\Ix e p a/\∃f,Q2 [] w e (a.toNat*14+1) [I f]/\i [I f,I g]/\o [I f,I g]<o [I a,I c]) (b.isSome/\∃h j u,Q2 [] w b (0+3) [S h j u]/\Ix h j 0/\∃q,Q2 [] w h (Int.toNat 0*14+4) [I q]/\∃l,PX [] J6 #[I c,I q] w (I l)/\R (I l) w)
def D7(a b):YL (Hd a b) UH #[.pointer a,I b]:=pV [] false [(2,⟨[(1,Ri),(5,Ri)],[],[0],[],[]⟩)] Tryz.func145 Qk Qk
def Mk(c:OA)(f e:Int)(w:Wo)(R:RT):=∃a,PX [] UH #[.pointer c,I e] w (I a)/\∃b,PX [] J6 #[I f,I a] w (I b)/\Bf (b != 0) (R (I b) w) (Bf (a != 0) (R (I a) w) (∃d,PX [] YD #[.pointer c] w (I d)/\R (I d) w))
def MA(a b c):YL (Mk a b c) XH #[.pointer a,I b,I c]:=pV [] false [] Tryz.func114 Qk Qk
def Kb(a:OA)(b:Int)(w:Wo)(R:RT):=a.isSome/\∃c h k,Q2 [] w a (0+2) [S c h k]/\Ix c h b/\∃g,Q2 [] w c (b.toNat*9+4) [I g]/\a.isSome/\∃d e j,Q2 [] w a (0+2) [S d e j]/\Ix d e b/\∃i,Q2 [] w d (b.toNat*9+1) [I i]/\∃f,PX [] XH #[.pointer a,I g,I i] w (I f)/\R (I f) w
def KM(a b):YL (Kb a b) Jl #[.pointer a,I b]:=pV [] false [] Tryz.func82 Qk Qk
def Gj(w:Wo)(R:RT):=NB w λY=>NB w λZ=>∃(F:LP) (X:LN),F [I 1,I 0,I 0,I 0,I 0,I 0,I 0,I 0,I 0,I 0,I 0,I 0,I 0,I 0,I 0,I 0,I 0,I 0,I 0,I 0,I 0,I 0]/\∀(a c s g f v m i h d k o j e q u l t n b p r:Int),F [I a,I c,I s,I g,I f,I v,I m,I i,I h,I d,I k,I o,I j,I e,I q,I u,I l,I t,I n,I b,I p,I r]->Bf (decide (a<=20)) ((a≠0/\Qz (Int.tdiv 232792560 a))/\(0<=a/\a<(21:Int))/\(a.toNat+0<21)/\∃B O U D x T Q J y A N G z E C P H L M V K,([I c,I s,I g,I f,I v,I m,I i,I h,I d,I k,I o,I j,I e,I q,I u,I l,I t,I n,I b,I p,I r]:LV).set (a.toNat+0) (I (Int.tdiv 232792560 a))=[I B,I O,I U,I D,I x,I T,I Q,I J,I y,I A,I N,I G,I z,I E,I C,I P,I H,I L,I M,I V,I K]/\Qz (a+1)/\F [I (a+1),I B,I O,I U,I D,I x,I T,I Q,I J,I y,I A,I N,I G,I z,I E,I C,I P,I H,I L,I M,I V,I K]/\X [I (a+1),I B,I O,I U,I D,I x,I T,I Q,I J,I y,I A,I N,I G,I z,I E,I C,I P,I H,I L,I M,I V,I K]<X [I a,I c,I s,I g,I f,I v,I m,I i,I h,I d,I k,I o,I j,I e,I q,I u,I l,I t,I n,I b,I p,I r]) (R (.agg #[I c,I s,I g,I f,I v,I m,I i,I h,I d,I k,I o,I j,I e,I q,I u,I l,I t,I n,I b,I p,I r]) w)
def GR:YL Gj Uc #[]:=pV [] false [(3,⟨[(2,.int .i64)],[(1,[.int .i64,.int .i64,.int .i64,.int .i64,.int .i64,.int .i64,.int .i64,.int .i64,.int .i64,.int .i64,.int .i64,.int .i64,.int .i64,.int .i64,.int .i64,.int .i64,.int .i64,.int .i64,.int .i64,.int .i64,.int .i64])],[0,1],[],[]⟩)] Tryz.func116 Qk Qk
def Ge(d b:Int)(w:Wo)(R:RT):=∃a,PX [] Qx #[I d,I 0,I 100000000] w (.bool a)/\∃e,((!a)=false->PX [] XI #[I b] w (.bool e))/\Bf ((!a)||(!e)) (R (I 0) w) (∃t i h z j g s m A p v x o k l r n y f u q,PX [] Uc #[] w (.agg #[I t,I i,I h,I z,I j,I g,I s,I m,I A,I p,I v,I x,I o,I k,I l,I r,I n,I y,I f,I u,I q])/\∃c,(0<=b/\b<(21:Int)/\(#[I t,I i,I h,I z,I j,I g,I s,I m,I A,I p,I v,I x,I o,I k,I l,I r,I n,I y,I f,I u,I q]:Array Va)[Int.toNat b]? = some (I c))/\Qz (d*c)/\R (I (d*c)) w)
def GN(a b):YL (Ge a b) YW #[I a,I b]:=pV [] false [] Tryz.func87 Qk Qk
def Nz(b:Int)(w:Wo)(R:RT):=∃a,PX [] YW #[I 149,I b] w (I a)/\R (I a) w
def C7(a):YL (Nz a) TZ #[I a]:=pV [] false [] Tryz.func115 Qk Qk
def q9(b a d:Int)(w:Wo)(R:RT):=((decide (b>=a))->Qz (b-a))/\∃c,((decide (b>=a))->PX [] TZ #[I d] w (I c))/\R (.bool ((decide (b>=a))&&(decide (b-a<=c)))) w
def zbf(a b c):YL (q9 a b c) Vk #[I a,I b,I c]:=pV [] false [] Tryz.func83 Qk Qk
def FA(a:Int)(w:Wo)(R:RT):=∃b,PX [] Vj #[I a] w (.bool b)/\Bf (!b) (R (I 0) w) (Qz (10-a)/\R (I (10-a)) w)
def BQ(a):YL (FA a) JV #[I a]:=pV [] false [] Tryz.func84 Qk Qk
def Ke(c:OA)(w:Wo)(R:RT):=c.isSome/\∃C r O,Q2 [] w c (0+2) [S C r O]/\∃(m:LP) (d:LN),m [I 0]/\∀(b:Int),m [I b]->Bf (decide (b<(r:Int))) (Ix C r b/\∃a k f l o i s q p,Q2 [] w C (b.toNat*9) [I a,I k,I f,I l,I o,I i,I s,I q,I p]/\NB w λP=>∃u,(∀G,((do eqGuard .eql QR (.tmp 16) (.tmp 17) (.agg #[I a,I k,I f,I l,I o,I i,I s,I q,I p]) (.agg #[I 0,I 0,I 0,I 0,I 0,I 0,I 0,I 0,I 0]);binOp .eql QR (.agg #[I a,I k,I f,I l,I o,I i,I s,I q,I p]) (.agg #[I 0,I 0,I 0,I 0,I 0,I 0,I 0,I 0,I 0])):Sem Va).run Tryz.prog G=.ok (.bool u) G)/\Bf u (Qz (b+1)/\m [I (b+1)]/\d [I (b+1)]<d [I b]) ((((a != 1)&&(a != 2))=false->c.isSome)/\∃J F K,(((a != 1)&&(a != 2))=false->Q2 [] w c (0+3) [S J F K])/\∃h,(((a != 1)&&(a != 2))=false->PX [] Jp #[S J F K,I k] w (.bool h))/\∃n,((((a != 1)&&(a != 2))||(!h))=false->PX [] Vj #[I l] w (.bool n))/\∃x,(((((a != 1)&&(a != 2))||(!h))||(!n))=false->PX [] JX #[I o] w (.bool x))/\Bf (((((a != 1)&&(a != 2))||(!h))||(!n))||(!x)) (R (.bool false) w) (NB w λD=>∃e,(∀E,Q0 [] w E->E.heap[D]? = some (Obj.cells ([I i,I s,I q]:LV).toArray Qc (0,0))->PX [] ZA #[S (some (Addr.mk D 0 none)) 3 3] E (.bool e))/\∃j,((!e)=false->PX [] OK #[I p] w (.bool j))/\∃L,(((!e)||(!j))=false->PX [] Jl #[.pointer c,I b] w (I L))/\∃z,(((!e)||(!j))=false->PX [] O0 #[I L,I f] w (.bool z))/\Bf (((!e)||(!j))||(!z)) (R (.bool false) w) (∃H N,PX [] ZY #[.pointer c,I f] w (.agg #[.pointer H,I N])/\∃y,PX [] QU #[.agg #[.pointer H,I N],I k] w (.pointer y)/\y.isSome/\∃v,Q2 [] w y (0+0) [I v]/\((a==1)->NB w λA=>∃g,((a==1)->∀t,Q0 [] w t->t.heap[A]? = some (Obj.cells ([I v]:LV).toArray Qc (0,0))->PX [] ZA #[S (some (Addr.mk A 0 none)) 1 1] t (.bool g))/\∃M,((!g)=false->(a==1)->PX [] JV #[I l] w (I M))/\∃B,((!g)=false->(a==1)->PX [] Vk #[I i,I v,I M] w (.bool B))/\Bf ((a==1)&&((!g)||(!B))) (R (.bool false) w) (Qz (b+1)/\m [I (b+1)]/\d [I (b+1)]<d [I b]))/\(((a==1)->False)->Bf false (R (.bool false) w) (Qz (b+1)/\m [I (b+1)]/\d [I (b+1)]<d [I b])))))) (R (.bool true) w)
def KP(a):YL (Ke a) Xj #[.pointer a]:=pV [] false [(2,⟨[(11,Ri)],[],[0,9,10],[],[]⟩)] Tryz.func37 Qk Qk
def Gi(f:OA)(o b i:Int)(w:Wo)(R:RT):=NB w λk=>f.isSome/\∃a d q,Q2 [] w f (0+2) [S a d q]/\Ix a d b/\∃g c e r h j p l n,Q2 [] w a (b.toNat*9) [I g,I c,I e,I r,I h,I j,I p,I l,I n]/\NB w λm=>R (.bool (((g==1)&&(c==i))&&(e==o))) w
def GQ(a b c d):YL (Gi a b c d) XF #[.agg #[.pointer a,I b],I c,I d]:=pV [] false [] Tryz.func88 Qk Qk
def Hf(c:OA)(n a e:Int)(w:Wo)(R:RT):=NB w λm=>((a != 0)->c.isSome)/\∃f j l,((a != 0)->Q2 [] w c (0+3) [S f j l])/\((a != 0)->Ix f j a)/\∃b,((a != 0)->Q2 [] w f (a.toNat*14+0) [.bool b])/\(((a != 0)&&b)->c.isSome)/\∃g i o,(((a != 0)&&b)->Q2 [] w c (0+3) [S g i o])/\(((a != 0)&&b)->Ix g i a)/\∃d,(((a != 0)&&b)->Q2 [] w g (a.toNat*14+1) [I d])/\∃h,((((a != 0)&&b)&&(d==e))->PX [] QU #[.agg #[.pointer c,I n],I a] w (.pointer h))/\((((a != 0)&&b)&&(d==e))->h.isSome)/\∃k,((((a != 0)&&b)&&(d==e))->Q2 [] w h (0+1) [.bool k])/\R (.bool ((((a != 0)&&b)&&(d==e))&&k)) w
def D9(a b c d):YL (Hf a b c d) XY #[.agg #[.pointer a,I b],I c,I d]:=pV [] false [] Tryz.func89 Qk Qk
def Gf(c:OA)(l j:Int)(w:Wo)(R:RT):=NB w λq=>c.isSome/\∃p h r,Q2 [] w c (0+2) [S p h r]/\∃(d:LP) (k:LN),d [I 0]/\∀(a:Int),d [I a]->Bf (decide (a<(h:Int))) (∃e,PX [] XF #[.agg #[.pointer c,I l],I a,I j] w (.bool e)/\Bf e (R (.bool true) w) (Qz (a+1)/\d [I (a+1)]/\k [I (a+1)]<k [I a])) (c.isSome/\∃o f n,Q2 [] w c (0+3) [S o f n]/\∃(i:LP) (m:LN),i [I 0]/\∀(b:Int),i [I b]->Bf (decide (b<(f:Int))) (∃g,PX [] XY #[.agg #[.pointer c,I l],I b,I j] w (.bool g)/\Bf g (R (.bool true) w) (Qz (b+1)/\i [I (b+1)]/\m [I (b+1)]<m [I b])) (R (.bool false) w))
def GO(a b c):YL (Gf a b c) Ub #[.agg #[.pointer a,I b],I c]:=pV [] false [(2,⟨[(13,Ri)],[],[1,2,12],[],[]⟩),(8,⟨[(27,Ri)],[],[1,2,26],[],[]⟩)] Tryz.func85 Qk Qk
def FE(h:OA)(i d:Int)(w:Wo)(R:RT):=NB w λl=>h.isSome/\∃b e j,Q2 [] w h (0+3) [S b e j]/\Ix b e d/\∃a o m r n p c g q,Q2 [] w b (d.toNat*14+8) [I a,I o,I m,S r n p,S c g q]/\NB w λk=>((decide (a>0))->Ix c g i)/\∃f,((decide (a>0))->Q2 [] w c (i.toNat*1) [.bool f])/\R (.bool ((decide (a>0))&&f)) w
def BT(a b c):YL (FE a b c) T0 #[.agg #[.pointer a,I b],I c]:=pV [] false [] Tryz.func86 Qk Qk
def Ml(n:OA)(w:Wo)(R:RT):=n.isSome/\∃x r b1,Q2 [] w n (0+3) [S x r b1]/\∃(J:LP) (X:LN),J [I 0]/\∀(g:Int),J [I g]->Bf (decide (g<(r:Int))) (Ix x r g/\∃(c4:Bool) (b3:Int) (a1:ByteArray) (b8 b0 a5 c5 c2 b4 c7 b2:Int) (a7:OA) (b5 b7:Nat) (a9:OA) (b9 a2:Nat) (F:OA) (t a3:Nat),Q2 [] w x (g.toNat*14) [.bool c4,I b3,.string a1,I b8,I b0,I a5,I c5,I c2,I b4,I c7,I b2,S a7 b5 b7,S a9 b9 a2,S F t a3]/\NB w λa6=>∃(B:LP) (V:LN),B [I 0]/\∀(i:Int),B [I i]->Bf (decide (i<(t:Int))) (Ix F t i/\∃a0 b6 Z U O,Q2 [] w F (i.toNat*5) [I a0,.bool b6,I Z,I U,I O]/\NB w λc1=>NB w λy=>∃s,(∀K,Q0 [] w K->K.heap[y]? = some (Obj.cells ([I a0,I Z,I O]:LV).toArray Qc (0,0))->PX [] ZA #[S (some (Addr.mk y 0 none)) 3 3] K (.bool s))/\∃H,((!s)=false->PX [] XI #[I U] w (.bool H))/\Bf ((!s)||(!H)) (R (.bool false) w) (Qz (i+1)/\B [I (i+1)]/\V [I (i+1)]<V [I i])) (Qz (g+1)/\J [I (g+1)]/\X [I (g+1)]<X [I g])) (n.isSome/\∃c6 D c0,Q2 [] w n (0+1) [S c6 D c0]/\∃(v:LP) (L:LN),v [I 0]/\∀(j:Int),v [I j]->Bf (decide (j<(D:Int))) (∃f m,PX [] ZY #[.pointer n,I j] w (.agg #[.pointer f,I m])/\NB w λa4=>∃k,PX [] QU #[.agg #[.pointer f,I m],I 0] w (.pointer k)/\k.isSome/\∃l,Q2 [] w k (0+1) [.bool l]/\(l=false->k.isSome)/\∃o,(l=false->Q2 [] w k (0+2) [I o])/\((l||(o != 0))=false->k.isSome)/\∃C,((l||(o != 0))=false->Q2 [] w k (0+3) [I C])/\Bf ((l||(o != 0))||(C != 10)) (R (.bool false) w) (∃(p:LP) (q:LN),p [I 1]/\∀(a:Int),p [I a]->Bf (decide (a<8)) (f.isSome/\∃z Y a8,Q2 [] w f (0+3) [S z Y a8]/\Ix z Y a/\∃u,Q2 [] w z (a.toNat*14+0) [.bool u]/\Bf (!u) (Qz (a+1)/\p [I (a+1)]/\q [I (a+1)]<q [I a]) (∃h,PX [] QU #[.agg #[.pointer f,I m],I a] w (.pointer h)/\h.isSome/\∃c,Q2 [] w h (0+1) [.bool c]/\∃b,PX [] Ub #[.agg #[.pointer f,I m],I a] w (.bool b)/\∃d,(b->PX [] T0 #[.agg #[.pointer f,I m],I a] w (.bool d))/\((!(c==(b&&(!d))))=false->h.isSome)/\∃e,((!(c==(b&&(!d))))=false->Q2 [] w h (0+1) [.bool e])/\(e->(!(c==(b&&(!d))))=false->h.isSome)/\∃P,(e->(!(c==(b&&(!d))))=false->Q2 [] w h (0+2) [I P])/\(e->(!(c==(b&&(!d))))=false->f.isSome)/\∃E M c3,(e->(!(c==(b&&(!d))))=false->Q2 [] w f (0+3) [S E M c3])/\(e->(!(c==(b&&(!d))))=false->Ix E M a)/\∃T,(e->(!(c==(b&&(!d))))=false->Q2 [] w E (a.toNat*14+1) [I T])/\∃G,(e->(!(c==(b&&(!d))))=false->PX [] QU #[.agg #[.pointer f,I m],I T] w (.pointer G))/\(e->(!(c==(b&&(!d))))=false->G.isSome)/\∃N,(e->(!(c==(b&&(!d))))=false->Q2 [] w G (0+0) [I N])/\(e->(!(c==(b&&(!d))))=false->h.isSome)/\∃Q,(e->(!(c==(b&&(!d))))=false->Q2 [] w h (0+3) [I Q])/\∃A,(e->(!(c==(b&&(!d))))=false->PX [] Vk #[I P,I N,I Q] w (.bool A))/\Bf ((!(c==(b&&(!d))))||(e&&(!A))) (R (.bool false) w) (Qz (a+1)/\p [I (a+1)]/\q [I (a+1)]<q [I a]))) (Qz (j+1)/\v [I (j+1)]/\L [I (j+1)]<L [I j]))) (R (.bool true) w))
def MB(a):YL (Ml a) YN #[.pointer a]:=pV [] false [(2,⟨[(17,Ri)],[],[0,15,16],[],[]⟩),(5,⟨[(24,Ri)],[],[0,15,16,17,22,23],[],[]⟩),(12,⟨[(50,Ri)],[],[0,49],[],[]⟩),(19,⟨[(10,Ri)],[],[0,8,49,50],[],[]⟩)] Tryz.func38 Qk Qk
def Mm(b:OA)(c:Int)(w:Wo)(R:RT):=b.isSome/\∃h e j,Q2 [] w b (0+2) [S h e j]/\Qz ((e:Int)-1)/\∃a,PX [] Qx #[I c,I 0,I ((e:Int)-1)] w (.bool a)/\(a->b.isSome)/\∃d f i,(a->Q2 [] w b (0+2) [S d f i])/\(a->Ix d f c)/\∃g,(a->Q2 [] w d (c.toNat*9+0) [I g])/\R (.bool (a&&(g != 0))) w
def MC(a b):YL (Mm a b) YO #[.pointer a,I b]:=pV [] false [] Tryz.func28 Qk Qk
def Gg(b:OA)(j n:Int)(w:Wo)(R:RT):=NB w λs=>b.isSome/\∃h p q,Q2 [] w b (0+2) [S h p q]/\Ix h p n/\∃k o c x t r A z v,Q2 [] w h (n.toNat*9) [I k,I o,I c,I x,I t,I r,I A,I z,I v]/\NB w λy=>Bf ((k != 1)||(c != j)) (R (.bool false) w) (∃(i:LP) (m:LN),i [I o]/\∀(a:Int),i [I a]->Bf (a != 0) (∃d,PX [] QU #[.agg #[.pointer b,I j],I a] w (.pointer d)/\d.isSome/\∃f,Q2 [] w d (0+1) [.bool f]/\Bf (!f) (R (.bool false) w) (b.isSome/\∃e l u,Q2 [] w b (0+3) [S e l u]/\Ix e l a/\∃g,Q2 [] w e (a.toNat*14+1) [I g]/\i [I g]/\m [I g]<m [I a])) (R (.bool true) w))
def GP(a b c):YL (Gg a b c) XE #[.agg #[.pointer a,I b],I c]:=pV [] false [(5,⟨[(6,Ri)],[],[2],[],[]⟩)] Tryz.func29 Qk Qk
def Lu(b:OA)(w:Wo)(R:RT):=b.isSome/\∃M q a8,Q2 [] w b (0+1) [S M q a8]/\∃(u:LP) (p:LN),u [I 0]/\∀(a:Int),u [I a]->Bf (decide (a<(q:Int))) (Ix M q a/\∃f c e t o,Q2 [] w M (a.toNat*5) [.bool f,I c,I e,I t,I o]/\NB w λa4=>NB w λJ=>∃G,(∀K,Q0 [] w K->K.heap[J]? = some (Obj.cells ([I t,I o]:LV).toArray Qc (0,0))->PX [] ZA #[S (some (Addr.mk J 0 none)) 2 2] K (.bool G))/\Bf (!G) (R (.bool false) w) (Bf ((c==(-1))&&(e==0)) (Qz (a+1)/\u [I (a+1)]/\p [I (a+1)]<p [I a]) (∃l k,PX [] ZY #[.pointer b,I a] w (.agg #[.pointer l,I k])/\NB w λa5=>∃h,((!f)=false->PX [] YO #[.pointer b,I c] w (.bool h))/\∃v,(((!f)||(!h))=false->PX [] XE #[.agg #[.pointer l,I k],I c] w (.bool v))/\∃y,((((!f)||(!h))||(!v))=false->PX [] Qx #[I e,I 1,I 149] w (.bool y))/\Bf ((((!f)||(!h))||(!v))||(!y)) (R (.bool false) w) (b.isSome/\∃i L O,Q2 [] w b (0+2) [S i L O]/\Ix i L c/\∃a0 s Z D P g Q a1 X,Q2 [] w i (Int.toNat c*9) [I a0,I s,I Z,I D,I P,I g,I Q,I a1,I X]/\NB w λa3=>Q2 [] w i (Int.toNat c*9) [I a0,I s,I Z,I D,I P,I g,I Q,I a1,I X]/\(some (ZE,([.bool f,I c,I e,I t,I o]:LV))=some (ZE,([.bool f,I c,I e,I t,I o]:LV)))/\Q2 [] w b (0+2) [S i L O]/\∃x,PX [] QU #[.agg #[.pointer l,I k],I s] w (.pointer x)/\x.isSome/\∃m,Q2 [] w x (0+0) [I m]/\Qz (g-m)/\∃a2,PX [] JV #[I D] w (I a2)/\∃z,PX [] YW #[I e,I a2] w (I z)/\Bf (decide (g-m>z)) (R (.bool false) w) (∃(E:LP) (V:LN),E [I s]/\∀(d:Int),E [I d]->Bf (d != 0) (∃j,PX [] QU #[.agg #[.pointer l,I k],I d] w (.pointer j)/\j.isSome/\∃n,Q2 [] w j (0+2) [I n]/\b.isSome/\∃A N a7,Q2 [] w b (0+3) [S A N a7]/\Ix A N d/\∃T,Q2 [] w A (d.toNat*14+1) [I T]/\∃H,PX [] QU #[.agg #[.pointer l,I k],I T] w (.pointer H)/\H.isSome/\∃r,Q2 [] w H (0+0) [I r]/\Qz (n-r)/\j.isSome/\∃U,Q2 [] w j (0+3) [I U]/\∃B,PX [] YW #[I e,I U] w (I B)/\Bf (decide (n-r>B)) (R (.bool false) w) (b.isSome/\∃C Y a6,Q2 [] w b (0+3) [S C Y a6]/\Ix C Y d/\∃F,Q2 [] w C (d.toNat*14+1) [I F]/\E [I F]/\V [I F]<V [I d])) (Qz (a+1)/\u [I (a+1)]/\p [I (a+1)]<p [I a])))))) (R (.bool true) w)
def LG(a):YL (Lu a) Xn #[.pointer a]:=pV [] false [(2,⟨[(14,Ri)],[],[0,12,13],[],[]⟩),(14,⟨[(7,Ri)],[],[0,4,5,12,13,14],[],[]⟩)] Tryz.func39 Qk Qk
def ND(v:Int)(u:OA)(r s:Nat)(p:OA)(z y:Nat)(x:OA)(A t:Nat)(w:Wo)(R:RT):=∀e f,Q0 [] w f->w.heap.size<=e->f.heap[e]? = some (Obj.cells ([I v,S u r s,S p z y,S x A t]:LV).toArray Q4 (0,0))->e∉([]:List Nat)->NB f λb=>∃(h:LQ) (l:LM),(AX [] [b] f λq=>h [.bool true,I 0] q)/\∀(d:Bool) (a:Int) c,(∀bq∈[b],bq<c.heap.size)->h [.bool d,I a] c->Bf (decide (a<5)) (∃(m:Fn) (n:Array Va) (o:Array Va),(0<=a/\a<(5:Int)/\(#[.func (.func Xi) #[] #[],.func (.func YY) #[] #[],.func (.func Xj) #[] #[],.func (.func YN) #[] #[],.func (.func Xn) #[] #[]]:Array Va)[Int.toNat a]? = some (.func m n o))/\AY [b] c λj=>zb2 Tryz.prog (.func m n o) [.pointer ((some (Addr.mk e 0 none)).map (·.add 0))] j λB i=>∃g,B=.returned (.bool g)/\Q9 [b] j i/\Bf (!g) (AR [b] i R (.bool false)) (Qz (a+1)/\AY [b] i λk=>h [.bool d,I (a+1)] k/\l [.bool d,I (a+1)] k<l [.bool d,I a] c)) (AR [b] c R (.bool d))
def A6(a b c d e f g h i j):U8 (ND a b c d e f g h i j) Uq #[Wv a b c d e f g h i j]:=eV [1] false [(4,⟨[(4,.bool),(9,Ri)],[],[1,8],[],[]⟩)] Tryz.func14 Qk Qk
def K2(c:OA)(e:Int)(w:Wo)(R:RT):=c.isSome/\∃f a d,Q2 [] w c (0+1) [S f a d]/\Qz ((a:Int)-1)/\∃b,PX [] Qx #[I e,I 0,I ((a:Int)-1)] w (.bool b)/\R (.bool b) w
def K8(a b):YL (K2 a b) XX #[.pointer a,I b]:=pV [] false [] Tryz.func15 Qk Qk
def FD(c:OA)(d:Int)(w:Wo)(R:RT):=NB w λf=>c.isSome/\∃a b e,Q2 [] w c (0+1) [S a b e]/\Ix a b d/\R (.pointer (a.map (·.add (d.toNat*5)))) w
def BS(a b):YL (FD a b) VZ #[.agg #[.pointer a,I b]]:=pV [] false [] Tryz.func41 Qk Qk
def Lw(k:OA)(H M:Int)(w:Wo)(R:RT):=NB w λa=>k.isSome/\∃G t a9,Q2 [] w k (0+2) [S G t a9]/\∃(s:LQ) (r:LM),(AX [] [a] w λa8=>s [S none 0 0,I 0] a8)/\∀(l:OA) (i j:Nat) (b:Int) d,(∀bq∈[a],bq<d.heap.size)->s [S l i j,I b] d->Bf (decide (b<(t:Int))) (Ix G t b/\∃a6 X N a1 V P a7 a4 Z,Q2 [a] d G (b.toNat*9) [I a6,I X,I N,I a1,I V,I P,I a7,I a4,I Z]/\NB d λo=>∃B,PX [a] XF #[.agg #[.pointer k,I H],I b,I M] d (.bool B)/\Bf B (NB d λn=>AX [a] [a,o,n] d λu=>u.heap[n]? = some (Obj.cells ([.iface Xf (.agg #[I b,I a6,I X,I N,I a1,I V,I P,I a7,I a4,I Z])]:LV).toArray Zg (0,0))->∃z F C,∃D,(builtin .append #[Zu,Zu] Zu #[false,false] #[S l i j,S (some (Addr.mk n 0 none)) 1 1]).run Tryz.prog u=.ok (.value (S z F C)) D/\Q9 [a,o,n] u D/\Qz (b+1)/\AY [a,o,n] D λO=>s [S z F C,I (b+1)] O/\r [S z F C,I (b+1)] O<r [S l i j,I b] d) (Qz (b+1)/\AX [a] [a,o] d λT=>s [S l i j,I (b+1)] T/\r [S l i j,I (b+1)] T<r [S l i j,I b] d)) (k.isSome/\∃b0 x b2,Q2 [a] d k (0+3) [S b0 x b2]/\∃(p:LQ) (q:LM),(AY [a] d λb1=>p [S l i j,I 0] b1)/\∀(h:OA) (g f:Nat) (c:Int) e,(∀bq∈[a],bq<e.heap.size)->p [S h g f,I c] e->Bf (decide (c<(x:Int))) (∃K,PX [a] XY #[.agg #[.pointer k,I H],I c,I M] e (.bool K)/\Bf K (∃A,PX [a] QU #[.agg #[.pointer k,I H],I c] e (.pointer A)/\A.isSome/\∃a3 Y a2 U Q,Q2 [a] e A 0 [I a3,.bool Y,I a2,I U,I Q]/\NB e λm=>AX [a] [a,m] e λv=>v.heap[m]? = some (Obj.cells ([.iface XG (.agg #[I c,I a3,.bool Y,I a2,I U,I Q])]:LV).toArray Zg (0,0))->∃L y E,∃J,(builtin .append #[Zu,Zu] Zu #[false,false] #[S h g f,S (some (Addr.mk m 0 none)) 1 1]).run Tryz.prog v=.ok (.value (S L y E)) J/\Q9 [a,m] v J/\Qz (c+1)/\AY [a,m] J λa0=>p [S L y E,I (c+1)] a0/\q [S L y E,I (c+1)] a0<q [S h g f,I c] e) (Qz (c+1)/\AY [a] e λa5=>p [S h g f,I (c+1)] a5/\q [S h g f,I (c+1)] a5<q [S h g f,I c] e)) (AR [a] e R (S h g f)))
def LA(a b c):U8 (Lw a b c) JH #[.agg #[.pointer a,I b],I c]:=eV [] false [(3,⟨[(5,Rs),(15,Ri)],[],[1,2,13,14],[],[]⟩),(9,⟨[(5,Rs),(38,Ri)],[],[1,2,37],[],[]⟩)] Tryz.func42 Qk Qk
def Ji(e:OA)(d u:Nat)(p:Fn)(t:Array Va)(r:Array Va)(w:Wo)(R:RT):=Bf (decide ((d:Int)<1)) (False) (Ix e d 0/\∃(o:Va),Q2 [] w e (Int.toNat 0*1) [o]/\∃(g:LQ) (f:LM),(AY [] w λq=>g [o,I 1] q)/\∀(c:Va) (a:Int) b,(∀bq∈([]:List Nat),bq<b.heap.size)->g [c,I a] b->Bf (decide (a<(d:Int))) (Ix e d a/\∃(l:Va),Q2 [] b e (a.toNat*1) [l]/\AY [] b λk=>zb2 Tryz.prog (.func p t r) [l,c] k λs h=>∃i,s=.returned (I i)/\Q9 [] k h/\Bf (decide (i<0)) (Ix e d a/\∃(j:Va),Q2 [] h e (a.toNat*1) [j]/\Qz (a+1)/\AY [] h λm=>g [j,I (a+1)] m/\f [j,I (a+1)] m<f [c,I a] b) (Qz (a+1)/\AY [] h λn=>g [c,I (a+1)] n/\f [c,I (a+1)] n<f [c,I a] b)) (AR [] b R c))
def Jj(a b c d e f):U8 (Ji a b c d e f) Zl #[S a b c,.func d e f]:=eV [] false [(5,⟨[(5,.other),(6,Ri)],[],[0,1],[],[]⟩)] Tryz.func43 Qk Qk
def Fz(a:Int)(w:Wo)(R:RT):=R (.bool (a != a)) w
def BP(a):YL (Fz a) JU #[I a]:=pV [] false [] Tryz.func90 Qk Qk
def Hb(b c:Int)(w:Wo)(R:RT):=∃(d:Bool),PX [] JU #[I b] w (.bool d)/\∃a,PX [] JU #[I c] w (.bool a)/\Bf d (Bf a (R (I 0) w) (R (I (-1)) w)) (Bf a (R (I 1) w) (Bf (decide (b<c)) (R (I (-1)) w) (Bf (decide (b>c)) (R (I 1) w) (R (I 0) w))))
def D5(a b):YL (Hb a b) UG #[I a,I b]:=pV [] false [] Tryz.func45 Qk Qk
def Gh (l:Va) (n:Va) (w:Wo) (R:RT):= (AY [] w λb =>  (∃ (j : FuncId) (k : Array Value), (A2 "loop.example/stint/impl.time" l []).run Tryz.prog b = .ok (.enter j k) b ∧ Cz j k b λo e=>(∃g,o=.returned (I g)/\Q9 [] b e/\(AY [] e λa =>  (∃ (h : FuncId) (i : Array Value), (A2 "loop.example/stint/impl.time" n []).run Tryz.prog a = .ok (.enter h i) a ∧ Cz h i a λm c=>(∃d,m=.returned (I d)/\Q9 [] a c/\(∃(f:Int),PX [] UG #[I g,I d] c (I f)/\(AR [] c R (I f)))))))))
def Gu(a b):U8 (Gh a b) Y9 #[a,b]:=eV [] false [] Tryz.func44 Qk Qk
def DH(B:OA)(x:Int)(w:Wo)(R:RT):=NB w λa=>∃b,PX [] VZ #[.agg #[.pointer B,I x]] w (.pointer b)/\b.isSome/\∃l,Q2 [] w b (0+0) [.bool l]/\Bf (!l) (AR [] w R (I (-1))) (b.isSome/\∃f,Q2 [] w b (0+1) [I f]/\((f != (-1))->b.isSome)/\∃o,((f != (-1))->Q2 [] w b (0+2) [I o])/\Bf ((f != (-1))&&(decide (o<50))) (b.isSome/\∃s,Q2 [] w b (0+1) [I s]/\AR [] w R (I s)) (∃(i:LQ) (g:LM),(AX [] [a] w λH=>i [I 0] H)/\∀(c:Int) e,(∀bq∈[a],bq<e.heap.size)->i [I c] e->AY [a] e λv=>Cz JH #[.agg #[.pointer B,I x],I c] v λZ p=>∃y h A,Z=.returned (S y h A)/\Q9 [a] v p/\Bf ((h:Int)==0) (AR [a] p R (I (-1))) (AY [a] p λq=>Cz Zl #[S y h A,.func (.func Y9) #[] #[]] q λX d=>∃(m:Va),X=.returned m/\Q9 [a] q d/\∃z T O F K N L U E G k,(∀r,(Instr.typeAssert m Zg Xf true).run Tryz.prog r=.ok (.tuple #[.agg #[I z,I T,I O,I F,I K,I N,I L,I U,I E,I G],.bool k]) r)/\Bf k (NB d λY=>AR [a] d R (I z)) (∃j P J M Q V n,(∀t,(Instr.typeAssert m Zg XG true).run Tryz.prog t=.ok (.tuple #[.agg #[I j,I P,.bool J,I M,I Q,I V],.bool n]) t)/\Bf n (NB d λu=>AX [a] [a,u] d λC=>i [I j] C/\g [I j] C<g [I c] e) (AY [a] d λD=>i [I c] D/\g [I c] D<g [I c] e)))))
def E5(a b):U8 (DH a b) Vi #[.agg #[.pointer a,I b]]:=eV [] false [(7,⟨[(4,Ri)],[],[1],[],[]⟩)] Tryz.func17 Qk Qk
def DD(y:Int)(x:OA)(t u:Nat)(s:OA)(B A:Nat)(z:OA)(C v:Nat)(n:Int)(w:Wo)(R:RT):=∀b a,Q0 [] w a->w.heap.size<=b->a.heap[b]? = some (Obj.cells ([I y,S x t u,S s B A,S z C v]:LV).toArray Q4 (0,0))->b∉([]:List Nat)->∃p k h j r g e f l m,Q2 [] a (some (Addr.mk b 0 none)) 0 [I p,S k h j,S r g e,S f l m]/\∃c,PX [] Uq #[Wv p k h j r g e f l m] a (.bool c)/\∃d,((!c)=false->PX [] XX #[.pointer ((some (Addr.mk b 0 none)).map (·.add 0)),I n] a (.bool d))/\Bf ((!c)||(!d)) (AR [] a R (I (-1))) (∃q o,PX [] ZY #[.pointer ((some (Addr.mk b 0 none)).map (·.add 0)),I n] a (.agg #[.pointer q,I o])/\∃i,PX [] Vi #[.agg #[.pointer q,I o]] a (I i)/\AR [] a R (I i))
def E4(a b c d e f g h i j k):U8 (DD a b c d e f g h i j k) Vg #[Wv a b c d e f g h i j,I k]:=eV [2] false [] Tryz.func5 Qk Qk
def zfz(g:Int)(d:OA)(b l:Nat)(j:OA)(i h:Nat)(m:OA)(k n:Nat)(c:Int)(w:Wo)(R:RT):=NB w λf=>Qz ((b:Int)-1)/\∃a,PX [] Qg #[I c,I 0,I ((b:Int)-1)] w (.bool a)/\(a->Ix d b c)/\∃e,(a->Q2 [] w d (c.toNat*5+0) [.bool e])/\R (.bool (a&&e)) w
def zg8(a b c d e f g h i j k):YL (zfz a b c d e f g h i j k) Ms #[Wv a b c d e f g h i j,I k]:=pV [] false [] Tryz.func18 Qk Qk
def DQ(c:Int)(b:OA)(h j:Nat)(g:OA)(f d:Nat)(k:OA)(i l:Nat)(m:Int)(w:Wo)(R:RT):=NB w λo=>∃a,PX [] ZF #[Wv c b h j g f d k i l] w (.bool a)/\∃e,((!a)=false->PX [] Ms #[Wv c b h j g f d k i l,I m] w (.bool e))/\Bf ((!a)||(!e)) (R (I (-1)) w) (∃n,PX [] Vy #[Wv c b h j g f d k i l,I m] w (I n)/\R (I n) w)
def EQ(a b c d e f g h i j k):YL (DQ a b c d e f g h i j k) Vs #[Wv a b c d e f g h i j,I k]:=pV [] false [] Tryz.func6 Qk Qk
def NF(e:Int)(d:OA)(b k:Nat)(i:OA)(h g:Nat)(m:OA)(j n:Nat)(l:Int)(w:Wo)(R:RT):=NB w λo=>∃a,PX [] ZF #[Wv e d b k i h g m j n] w (.bool a)/\((!a)=false->Qz ((b:Int)-1))/\∃c,((!a)=false->PX [] Qg #[I l,I 0,I ((b:Int)-1)] w (.bool c))/\Bf ((!a)||(!c)) (R (I 0) w) (∃f,PX [] YU #[Wv e d b k i h g m j n,I l] w (I f)/\R (I f) w)
def Cc(a b c d e f g h i j k):YL (NF a b c d e f g h i j k) O1 #[Wv a b c d e f g h i j,I k]:=pV [] false [] Tryz.func8 Qk Qk
def DC(C:Int)(B:OA)(x y:Nat)(v:OA)(F E:Nat)(D:OA)(G A:Nat)(e:Int)(w:Wo)(R:RT):=∀c a,Q0 [] w a->w.heap.size<=c->a.heap[c]? = some (Obj.cells ([I C,S B x y,S v F E,S D G A]:LV).toArray Q4 (0,0))->c∉([]:List Nat)->∃s l j k u i g h m n,Q2 [] a (some (Addr.mk c 0 none)) 0 [I s,S l j k,S u i g,S h m n]/\∃b,PX [] Uq #[Wv s l j k u i g h m n] a (.bool b)/\∃d,(b->PX [] YO #[.pointer ((some (Addr.mk c 0 none)).map (·.add 0)),I e] a (.bool d))/\∃f p z,((b&&d)->Q2 [] a (some (Addr.mk c 0 none)) (0+2) [S f p z])/\((b&&d)->Ix f p e)/\∃q,((b&&d)->Q2 [] a f (e.toNat*9+2) [I q])/\∃t r,((b&&d)->PX [] ZY #[.pointer ((some (Addr.mk c 0 none)).map (·.add 0)),I q] a (.agg #[.pointer t,I r]))/\∃o,((b&&d)->PX [] XE #[.agg #[.pointer t,I r],I e] a (.bool o))/\AR [] a R (.bool ((b&&d)&&o))
def E3(a b c d e f g h i j k):U8 (DC a b c d e f g h i j k) Vf #[Wv a b c d e f g h i j,I k]:=eV [2] false [] Tryz.func9 Qk Qk
def FH(b0:Int)(b1:OA)(a8 a9:Nat)(Q:OA)(O b3:Nat)(q:OA)(s b2:Nat)(g t:Int)(w:Wo)(R:RT):=NB w λa=>∃(y:LQ) (x:LM),(AX [] [a] w λZ=>y [S none 0 0,I 0] Z)/\∀(h:OA) (i l:Nat) (c:Int) e,(∀bq∈[a],bq<e.heap.size)->y [S h i l,I c] e->Bf (decide (c<(O:Int))) (Ix Q O c/\∃P L C a5 a3 a2 a7 a6 a4,Q2 [a] e Q (c.toNat*9) [I P,I L,I C,I a5,I a3,I a2,I a7,I a6,I a4]/\NB e λr=>Bf (((P==1)&&(L==g))&&(C==t)) (NB e λp=>AX [a] [a,r,p] e λz=>z.heap[p]? = some (Obj.cells ([.bool true,I c]:LV).toArray YB (0,0))->∃D M G,∃H,(builtin .append #[ZK,ZK] ZK #[false,false] #[S h i l,S (some (Addr.mk p 0 none)) 1 1]).run Tryz.prog z=.ok (.value (S D M G)) H/\Q9 [a,r,p] z H/\Qz (c+1)/\AY [a,r,p] H λT=>y [S D M G,I (c+1)] T/\x [S D M G,I (c+1)] T<x [S h i l,I c] e) (Qz (c+1)/\AX [a] [a,r] e λV=>y [S h i l,I (c+1)] V/\x [S h i l,I (c+1)] V<x [S h i l,I c] e)) (∃(u:LQ) (v:LM),(AY [a] e λa1=>u [S h i l,I 1] a1)/\∀(m:OA) (n j:Nat) (b:Int) d,(∀bq∈[a],bq<d.heap.size)->u [S m n j,I b] d->Bf (decide (b<(s:Int))) (Ix q s b/\∃f,Q2 [a] d q (b.toNat*14+0) [.bool f]/\(f->Ix q s b)/\∃k,(f->Q2 [a] d q (b.toNat*14+1) [I k])/\((f&&(k==g))->Ix q s b)/\∃F U a0,((f&&(k==g))->Q2 [a] d q (b.toNat*14+13) [S F U a0])/\((f&&(k==g))->Ix F U t)/\∃E,((f&&(k==g))->Q2 [a] d F (t.toNat*5+1) [.bool E])/\Bf ((f&&(k==g))&&E) (NB d λo=>AX [a] [a,o] d λA=>A.heap[o]? = some (Obj.cells ([.bool false,I b]:LV).toArray YB (0,0))->∃J B K,∃N,(builtin .append #[ZK,ZK] ZK #[false,false] #[S m n j,S (some (Addr.mk o 0 none)) 1 1]).run Tryz.prog A=.ok (.value (S J B K)) N/\Q9 [a,o] A N/\Qz (b+1)/\AY [a,o] N λX=>u [S J B K,I (b+1)] X/\v [S J B K,I (b+1)] X<v [S m n j,I b] d) (Qz (b+1)/\AY [a] d λY=>u [S m n j,I (b+1)] Y/\v [S m n j,I (b+1)] Y<v [S m n j,I b] d)) (AR [a] d R (S m n j)))
def Bc(a b c d e f g h i j k l):U8 (FH a b c d e f g h i j k l) T1 #[Wv a b c d e f g h i j,I k,I l]:=eV [] false [(3,⟨[(7,Rs),(8,Ri)],[],[1,2,3],[],[]⟩),(9,⟨[(7,Rs),(10,Ri)],[],[1,2,3],[],[]⟩)] Tryz.func10 Qk Qk
def k9(b1:OA)(N b3:Nat)(w:Wo)(R:RT):=Bf (decide ((N:Int)>1048576)) (AR [] w R (.bool true)) (CV [] Jm #[S b1 N b3] w λy i h u g m x k q v b p=>NB p λa=>∃j,PX [] Vg #[Wv y i h u g m x k q v,I b] p (I j)/\∃J,PX [] Vs #[Wv y i h u g m x k q v,I b] p (I J)/\Bf (j != J) (AR [] p R (.bool false)) (Bf (decide (j<0)) (∃z,PX [] ZF #[Wv y i h u g m x k q v] p (.bool z)/\((((!z)||(decide (b<0)))||(decide (b>=(h:Int))))=false->Ix i h b)/\∃D,((((!z)||(decide (b<0)))||(decide (b>=(h:Int))))=false->Q2 [] p i (Int.toNat b*5+0) [.bool D])/\∃V,(((((!z)||(decide (b<0)))||(decide (b>=(h:Int))))||(!D))=false->PX [] O1 #[Wv y i h u g m x k q v,I b] p (I V))/\∀a0,Q0 [] p a0->R (.bool (((((!z)||(decide (b<0)))||(decide (b>=(h:Int))))||(!D))||(V==0))) a0) (AX [] [a] p λX=>Cz Vf #[Wv y i h u g m x k q v,I j] X λb5 n=>∃A,b5=.returned (.bool A)/\Q9 [a] X n/\((!A)=false->Ix g m j)/\∃Q,((!A)=false->Q2 [a] n g (Int.toNat j*9+2) [I Q])/\Bf ((!A)||(Q != b)) (AR [a] n R (.bool false)) (Ix i h b/\∃B,Q2 [a] n i (Int.toNat b*5+1) [I B]/\((decide (B>=0))->Ix i h b)/\∃T,((decide (B>=0))->Q2 [a] n i (Int.toNat b*5+2) [I T])/\Bf ((decide (B>=0))&&(decide (T<50))) (Ix i h b/\∃Y,Q2 [a] n i (Int.toNat b*5+1) [I Y]/\AR [a] n R (.bool (j==Y))) (Ix g m j/\∃U,Q2 [a] n g (Int.toNat j*9+5) [I U]/\Ix g m j/\∃a5,Q2 [a] n g (Int.toNat j*9+1) [I a5]/\∃(O:LQ) (a3:LM),(AY [a] n λb7=>O [I U,I a5] b7)/\∀(f o:Int) C,(∀bq∈[a],bq<C.heap.size)->O [I f,I o] C->AY [a] C λa7=>Cz T1 #[Wv y i h u g m x k q v,I o,I b] a7 λb2 a6=>∃s t b4,b2=.returned (S s t b4)/\Q9 [a] a7 a6/\∃(K:LQ) (a2:LM),(AY [a] a6 λb6=>K [I 0] b6)/\∀(e:Int) c,(∀bq∈[a],bq<c.heap.size)->K [I e] c->Bf (decide (e<(t:Int))) (Ix s t e/\∃d,Q2 [a] c s (e.toNat*2+0) [.bool d]/\(d->Ix s t e)/\∃L,(d->Q2 [a] c s (e.toNat*2+1) [I L])/\(d->Ix g m L)/\∃l,(d->Q2 [a] c g (Int.toNat L*9+5) [I l])/\((d&&(decide (l<f)))=false->Ix s t e)/\∃r,((d&&(decide (l<f)))=false->Q2 [a] c s (e.toNat*2+0) [.bool r])/\((!r)->(d&&(decide (l<f)))=false->Ix s t e)/\∃M,((!r)->(d&&(decide (l<f)))=false->Q2 [a] c s (e.toNat*2+1) [I M])/\((!r)->(d&&(decide (l<f)))=false->Ix k q M)/\∃E Z a9,((!r)->(d&&(decide (l<f)))=false->Q2 [a] c k (Int.toNat M*14+13) [S E Z a9])/\((!r)->(d&&(decide (l<f)))=false->Ix E Z b)/\∃G,((!r)->(d&&(decide (l<f)))=false->Q2 [a] c E (Int.toNat b*5+2) [I G])/\Bf ((d&&(decide (l<f)))||((!r)&&(decide (G<f)))) (AR [a] c R (.bool false)) (Qz (e+1)/\AY [a] c λa4=>K [I (e+1)] a4/\a2 [I (e+1)] a4<a2 [I e] c)) (Bf (o==0) (AR [a] c R (.bool true)) (Ix k q o/\∃F a8 b0,Q2 [a] c k (o.toNat*14+13) [S F a8 b0]/\Ix F a8 b/\∃P,Q2 [a] c F (Int.toNat b*5+2) [I P]/\Ix k q o/\∃H,Q2 [a] c k (o.toNat*14+1) [I H]/\AY [a] c λa1=>O [I P,I H] a1/\a3 [I P,I H] a1<a3 [I f,I o] C)))))))
def zan(a b c):U8 (k9 a b c) Ks #[S a b c]:=eV [] false [(15,⟨[(6,Ri),(7,Ri)],[],[3,4],[],[]⟩),(17,⟨[(9,Ri)],[],[3,4,6,7,8],[],[]⟩)] Tryz.func3 Qk Qk
def Mn(g d k j i c a h e f:Int)(w:Wo)(R:RT):=NB w λb=>R (I a) w
def MD(a b c d e f g h i j):YL (Mn a b c d e f g h i j) YP #[.agg #[I a,I b,I c,I d,I e,I f,I g,I h,I i,I j]]:=pV [] false [] Tryz.func191 Qk Qk
def PJ(e d:Int)(g:Bool)(b f c:Int)(w:Wo)(R:RT):=NB w λa=>R (I b) w
def M6(a b c d e f):YL (PJ a b c d e f) Yt #[.agg #[I a,I b,.bool c,I d,I e,I f]]:=pV [] false [] Tryz.func194 Qk Qk
def VX:zj2 Tryz.prog TY 5 YA 40 (⟨0,false,0,0,0⟩:MK):=Mr Qk λ_=>rfl
def MY:Tryz.prog.underlying ZJ=some (.slice YA):=Qk
def Za(b:Jx)(m:MG):List Va:=[I b.R4,I b.Sy,I b.WI,.slice m.lO b.locals.length m.lC,.slice m.dO b.RW.length m.dC]
def U2{a b:ByteArray}:Zt a b=true↔a=b:=by
 unfold Zt;rw[Iu];constructor
 ·intro h
  have h1:∀x:ByteArray,x.toList=x.data.toList:=λx=>by
   have key:∀(n i:Nat) (r:List UInt8),n=x.size-i->ByteArray.toList.loop x i r=r.reverse++x.data.toList.drop i:=by
    intro n
    induction n with
    |zero=>
     intro i r hn;unfold ByteArray.toList.loop;rw[E' Qo,List.drop_eq_nil_iff.2 (by simp only[Array.length_toList];show x.size<=i;omega),List.append_nil]
    |succ n ih=>
     intro i r hn;unfold ByteArray.toList.loop;have hi:i<x.data.toList.length:=by simp only[Array.length_toList];show i<x.size;omega
     rw[H' Qo,ih (i+1) _ Qo,List.reverse_cons,List.append_assoc,List.singleton_append,List.drop_eq_getElem_cons hi]
     have:x.get! i=x.data.toList[i]:=by
      have hi':i<x.data.size:=by simpa using hi
      simp[ByteArray.get!,getElem!_pos x.data i hi']
     rw[this]
   have:=key _ 0 [] rfl
   simpa[ByteArray.toList] using this
  rw[h1,h1] at h
  cases a;cases b
  simp only at h
  congr 1
  exact Array.ext' h
 ·rintro rfl;rfl
def Do(a b:ByteArray):Zt a b=decide (a=b):=by
 cases h:Zt a b with
 |true=>rw[Ij (U2.1 h)]
 |false=>rw[decide_eq_false λe=>by rw[U2.2 e] at h;cases h]
def OG(p:ZL×MG):List Va:=YC p.1 p.2
def TT:ZL×MG:=(⟨false,0,ByteArray.empty,0,0,0,0,0,⟨0,0,0,[],[]⟩,[]⟩,⟨none,0,none,0,none,0⟩)
def X4:zj2 Tryz.prog OG 14 QT 168 TT:=Mr Qk λ_=>rfl
def MX:Tryz.prog.underlying Z1=some (.slice QT):=Qk
def Qw(m:MG):List Nat:=QE m.lO++QE m.dO++QE m.sO
structure Mj (base:Nat) (w:Wo) (p:ZL×MG):Prop where
 loc:Jy Jk 1 Qc base w p.2.lO p.2.lC p.1.IY.locals
 RW:Jy K4 1 YT base w p.2.dO p.2.dC p.1.IY.RW
 shl:Jy TY 5 YA base w p.2.sO p.2.sC p.1.IH
def Mj.ext{base:Nat}{w w':Wo}{p:ZL×MG}{bs:List Nat}(h:Mj base w p)(hx:Q0 bs w w')(hd:∀b∈Qw p.2,b∉bs):Mj base w' p:=
 ⟨h.loc.ext hx λb hb=>hd b (by simp[Qw,hb]),h.RW.ext hx λb hb=>hd b (by simp[Qw,hb]),h.shl.ext hx λb hb=>hd b (by simp[Qw,hb])⟩
def Mj.mono{base aO:Nat}{w:Wo}{p:ZL×MG}(h:Mj base w p)(hb:aO<=base):Mj aO w p:=⟨h.loc.mono hb,h.RW.mono hb,h.shl.mono hb⟩
def Mj.lt{base:Nat}{w:Wo}{p:ZL×MG}(h:Mj base w p):∀b∈Qw p.2,base<=b/\b<w.heap.size:=by
 intro b hb;simp only[Qw,Ip] at hb;rcases hb with (hb|hb)|hb
 ·exact h.loc.lt b hb
 ·exact h.RW.lt b hb
 ·exact h.shl.lt b hb
structure Mi (base:Nat) (w:Wo) (o:OA) (cap:Nat) (ps:List (ZL×MG)):Prop where
 row:Jy OG 14 QT base w o cap ps
 each:∀i:Int,0<=i->i<(ps.length:Int)->Mj base w (gi ps i)
 dj:∀i j:Int,0<=i->i<(ps.length:Int)->0<=j->j<(ps.length:Int)->i≠j->∀b∈Qw (gi ps i).2,b∉Qw (gi ps j).2
def Mi.mono{base aO:Nat}{w:Wo}{o:OA}{cap:Nat}{ps:List (ZL×MG)}(h:Mi base w o cap ps)(hb:aO<=base):Mi aO w o cap ps:=
 ⟨h.row.mono hb,λi a b=>(h.each i a b).mono hb,h.dj⟩
def XU{base:Nat}{w:Wo}{o:OA}{cap:Nat}{ps:List (ZL×MG)}(h:Jy OG 14 QT base w o cap ps){aO:Nat}{p:ZL×MG}(hp:Mj aO w p):∀b∈Qw p.2,b∉QE o:=by
 intro b hb hx;simp only[Qw,Ip] at hb;rcases hb with (hb|hb)|hb
 ·exact hp.loc.WX h Qd b hb hx
 ·exact hp.RW.WX h Qd b hb hx
 ·exact hp.shl.WX h Qd b hb hx
def Mi.put{base:Nat}{w:Wo}{o:OA}{cap:Nat}{ps:List (ZL×MG)}(h:Mi base w o cap ps){i:Int}(h0:0<=i)(hi:i<(ps.length:Int)){p:ZL×MG}(hp:Mj base w p)(hd:∀j:Int,0<=j->j<(ps.length:Int)->i≠j->∀b∈Qw (gi ps j).2,b∉Qw p.2):Mi base (RN w o (Int.toNat i*14) (OG p)) o cap (ps.set i.toNat p):=by
 have hx:=h.row.tN (Int.toNat i*14) (OG p);have hlen:(ps.set i.toNat p).length=ps.length:=I0;refine⟨?_,λj hj hjl=>?_,λj k hj hjl hk mL gY b hb gW=>?_⟩
 ·have:=h.row.RN X4.len h0 hi (j:=0) (vs:=OG p) (x:=p) (by rw[List.take_zero,List.nil_append,List.drop_eq_nil_iff.2 (by rw[Nat.zero_add,X4.len,X4.len];exact I9 _),List.append_nil]) (by rw[Nat.zero_add,X4.len];exact I9 _);exact this
 ·rw[hlen] at hjl;rw[QD _ _ h0 hi hj];split
  ·exact hp.ext hx (XU h.row hp)
  ·exact(h.each j hj hjl).ext hx (XU h.row (h.each j hj hjl))
 ·rw[hlen] at hjl mL;rw[QD _ _ h0 hi hj] at hb;rw[QD _ _ h0 hi hk] at gW
  by_cases e1:i=j
  ·rw[H' e1] at hb
   by_cases e2:i=k
   ·omega
   ·rw[E' e2] at gW;exact hd k hk mL e2 b gW hb
  ·rw[E' e1] at hb
   by_cases e2:i=k
   ·rw[H' e2] at gW;exact hd j hj hjl e1 b hb gW
   ·rw[E' e2] at gW;exact h.dj j k hj hjl hk mL gY b hb gW
def Ju{z:Int}(h1 : -9223372036854775808<=z)(h2:z<=9223372036854775807):Qq .i64 z:=⟨h1,h2⟩
def zdb(w:Int):Int:=Int.tdiv 232792560 w
def Yp(n a b:Int):Bool:=decide (n>=a)&&decide (n<=b)
def Qr{n a b:Int}:Yp n a b=true↔a<=n/\n<=b:=by simp[Yp]
def ztt{n a b:Int}:Yp n a b=false↔¬(a<=n/\n<=b):=by rw[<-Qr];simp
def Z6(n w:Int):Int:=if Yp n 0 100000000&&Yp w 1 20 then n*zdb w else 0
def Zs(w:Int):Int:=Z6 149 w
def ztg:∀k:Fin 20,zdb ((k.val:Int)+1)*((k.val:Int)+1)=232792560:=Qd
def zth{w:Int}(h1:1<=w)(h2:w<=20):zdb w*w=232792560:=by
 have:=ztg ⟨(w-1).toNat,Qo⟩;have e:(((w-1).toNat:Nat):Int)+1=w:=Qo;simp only[e] at this;exact this
def CL{w:Int}(h1:1<=w)(h2:w<=20):11639628<=zdb w/\zdb w<=232792560:=by
 have h:=zth h1 h2
 have hp:0<=zdb w:=by
  rcases Int.lt_or_le (zdb w) 0 with hn|hn
  ·have:=Int.mul_neg_of_neg_of_pos hn (show 0<w by omega);omega
  ·exact hn
 constructor
 ·have:=Int.mul_le_mul_of_nonneg_left h2 hp;omega
 ·have:=Int.mul_le_mul_of_nonneg_left h1 hp;omega
def TR{n w:Int}(h1:0<=n)(h2:n<=100000000)(h3:1<=w)(h4:w<=20):Z6 n w=n*zdb w:=by
 unfold Z6;rw[H'];rw[A',Qr,Qr];exact⟨⟨h1,h2⟩,h3,h4⟩
def Lq{n w:Int}(h:¬(0<=n/\n<=100000000/\1<=w/\w<=20)):Z6 n w=0:=by
 unfold Z6;rw[E'];rw[A',Qr,Qr];omega
def ze5{n w:Int}(h1:0<=n)(h2:n<=100000000)(h3:1<=w)(h4:w<=20):0<=n*zdb w/\n*zdb w<=23279256000000000:=by
 have hs:=CL h3 h4;refine⟨Int.mul_nonneg h1 Qo,?_⟩
 calc n*zdb w<=100000000*zdb w:=Int.mul_le_mul_of_nonneg_right h2 Qo
  _<=100000000*232792560:=Int.mul_le_mul_of_nonneg_left hs.2 Qd
  _=23279256000000000:=rfl
def KZ(n w:Int):0<=Z6 n w/\Z6 n w<=23279256000000000:=by
 by_cases h:0<=n/\n<=100000000/\1<=w/\w<=20
 ·rw[TR h.1 h.2.1 h.2.2.1 h.2.2.2];exact ze5 h.1 h.2.1 h.2.2.1 h.2.2.2
 ·rw[Lq h];omega
def QL{n a b:Int}{w:Wo}{bs:List Nat}:PX bs Qx #[I n,I a,I b] w (.bool (Yp n a b)):=
 Cb n a b λwr hx=>by unfold Kf;rfl
def Ql{n a b:Int}{w:Wo}{bs:List Nat}:PX bs Qg #[I n,I a,I b] w (.bool (Yp n a b)):=
 zg7 n a b λwr hx=>by unfold Fd;rfl
def O8{n:Int}{w:Wo}{bs:List Nat}:PX bs XI #[I n] w (.bool (Yp n 1 20)):=
 BV n λwr hx=>⟨_,QL,rfl⟩
def Ja{n:Int}{w:Wo}{bs:List Nat}:PX bs Yj #[I n] w (.bool (Yp n 1 20)):=
 N2 n λwr hx=>⟨_,Ql,rfl⟩
def G0{n:Int}{w:Wo}{bs:List Nat}:PX bs Vj #[I n] w (.bool (Yp n (-10) 9)):=
 zbe n λwr hx=>⟨_,QL,rfl⟩
def V8(k j:Nat):Int:=if j<=k then zdb (j:Int) else 0
def zxa(k:Nat):List Va:=[I ((k:Int)+1),I 0,I (V8 k 1),I (V8 k 2),I (V8 k 3),I (V8 k 4),I (V8 k 5),I (V8 k 6),I (V8 k 7),
 I (V8 k 8),I (V8 k 9),I (V8 k 10),I (V8 k 11),I (V8 k 12),I (V8 k 13),I (V8 k 14),I (V8 k 15),I (V8 k 16),I (V8 k 17),I (V8 k 18),I (V8 k 19),I (V8 k 20)]
def GF{w:Wo}{bs:List Nat}:PX bs Uc #[] w (.agg #[I 0,I (V8 20 1),I (V8 20 2),I (V8 20 3),I (V8 20 4),I (V8 20 5),I (V8 20 6),I (V8 20 7),
 I (V8 20 8),I (V8 20 9),I (V8 20 10),I (V8 20 11),I (V8 20 12),I (V8 20 13),I (V8 20 14),I (V8 20 15),I (V8 20 16),I (V8 20 17),I (V8 20 18),I (V8 20 19),I (V8 20 20)]):=
 GR λwr hx=>by
  intro _ _ _ _
  refine⟨λvs=>∃k:Nat,k<=20/\vs=zxa k,λvs=>match vs with
   |.int _ i::_=>(21-i).toNat
   |_=>0,⟨0,Qo,rfl⟩,?_⟩
  rintro i l l1 l2 l3 l4 l5 l6 l7 l8 l9 l10 l11 l12 l13 l14 l15 l16 l17 l18 l19 l20 ⟨k,hk,he⟩;simp only[zxa,I6,I7,true_and,and_true] at he;obtain⟨rfl,rfl,rfl,rfl,rfl,rfl,rfl,rfl,rfl,rfl,rfl,rfl,rfl,rfl,rfl,rfl,rfl,rfl,rfl,rfl,rfl,rfl⟩:=he;constructor
  ·intro h;have h:=Ot h;refine⟨⟨Qo,?_⟩,⟨Qo,Qo⟩,Qo,?_⟩
   ·have:=CL (w:=(k:Int)+1) Qo Qo;exact Ju (by unfold zdb at this;omega) (by unfold zdb at this;omega)
   ·refine⟨_,_,_,_,_,_,_,_,_,_,_,_,_,_,_,_,_,_,_,_,_,?_,Ju Qo Qo,⟨k+1,Qo,rfl⟩,?_⟩
    ·have:k=0\/k=1\/k=2\/k=3\/k=4\/k=5\/k=6\/k=7\/k=8\/k=9\/k=10\/k=11\/k=12\/k=13\/k=14\/k=15\/k=16\/k=17\/k=18\/k=19:=Qo;rcases this with rfl|rfl|rfl|rfl|rfl|rfl|rfl|rfl|rfl|rfl|rfl|rfl|rfl|rfl|rfl|rfl|rfl|rfl|rfl|rfl <;> rfl
    ·show (21-(((k:Int)+1)+1)).toNat<(21-((k:Int)+1)).toNat;omega
  ·intro h;have h:=Ou h;have hk:k=20:=Qo;subst hk;rfl
def zvf{k:Int}(h1:1<=k)(h2:k<=20):(#[I 0,I (V8 20 1),I (V8 20 2),I (V8 20 3),I (V8 20 4),I (V8 20 5),I (V8 20 6),I (V8 20 7),
 I (V8 20 8),I (V8 20 9),I (V8 20 10),I (V8 20 11),I (V8 20 12),I (V8 20 13),I (V8 20 14),I (V8 20 15),I (V8 20 16),I (V8 20 17),I (V8 20 18),I (V8 20 19),I (V8 20 20)]:Array Va)[Int.toNat k]? = some (I (zdb k)):=by
 have:k=1\/k=2\/k=3\/k=4\/k=5\/k=6\/k=7\/k=8\/k=9\/k=10\/k=11\/k=12\/k=13\/k=14\/k=15\/k=16\/k=17\/k=18\/k=19\/k=20:=Qo;rcases this with rfl|rfl|rfl|rfl|rfl|rfl|rfl|rfl|rfl|rfl|rfl|rfl|rfl|rfl|rfl|rfl|rfl|rfl|rfl|rfl <;> rfl
def US{n k:Int}{w:Wo}{bs:List Nat}:PX bs YW #[I n,I k] w (I (Z6 n k)):=
 GN n k λwr hx=>by
  refine⟨_,QL,_,λ_=>O8,λh=>?_,λh=>?_⟩
  ·congr 1;unfold Z6;rw[E'];intro h2;simp only[A'] at h2;simp[h2] at h
  ·have h2:Yp n 0 100000000/\Yp k 1 20:=by simpa using h
   rw[Qr,Qr] at h2;have hm:=ze5 h2.1.1 h2.1.2 h2.2.1 h2.2.2;refine⟨_,_,_,_,_,_,_,_,_,_,_,_,_,_,_,_,_,_,_,_,_,GF,zdb k,⟨Qo,Qo,zvf h2.2.1 h2.2.2⟩,Ju Qo Qo,?_⟩;rw[TR h2.1.1 h2.1.2 h2.2.1 h2.2.2]
def Ax{k:Int}{w:Wo}{bs:List Nat}:PX bs TZ #[I k] w (I (Zs k)):=
 C7 k λwr hx=>⟨_,US,rfl⟩
def Pi(s:ByteArray):Bool:=(((((Zt s (⟨[119,101,105,103,104,116].toArray⟩))||(Zt s (⟨[109,97,120].toArray⟩)))||(Zt s (⟨[99,112,117,115].toArray⟩)))||(Zt s (⟨[112,114,111,99,115].toArray⟩)))||(Zt s (⟨[115,116,97,116].toArray⟩)))
def zrb(x:Int):Bool:=(((decide (x>=97))&&(decide (x<=122)))||((decide (x>=48))&&(decide (x<=57))))
def JO(s:ByteArray):Bool:=Yp (s.size:Int) 1 8 && !Pi s&&(List.range s.size).all λi=>zrb (Jw s (i:Int))
def Mz{s:ByteArray}:JO s=true↔(1<=s.size/\s.size<=8)/\Pi s=false/\∀i:Nat,i<s.size->zrb (Jw s (i:Int)):=by
 unfold JO;simp only[A',Qr,ID,List.all_eq_true,List.mem_range];constructor
 ·rintro⟨⟨h1,h2⟩,h3⟩;exact⟨⟨Qo,Qo⟩,h2,h3⟩
 ·rintro⟨⟨h0,h1⟩,h2,h3⟩;exact⟨⟨⟨Qo,Qo⟩,h2⟩,h3⟩
def M3{s:ByteArray}(h:¬((1<=s.size/\s.size<=8)/\Pi s=false/\∀i:Nat,i<s.size->zrb (Jw s (i:Int)))):JO s=false:=by
 cases hn:JO s with
 |false=>rfl
 |true=>exact It (Mz.1 hn) h
def za3{s:ByteArray}{w:Wo}{bs:List Nat}:PX bs OM #[.string s] w (.bool (Pi s)):=
 zbo s λwr hx=>rfl
def G3{s:ByteArray}{w:Wo}{bs:List Nat}:PX bs Vp #[.string s] w (.bool (JO s)):=
 zbk s λwr hx=>by
  refine⟨_,Ql,Pi s,λ_=>za3,λh=>?_,λh=>?_⟩
  ·rw[M3];rintro⟨h1,h2,_⟩;rw[h2,Qr.2 Qo] at h;cases h
  ·have h:Yp (s.size:Int) 1 8/\Pi s=false:=by simpa using h
   have h1:=Qr.1 h.1;refine Xr s.size 0 rfl (λk=>k<=s.size/\∀j:Nat,j<k->zrb (Jw s (j:Int))) ⟨Ig _,λj hj=>It hj (Nat.not_lt_zero j)⟩ λk ⟨hk,hI⟩=>⟨λIX=>?_,λRX=>?_⟩
   ·have IX:=Ot IX;have hr:0<=(k:Int)/\(k:Int)<(s.size:Int):=⟨Qo,IX⟩;refine⟨hr,λ_=>hr,λ_=>hr,λ_ _=>hr,λkF=>?_,λAG7=>⟨⟨Qo,Qo⟩,QB Qo ⟨Qo,λj hj=>?_⟩⟩⟩
    ·rw[M3];rintro⟨_,_,h3⟩;have:=h3 k Qo;unfold zrb at this;rw[this] at kF;cases kF
    ·by_cases gY:j<k
     ·exact hI j gY
     ·have:j=k:=Qo;subst this;unfold zrb;rw[I8] at AG7;exact AG7
   ·have RX:=Ou RX;have hk:k=s.size:=Qo;subst hk;rw[Mz.2 ⟨⟨Qo,Qo⟩,h.2,hI⟩]
def Q6(gs:List ZL)(g:Int):Bool:=(decide (g>=0)&&decide (g<(gs.length:Int)))&&(gi gs g).IW
def Q5{gs:List ZL}{g:Int}:Q6 gs g=true↔0<=g/\g<(gs.length:Int)/\(gi gs g).IW:=by
 unfold Q6;simp[and_assoc]
def dep:Nat->List ZL->Int->Int
 |0,_,g=>if g=0 then 0 else -1
 |f+1,gs,g=>if g=0 then 0 else if dep f gs (gi gs g).IG<0 then -1 else dep f gs (gi gs g).IG+1
def TL:Nat->List ZL->Int->Int->Int
 |0,_,_,_ => -1
 |f+1,gs,g,n=>if Q6 gs g=false then -1 else if g=0 then n else TL f gs (gi gs g).IG (n+1)
def VW(gs:List ZL):∀(f:Nat) (g:Int),-1<=dep f gs g/\dep f gs g<=f
 |0,g=>by simp only[dep];split <;> omega
 |f+1,g=>by
  have:=VW gs f (gi gs g).IG;simp only[dep];split
  ·omega
  ·split <;> omega
def Kn(gs:List ZL):∀(f f':Nat) (g:Int),0<=dep f gs g->dep f gs g<=f'->dep f' gs g=dep f gs g
 |0,f',g,h,_=>by
  simp only[dep] at h ⊢
  split at h
  ·rename_i hg
   cases f' <;> simp[dep,hg]
  ·omega
 |f+1,f',g,h,hle=>by
  simp only[dep] at h hle ⊢
  by_cases hg:g=0
  ·rw[H' hg]
   cases f' <;> simp[dep,hg]
  ·rw[E' hg] at h hle ⊢
   by_cases hd:dep f gs (gi gs g).IG<0
   ·rw[H' hd] at h;omega
   ·rw[E' hd] at hle ⊢
    cases f' with
    |zero=>omega
    |succ f'=>
     have:=Kn gs f f' (gi gs g).IG Qo Qo;simp only[dep];rw[E' hg,this,E' hd]
def Ye(gs:List ZL)(f:Nat):dep f gs 0=0:=by cases f <;> simp[dep]
def zof{gs:List ZL}{f:Nat}{g:Int}(h:dep f gs g=0):g=0:=by
 cases f with
 |zero=>simp only[dep] at h;split at h <;> first|assumption|omega
 |succ f=>
  simp only[dep] at h
  split at h
  ·assumption
  ·split at h <;> omega
structure ZZ (gs:List ZL):Prop where
 len:gs.length=8
 ru:(gi gs 0).IW=true
 rp:(gi gs 0).IG = -1
 rn:(gi gs 0).name=⟨[].toArray⟩
 nm:∀g:Int,1<=g->g<8->(gi gs g).IW->JO (gi gs g).name=true
 par:∀g:Int,1<=g->g<8->(gi gs g).IW->Q6 gs (gi gs g).IG=true
 dp:∀g:Int,1<=g->g<8->(gi gs g).IW->0<=dep 3 gs g
 uniq:∀g h:Int,1<=h->h<g->g<8->(gi gs g).IW->(gi gs h).IW->¬((gi gs h).IG=(gi gs g).IG/\(gi gs h).name=(gi gs g).name)
noncomputable def Po(gs:List ZL):Bool:=@decide (ZZ gs) (Classical.propDecidable _)
def V4{gs:List ZL}:Po gs=true↔ZZ gs:=@decide_eq_true_iff _ (Classical.propDecidable _)
def Ds{gs:List ZL}(h:¬ZZ gs):Po gs=false:=by
 cases hb:Po gs with
 |false=>rfl
 |true=>exact It (V4.1 hb) h
def HZ{gs:List ZL}(hp:∀g:Int,g≠0->Q6 gs g->Q6 gs (gi gs g).IG):∀(f:Nat) (g n:Int),Q6 gs g->TL (f+1) gs g n=if dep f gs g<0 then -1 else n+dep f gs g
 |0,g,n,hu=>by
  simp only[TL,dep,hu]
  by_cases hg:g=0 <;> simp[hg]
 |f+1,g,n,hu=>by
  rw[TL];simp only[hu]
  by_cases hg:g=0
  ·simp[hg,dep]
  ·have ih:=HZ hp f (gi gs g).IG (n+1) (hp g hg hu);have hr:=VW gs f (gi gs g).IG;simp only[dep,E' hg];rw[ih]
   by_cases hd:dep f gs (gi gs g).IG<0
   ·simp[hd]
   ·have h2:¬(dep f gs (gi gs g).IG+1<0):=Qo;simp[hd,h2];omega
def zml{gs:List ZL}{f:Nat}{g n:Int}(hg:g≠0)(h:TL (f+1) gs g n≠-1):f≠0/\Q6 gs (gi gs g).IG:=by
 rw[TL] at h
 by_cases hu:Q6 gs g=false
 ·rw[H' hu] at h;exact It rfl h
 ·rw[E' hu,E' hg] at h
  cases f with
  |zero=>exact It rfl h
  |succ f=>
   rw[TL] at h
   by_cases hp:Q6 gs (gi gs g).IG=false
   ·rw[H' hp] at h;exact It rfl h
   ·exact⟨Qo,by simpa using hp⟩
structure zj5 (gs:List ZL) (k:Int):Prop where
 each:∀g:Int,1<=g->g<k->(gi gs g).IW->JO (gi gs g).name/\Yp (TL 9 gs g 0) 1 3/\∀h:Int,1<=h->h<g->(gi gs h).IW->¬((gi gs h).IG=(gi gs g).IG/\(gi gs h).name=(gi gs g).name)
def zni{gs:List ZL}(hl:gs.length=8)(ru:(gi gs 0).IW)(rp:(gi gs 0).IG = -1)(rn:(gi gs 0).name=⟨[].toArray⟩)(h:zj5 gs 8):ZZ gs:=by
 have par:∀g:Int,1<=g->g<8->(gi gs g).IW->Q6 gs (gi gs g).IG:=λg h1 h2 hu=>by
  have:=Qr.1 (h.each g h1 h2 hu).2.1;exact(zml (f:=8) (n:=0) Qo (by show TL 9 gs g 0≠-1;omega)).2
 have hp:∀g:Int,g≠0->Q6 gs g->Q6 gs (gi gs g).IG:=λg hg hu=>by
  obtain⟨a,b,c⟩:=Q5.1 hu;exact par g Qo Qo c
 refine⟨hl,ru,rp,rn,λg h1 h2 hu=>(h.each g h1 h2 hu).1,par,λg h1 h2 hu=>?_,λg k h1 h2 h3 hu hk=>(h.each g Qo h3 hu).2.2 k h1 h2 hk⟩;have h9:=Qr.1 (h.each g h1 h2 hu).2.1;rw[HZ hp 8 g 0 (Q5.2 ⟨Qo,Qo,hu⟩)] at h9
 split at h9
 ·omega
 ·rename_i hd;have:=Kn gs 8 3 g Qo Qo;omega
def zlv{gs:List ZL}(h:ZZ gs):zj5 gs 8:=by
 have hp:∀g:Int,g≠0->Q6 gs g->Q6 gs (gi gs g).IG:=λg hg hu=>by
  obtain⟨a,b,c⟩:=Q5.1 hu;have:=h.len;exact h.par g Qo Qo c
 refine⟨λg h1 h2 hu=>⟨h.nm g h1 h2 hu,?_,λk h3 h4 hk=>h.uniq g k h3 h4 h2 hu hk⟩⟩;have hl:=h.len;rw[HZ hp 8 g 0 (Q5.2 ⟨Qo,Qo,hu⟩)];have h3:=h.dp g h1 h2 hu;have hr:=VW gs 3 g;have:=Kn gs 3 8 g h3 Qo;rw[this,E' Qo];have hz:dep 3 gs g≠0:=λe=>by have:=zof e;omega
 exact Qr.2 Qo
section
variable {gs:List ZL}{ms:Nat->MG}{o:OA}{c:Nat}{w:Wo}{bs:List Nat}
def K0.IW(h:K0 bs w o gs ms){i:Int}(h0:0<=i)(h1:i<(gs.length:Int)):Q2 bs w o (Int.toNat i*14+0) [.bool (gi gs i).IW]:=(h.cells i h0 h1).get 0 _ rfl
def K0.IG(h:K0 bs w o gs ms){i:Int}(h0:0<=i)(h1:i<(gs.length:Int)):Q2 bs w o (Int.toNat i*14+1) [I (gi gs i).IG]:=(h.cells i h0 h1).get 1 _ rfl
def K0.name(h:K0 bs w o gs ms){i:Int}(h0:0<=i)(h1:i<(gs.length:Int)):Q2 bs w o (Int.toNat i*14+2) [.string (gi gs i).name]:=(h.cells i h0 h1).get 2 _ rfl
def X3{g:Int}(h:K0 bs w o gs ms):PX bs ZT #[.slice o gs.length c,I g] w (.bool (Q6 gs g)):=
 zbp o gs.length c g λwr hx=>by
  have h:=(h.ext hx).less (cs:=[]) Qs;refine⟨λq=>?_,(gi gs g).IW,λq=>?_,rfl⟩
  ·have q:0<=g/\g<(gs.length:Int):=by simpa using q
   exact h.ix q.1 q.2
  ·have q:0<=g/\g<(gs.length:Int):=by simpa using q
   exact h.IW q.1 q.2
def OY{g:Int}(h:K0 bs w o gs ms)(hl:gs.length<maxLen):PX bs J9 #[.slice o gs.length c,I g] w (I (TL (gs.length+1) gs g 0)):=
 Ck o gs.length c g λwr hx=>by
  have h:=(h.ext hx).less (cs:=[]) Qs;refine TM (gs.length+1) 0 rfl (λx k=>k<=gs.length+1/\TL (gs.length+1-k) gs x k=TL (gs.length+1) gs g 0) ⟨Qo,rfl⟩ λx k ⟨hk,he⟩=>⟨λIX=>?_,λRX=>?_⟩
  ·have IX:=Ot IX;have hf:gs.length+1-k=(gs.length-k)+1:=Qo;rw[hf,TL] at he;refine⟨_,X3 h,λhu=>?_,λhu=>?_⟩
   ·have hu:Q6 gs x=false:=by simpa using hu
    rw[H' hu] at he;rw[<-he]
   ·have hu:Q6 gs x:=by simpa using hu
    rw[E' (by simp[hu])] at he;obtain⟨u1,u2,u3⟩:=Q5.1 hu;refine⟨λhz=>?_,λhz=>?_⟩
    ·rw[H' (by simpa using hz)] at he;rw[<-he]
    ·rw[E' (by simpa using hz)] at he;have hm:=YQ;refine⟨h.ix u1 u2,_,h.IG u1 u2,⟨Qo,Qo⟩,QG Qo ⟨Qo,?_⟩⟩;rw[<-he,show gs.length+1-(k+1)=gs.length-k by omega];rfl
  ·have RX:=Ou RX;have:gs.length+1-k=0:=Qo;rw[this] at he;rw[<-he];rfl
def G4(h:K0 bs w o gs ms)(hl:gs.length<=maxLen):PX bs Vr #[.slice o gs.length c] w (.bool (Po gs)):=
 zbl o gs.length c λwr hx=>by
  have h:=(h.ext hx).less (cs:=[]) Qs;have l8:((((gs.length:Nat):Int) != 8)=false)->gs.length=8:=λq=>by have:=(bne_eq_false_iff_eq).1 q;omega
  have i0:∀q:(((gs.length:Nat):Int) != 8)=false,(0:Int)<(gs.length:Int):=λq=>by have:=l8 q;omega
  refine⟨λq=>h.ix (I4 _) (i0 q),(gi gs 0).IW,λq=>h.IW (I4 _) (i0 q),λq=>?_,(gi gs 0).IG,λq=>?_,λq=>?_,(gi gs 0).name,λq=>?_,λq=>?_,λq=>?_⟩
  ·simp only[I1] at q;exact h.ix (I4 _) (i0 q.1)
  ·simp only[I1] at q;exact h.IG (I4 _) (i0 q.1)
  ·simp only[I1] at q;exact h.ix (I4 _) (i0 q.1.1)
  ·simp only[I1] at q;exact h.name (I4 _) (i0 q.1.1)
  ·rw[Ds];intro ht;have e:((gs.length:Nat):Int)=8:=by have:=ht.len;omega
   rw[e,ht.ru,ht.rp,ht.rn,Do] at q;simp at q
  ·simp only[I1,I8,bne_eq_false_iff_eq,U2] at q;obtain⟨⟨⟨q1,ru⟩,rp⟩,rn⟩:=q;have hl8:gs.length=8:=Qo;refine Xr 8 1 rfl (λk=>1<=k/\k<=8/\zj5 gs k) ⟨I9 _,Qo,⟨λg h1 h2=>by omega⟩⟩ λk ⟨hk1,hk,hS⟩=>⟨λIX=>?_,λRX=>?_⟩
   ·have IX:=Ot IX;have dD:(0:Int)<=(k:Int):=Qo
    have step:((gi gs (k:Int)).IW->JO (gi gs (k:Int)).name/\Yp (TL 9 gs (k:Int) 0) 1 3/\∀h:Int,1<=h->h<(k:Int)->(gi gs h).IW->¬((gi gs h).IG=(gi gs (k:Int)).IG/\(gi gs h).name=(gi gs (k:Int)).name))->zj5 gs ((k+1:Nat):Int):=λlA=>⟨λg h1 h2 hu=>by
     by_cases sS:g<(k:Int)
     ·exact hS.each g h1 sS hu
     ·have:g=(k:Int):=Qo;subst this;exact lA hu⟩
    refine⟨h.ix dD IX,_,h.IW dD IX,λhu=>⟨⟨Qo,Qo⟩,QB Qo ⟨Qo,Qo,step λhu'=>by rw[hu'] at hu;cases hu⟩⟩,λhu=>?_⟩;have hu:(gi gs (k:Int)).IW:=by simpa using hu
    refine⟨h.ix dD IX,_,h.name dD IX,_,G3,TL 9 gs (k:Int) 0,λ_=>?_,Yp (TL 9 gs (k:Int) 0) 1 3,λ_=>Ql,λq=>?_,λq=>?_⟩
    ·have:=OY (c:=c) (g:=(k:Int)) h (by rw[hl8];simp[maxLen])
     rwa[hl8] at this ⊢
    ·rw[Ds];intro ht;have:=(zlv ht).each (k:Int) Qo Qo hu;rw[this.1,this.2.1] at q;cases q
    ·simp only[I1,I8] at q;refine Xr k 1 rfl (λj=>1<=j/\j<=k/\∀h:Int,1<=h->h<(j:Int)->(gi gs h).IW->¬((gi gs h).IG=(gi gs (k:Int)).IG/\(gi gs h).name=(gi gs (k:Int)).name)) ⟨I9 _,hk1,λg h1 h2=>by omega⟩ λj ⟨hj1,gY,hJ⟩=>⟨λSi=>?_,λdA=>?_⟩
     ·have Si:=Ot Si;have hj0:(0:Int)<=(j:Int):=Qo;have hjl:(j:Int)<(gs.length:Int):=Qo;refine⟨h.ix hj0 hjl,_,h.IW hj0 hjl,λ_=>h.ix hj0 hjl,_,λ_=>h.IG hj0 hjl,λ_=>h.ix dD IX,_,λ_=>h.IG dD IX,λ_=>h.ix hj0 hjl,_,λ_=>h.name hj0 hjl,λ_=>h.ix dD IX,_,λ_=>h.name dD IX,λhs=>?_,λhs=>⟨⟨Qo,Qo⟩,QB Qo ⟨Qo,Qo,λg h1 h2 hg=>?_⟩⟩⟩
      ·rw[Ds];intro ht;simp only[A',Iu,U2] at hs;exact ht.uniq (k:Int) (j:Int) Qo Si Qo hu hs.1.1 ⟨hs.1.2,hs.2⟩
      ·by_cases hgj:g<(j:Int)
       ·exact hJ g h1 hgj hg
       ·have:g=(j:Int):=Qo;subst this;rintro⟨e1,e2⟩;rw[hg,e1,e2,Do] at hs;simp at hs
     ·have dA:=Ou dA;have:j=k:=Qo;subst this;exact⟨⟨Qo,Qo⟩,QB Qo ⟨Qo,Qo,step λ_=>⟨q.1,q.2,hJ⟩⟩⟩
   ·have RX:=Ou RX;have:k=8:=Qo;subst this;rw[V4.2 (zni hl8 ru rp rn hS)]
def VQ:Nat->List ZL->Int->Int->Bool
 |0,_,g,h=>h==g
 |f+1,gs,g,h=>h==g||(h != 0&&VQ f gs g (gi gs h).IG)
noncomputable def Oc(gs:List ZL)(g h:Int):Bool:=Po gs&&Q6 gs g&&Q6 gs h&&VQ 3 gs g h
def ZR{gs:List ZL}(ht:ZZ gs){h:Int}(hu:Q6 gs h)(hz:h≠0):Q6 gs (gi gs h).IG/\0<=h/\h<(gs.length:Int)/\∃d:Nat,dep 3 gs h=(d:Int)+1/\dep 3 gs (gi gs h).IG=(d:Int)/\d<3:=by
 obtain⟨a,b,u⟩:=Q5.1 hu;have hl:=ht.len;have h1:1<=h:=Qo;have hd:=ht.dp h h1 Qo u;refine⟨ht.par h h1 Qo u,a,b,?_⟩;have hr:=VW gs 2 (gi gs h).IG;have e:dep 3 gs h=if dep 2 gs (gi gs h).IG<0 then -1 else dep 2 gs (gi gs h).IG+1:=by simp only[dep,E' hz]
 rw[e] at hd ⊢
 split at hd
 ·omega
 ·rename_i hn;rw[E' hn];have:=Kn gs 2 3 (gi gs h).IG Qo Qo;exact⟨(dep 2 gs (gi gs h).IG).toNat,Qo,Qo,Qo⟩
def zmf{gs:List ZL}(ht:ZZ gs)(g:Int):∀(f f':Nat) (h:Int),Q6 gs h->dep 3 gs h<=f->dep 3 gs h<=f'->VQ f gs g h=VQ f' gs g h:=by
 intro f
 induction f with
 |zero=>
  intro f' h hu h1 h2
  have hz:h=0:=Is λhz=>by
   obtain⟨_,_,_,d,e,_⟩:=ZR ht hu hz;omega
  subst hz
  cases f' <;> simp[VQ]
 |succ f ih=>
  intro f' h hu h1 h2
  by_cases hz:h=0
  ·subst hz
   cases f' <;> simp[VQ]
  ·obtain⟨hp,_,_,d,e,e2,_⟩:=ZR ht hu hz
   cases f' with
   |zero=>omega
   |succ f'=>
    simp only[VQ];rw[ih f' (gi gs h).IG hp Qo Qo]
def zcg{gs:List ZL}(ht:ZZ gs){g h:Int}(hu:Q6 gs h)(hz:h≠0)(hg:h≠g):VQ 3 gs g h=VQ 3 gs g (gi gs h).IG:=by
 obtain⟨hp,_,_,d,e,e2,hd⟩:=ZR ht hu hz;rw[<-zmf ht g 2 3 (gi gs h).IG hp Qo Qo];have e3:VQ 3 gs g h=(h==g||(h != 0&&VQ 2 gs g (gi gs h).IG)):=rfl;rw[e3];have e4:(h==g)=false:=by simpa using hg
 have e5:(h != 0):=by simpa using hz
 rw[e4,e5,Bool.false_or,Bool.true_and]
def Th{g h:Int}(hr:K0 bs w o gs ms)(hl:gs.length<=maxLen):PX bs Xp #[.slice o gs.length c,I g,I h] w (.bool (Oc gs g h)):=
 EP o gs.length c g h λwr hx=>by
  have hr:=(hr.ext hx).less (cs:=[]) Qs;refine⟨_,G4 hr hl,_,λ_=>X3 hr,_,λ_=>X3 hr,λq=>?_,λq=>?_⟩
  ·have:Oc gs g h=false:=by
    unfold Oc
    cases h1:Po gs <;> cases h2:Q6 gs g <;> cases h3:Q6 gs h <;> simp_all
   rw[this]
  ·simp only[I1,I8] at q;obtain⟨⟨q1,q2⟩,q3⟩:=q;have ht:=V4.1 q1;have hU:Oc gs g h=VQ 3 gs g h:=by unfold Oc;rw[q1,q2,q3];rfl
   refine⟨λvs=>∃x:Int,vs=[I x]/\Q6 gs x/\VQ 3 gs g x=VQ 3 gs g h,λvs=>(dep 3 gs (Y5 0 vs)).toNat,⟨h,rfl,q3,rfl⟩,?_⟩;rintro x ⟨x',he,hu,hI⟩;simp only[I6,I7,true_and,and_true] at he;subst he;refine⟨λfJ=>⟨λhz=>?_,λhz=>?_⟩,λheq=>?_⟩
   ·have hz:x=0:=by simpa using hz
    subst hz
    have:VQ 3 gs g 0=false:=by
     have:¬(0=g):=by simpa using fJ
     simp[VQ,this]
    rw[hU,<-hI,this]
   ·have hz:x≠0:=by simpa using hz
    have fJ:x≠g:=by simpa using fJ
    obtain⟨hp,a,b,d,e,e2,hd⟩:=ZR ht hu hz;refine⟨hr.ix a b,_,hr.IG a b,⟨_,rfl,hp,by rw[<-zcg ht hu hz fJ];exact hI⟩,?_⟩;show (dep 3 gs (gi gs x).IG).toNat<(dep 3 gs x).toNat;omega
   ·have heq:x=g:=by simpa using heq
    subst heq;rw[hU,<-hI];simp[VQ]
end
def zmb{s:ByteArray}{i:Nat}(h:i<s.size):((s.get! i).toNat:Int)=Jw s (i:Int):=by
 have hi:i<s.data.size:=h;unfold Jw;rw[Ii];simp[ByteArray.get!,getElem!_pos s.data i hi,Array.getD,h]
def zb9{s:ByteArray}{i:Nat}(h:(s.get! i).toNat<128):Utf8.decode s i=((s.get! i).toNat,1):=by
 simp only[Utf8.decode,Nat.add_zero];rw[H' h]
def zl3{s:ByteArray}{i:Nat}(h:¬(s.get! i).toNat<128):128<=(Utf8.decode s i).1/\1<=(Utf8.decode s i).2:=by
 simp only[Utf8.decode,Nat.add_zero,Utf8.runeError];rw[E' h];split
 ·split
  ·rename_i h1;exact⟨h1,by show 1<=2;omega⟩
  ·exact⟨Qd,Qd⟩
 ·split
  ·split
   ·rename_i h1;simp only[ge_iff_le,A',Il] at h1;exact⟨by show 128<=_;omega,by show 1<=3;omega⟩
   ·exact⟨Qd,Qd⟩
  ·split
   ·split
    ·rename_i h1;simp only[ge_iff_le,A',Il] at h1;exact⟨by show 128<=_;omega,by show 1<=4;omega⟩
    ·exact⟨Qd,Qd⟩
   ·exact⟨Qd,Qd⟩
def zmi(w:Wo)(b:Nat)(s:ByteArray)(p:Nat):Q0 [b] w (OT w b s p):=
 ⟨rfl,rfl,rfl,by simp[OT],λk _ hk=>by
  have:b≠k:=λe=>hk (by simp[e])
  simp only[OT];rw[Array.getElem?_setIfInBounds_ne this]⟩
def zo8{w:Wo}{b:Nat}{s:ByteArray}{p:Nat}(h:b<w.heap.size):(OT w b s p).heap[b]? = some (.stringIter s p):=by
 simp[OT,h]
def zty(b:Nat)(w:Wo):Nat:=match w.heap[b]? with
 |some (.stringIter s p)=>s.size+1-p
 |_=>0
def zgf{s:ByteArray}(h1:Zt s (⟨[119,101,105,103,104,116].toArray⟩)=false)(h2:Zt s (⟨[109,97,120].toArray⟩)=false)(h3:Zt s (⟨[99,112,117,115].toArray⟩)=false)(h4:Zt s (⟨[112,114,111,99,115].toArray⟩)=false)(h5:Zt s (⟨[115,116,97,116].toArray⟩)=false):Pi s=false:=by
 unfold Pi;rw[h1,h2,h3,h4,h5];rfl
def TN{s:ByteArray}(h:Pi s):JO s=false:=M3 λ⟨_,h2,_⟩=>by rw[h] at h2;cases h2
def zaw{s:ByteArray}{w:Wo}{bs:List Nat}:PX bs OI #[.string s] w (.bool (JO s)):=by
 refine P4 λwr hx=>zal s (R:=λv w'=>v=.bool (JO s)/\Q0 [] wr w') ?_
 refine⟨λh=>?_,λh1=>⟨λh=>?_,λh2=>⟨λh=>?_,λh3=>⟨λh=>?_,λh4=>⟨λh=>?_,λh5=>?_⟩⟩⟩⟩⟩
 ·intro w1 SD;rw[TN (by unfold Pi;rw[h];rfl)];exact⟨rfl,SD⟩
 ·intro w1 SD;rw[TN (by unfold Pi;rw[h];simp)];exact⟨rfl,SD⟩
 ·intro w1 SD;rw[TN (by unfold Pi;rw[h];simp)];exact⟨rfl,SD⟩
 ·intro w1 SD;rw[TN (by unfold Pi;rw[h];simp)];exact⟨rfl,SD⟩
 ·intro w1 SD;rw[TN (by unfold Pi;rw[h];simp)];exact⟨rfl,SD⟩
 ·have hf:=zgf h1 h2 h3 h4 h5;refine⟨_,QL,λh=>?_,λh=>?_⟩
  ·intro w1 SD;have h:Yp (s.size:Int) 1 8=false:=by simpa using h
   have h:=ztt.1 h;rw[M3 λ⟨h6,_⟩=>h Qo];exact⟨rfl,SD⟩
  ·have h:Yp (s.size:Int) 1 8:=by simpa using h
   have h:=Qr.1 h;intro w1 SD _;refine⟨some ⟨w1.heap.size,0,none⟩,w1.alloc (.stringIter s 0),by simp[Instr.range,run_underlying CO],Uj,?_⟩;have hb0:(w1.alloc (.stringIter s 0)).heap[w1.heap.size]? = some (.stringIter s 0):=Array.getElem?_push_size ..;have hX0:Q0 [] wr (w1.alloc (.stringIter s 0)):=SD.trans (Zj w1 _);have hbr:wr.heap.size<=w1.heap.size:=SD.size;generalize w1.heap.size=b at hb0 hbr;generalize w1.alloc (.stringIter s 0)=w2 at hb0 hX0;refine⟨λvs w'=>vs=[]/\Q0 [] wr w'/\∃p:Nat,p<=s.size/\w'.heap[b]? = some (.stringIter s p)/\∀j:Nat,j<p->zrb (Jw s (j:Int)),λ_ w'=>zty b w',λw3 Ru _=>⟨rfl,hX0.trans Ru,0,Ig _,Ts hb0 Ru Qs,λj hj=>It hj (Nat.not_lt_zero j)⟩,?_⟩;intro w3 _ ⟨_,hX,p,hp,hb,hI⟩ w4 X' _;have hb4:=Ts hb X' Qs;refine⟨b,s,p,rfl,Qs,hb4,λRX=>⟨(by intro q;cases q),λ_ w5 Wb=>?_⟩,λIX=>⟨λ_=>?_,by intro q;cases q⟩⟩
   ·have:p=s.size:=Qo;subst this;rw[Mz.2 ⟨⟨Qo,Qo⟩,hf,hI⟩];exact⟨rfl,(hX.trans X').trans Wb⟩
   ·have hX5:Q0 [] wr (OT w4 b s (p+(Utf8.decode s p).2)):=(hX.trans X').fresh (zmi w4 b s _) λx hm=>.inl (by rw[IB.1 hm];exact hbr)
    have hg:=zmb IX;refine⟨λkF=>?_,λAG7=>?_⟩
    ·intro w5 Wb
     have Ck1:JO s=false:=M3 λ⟨_,_,h3⟩=>by
      have h3:=h3 p IX
      by_cases hlo:(s.get! p).toNat<128
      ·rw[zb9 hlo] at kF;simp only[hg] at kF;unfold zrb at h3;rw[h3] at kF;cases kF
      ·unfold zrb at h3;simp only[Iw,A',Il] at h3;omega
     rw[Ck1];exact⟨rfl,hX5.trans Wb⟩
    ·intro w5 Wb _
     by_cases hlo:(s.get! p).toNat<128
     ·rw[zb9 hlo] at AG7 hX5 Wb;simp only[hg] at AG7;have hat:=Ts (zo8 (s:=s) (p:=p+1) (VV hb4)) Wb Qs;refine⟨⟨rfl,hX5.trans Wb,p+1,Qo,hat,λj hj=>?_⟩,?_⟩
      ·by_cases hjp:j<p
       ·exact hI j hjp
       ·have:j=p:=Qo;subst this;unfold zrb;rw[I8] at AG7;exact AG7
      ·simp only[zty,hat,hb];omega
     ·exfalso
      have:=zl3 hlo;rw[I8] at AG7;simp only[Iw,A',Il] at AG7;omega
end Go.Proofs.YtjinkcmkgnofjaaGreat
