/- Part 7 of what the law FnDropEmpty needs. -/
import Derived.Test.YtnclplgaicdapaaGreatDoorFnDropEmptyPf
set_option linter.unusedVariables false
set_option linter.unusedSimpArgs false
set_option maxRecDepth 100000
set_option maxHeartbeats 8000000
namespace Go.Proofs.YtnclplgaicdapaaGreatDoor
open Go.RowKit
def zdd(b:OA)(d a6:Nat)(w:Wo)(R:RT):= (((d:Int) != 8)=false->Ix b d 0)/\(∃m,(((d:Int) != 8)=false->Q2 [] w b (Int.toNat 0*14+0) [.bool m])/\((((d:Int) != 8)||(!m))=false->Ix b d 0)/\(∃p,((((d:Int) != 8)||(!m))=false->Q2 [] w b (Int.toNat 0*14+1) [I p])/\(((((d:Int) != 8)||(!m))||(p != (-1)))=false->Ix b d 0)/\(∃(K:ByteArray),(((((d:Int) != 8)||(!m))||(p != (-1)))=false->Q2 [] w b (Int.toNat 0*14+2) [.string K])/\((((((d:Int) != 8)||(!m))||(p != (-1)))||(!Zw K (ByteArray.mk [].toArray)))=true->(AR [] w R (.tuple #[S none 0 0,.bool false])))/\((((((d:Int) != 8)||(!m))||(p != (-1)))||(!Zw K (ByteArray.mk [].toArray)))=false->(AY [] w fun V=>(∃f h a2,∃L,((Instr.makeSlice Pp (I 8) (I 8)):Sem Va).run Tryz.prog V=.ok (S f h a2) L/\Q9 [] V L/\(∃(A:List Va->Wo->Prop) (x:List Va->Wo->Nat),(AY [] L fun a7=>A [I 0] a7)/\∀(e:Int) g,(∀bq∈([]:List Nat),bq<g.heap.size)->A [I e] g->((decide (e<(d:Int)))=true->Ix b d e/\(∃J,Q2 [] g b (Int.toNat e*14+0) [.bool J]/\(J=true->Ix b d e/\(∃(a4:ByteArray),Q2 [] g b (Int.toNat e*14+2) [.string a4]/\(∀u r,Q0 [] g r->g.heap.size<=u->r.heap[u]? = some (Obj.cells ([I e,.string a4,.pointer none]:List Va).toArray Du (0,0))->u∉([]:List Nat)->Ix f h e/\Xi [] r f (Int.toNat e*1) 1/\Qq .i64 (e+1)/\(AY [] (RD r f (Int.toNat e*1) [.pointer ((some (Addr.mk u 0 none)).map (·.add 0))]) fun a1=>A [I (e+1)] a1/\x [I (e+1)] a1<x [I e] g))))/\(J=false->Qq .i64 (e+1)/\(AY [] g fun a3=>A [I (e+1)] a3/\x [I (e+1)] a3<x [I e] g))))/\((decide (e<(d:Int)))=false->(AY [] g fun Q=>(∃(N:Va),∃D,((Instr.makeMap Zx none):Sem Va).run Tryz.prog Q=.ok N D/\Q9 [] Q D/\(∃(y:List Va->Wo->Prop) (s:List Va->Wo->Nat),(AY [] D fun a5=>y [I 1] a5)/\∀(a:Int) c,(∀bq∈([]:List Nat),bq<c.heap.size)->y [I a] c->((decide (a<8))=true->Ix f h a/\(∃E,Q2 [] c f (Int.toNat a*1) [.pointer E]/\(E.isNone=true->Qq .i64 (a+1)/\(AY [] c fun Y=>y [I (a+1)] Y/\s [I (a+1)] Y<s [I a] c))/\(E.isNone=false->Ix b d a/\(∃(U:ByteArray),Q2 [] c b (Int.toNat a*14+2) [.string U]/\(∃o,PX [] OJ #[.string U] c (.bool o)/\((!o)=false->Ix b d a)/\(∃O,((!o)=false->Q2 [] c b (Int.toNat a*14+1) [I O])/\(∃M,((!o)=false->PX [] YK #[S b d a6,I O] c (.bool M))/\(((!o)||(!M))=true->(AR [] c R (.tuple #[S none 0 0,.bool false])))/\(((!o)||(!M))=false->Ix f h a/\(∃i,Q2 [] c f (Int.toNat a*1) [.pointer i]/\Ix b d a/\(∃C,Q2 [] c b (Int.toNat a*14+1) [I C]/\Ix f h C/\(∃l,Q2 [] c f (Int.toNat C*1) [.pointer l]/\i.isSome=true/\Xi [] c i (0+2) 1/\Ix b d a/\(∃t,Q2 [] (RD c i (0+2) [.pointer l]) b (Int.toNat a*14+1) [I t]/\Ix b d a/\(∃(z:ByteArray),Q2 [] (RD c i (0+2) [.pointer l]) b (Int.toNat a*14+2) [.string z]/\(∀n,(RD c i (0+2) [.pointer l]).heap.size<=n->Q2 [] (RD c i (0+2) [.pointer l]) b (Int.toNat a*14+2) [.string z]/\Q2 [] (RD c i (0+2) [.pointer l]) b (Int.toNat a*14+1) [I t]/\(AX [] [n] (RD c i (0+2) [.pointer l]) fun T=>(∃a8 B,∃v,((Instr.lookup Zx N (.agg #[I t,.string z]) true):Sem Va).run Tryz.prog T=.ok (.tuple #[I a8,.bool B]) v/\Q9 [n] T v/\(B=true->
 (AR [n] v R (.tuple #[S none 0 0,.bool false])))/\(B=false->(AY [n] v fun Z => ∃F,((do Instr.mapUpdate Zx N (.agg #[I t,.string z]) (I a); pure undef):Sem Va).run Tryz.prog Z=.ok undef F/\Q9 [n] Z F/\Qq .i64 (a+1)/\(AY [n] F fun X=>y [I (a+1)] X/\s [I (a+1)] X<s [I a] c)))))))))))))))))))/\((decide (a<8))=false->(∃(G:List Va->Wo->Prop) (P:List Va->Wo->Nat),(AY [] c fun a9=>G [I 0] a9)/\∀(j:Int) k,(∀bq∈([]:List Nat),bq<k.heap.size)->G [I j] k->((decide (j<(h:Int)))=true->Ix f h j/\(∃q,Q2 [] k f (Int.toNat j*1) [.pointer q]/\(∃H,((!q.isNone)=true->PX [] UJ #[.pointer q] k (I H))/\(((!q.isNone)&&(decide (H<0)))=true->(AR [] k R (.tuple #[S none 0 0,.bool false])))/\(((!q.isNone)&&(decide (H<0)))=false->Qq .i64 (j+1)/\(AY [] k fun a0=>G [I (j+1)] a0/\P [I (j+1)] a0<P [I j] k)))))/\((decide (j<(h:Int)))=false->(AR [] k R (.tuple #[S f h a2,.bool true]))))))))))))))))
theorem zd7(a b c):JA (zdd a b c) Px #[S a b c]:=eV [57] false [(5,⟨[(40,Ri)],[],[0,4,39],[],[]⟩),(12,⟨[(7,Ri)],[],[0,4,6],[],[]⟩),(24,⟨[(124,Ri)],[],[4,122,123],[],[]⟩)] Tryz.func248 Qk Qk
def CO(f:OA)(d g:Nat)(w:Wo)(R:RT):= (AY [] w fun a=>Cz Px #[S f d g] a fun i b=>(∃e j h c,i=.returned (.tuple #[S e j h,.bool c])/\Q9 [] a b/\(AR [] b R (.bool c))))
theorem zaf(a b c):JA (CO a b c) Vi #[S a b c]:=eV [] false [] Tryz.func187 Qk Qk
def Kf(b:OA)(w:Wo)(R:RT):= b.isSome=true/\(∃j,Q2 [] w b (0+0) [I j]/\(∀f,w.heap.size<=f->(∃a,(∀g,Q0 [] w g->g.heap[f]? = some (Obj.cells ([I j]:List Va).toArray Qb (0,0))->PX [] ZA #[S (some (Addr.mk f 0 none)) 1 1] g (.bool a))/\(a=true->b.isSome=true)/\(∃p i n,(a=true->Q2 [] w b (0+1) [S p i n])/\(∃c,(a=true->PX [] Qz #[I (i:Int),I 1,I 4] w (.bool c))/\(∃d,((a&&c)=true->PX [] YA #[.pointer b] w (I d))/\(((a&&c)&&(d != 0))=true->b.isSome=true)/\(∃o e q,(((a&&c)&&(d != 0))=true->Q2 [] w b (0+2) [S o e q])/\((((a&&c)&&(d != 0))&&((e:Int)==12))=true->b.isSome=true)/\(∃h l m,((((a&&c)&&(d != 0))&&((e:Int)==12))=true->Q2 [] w b (0+3) [S h l m])/\(∃k,((((a&&c)&&(d != 0))&&((e:Int)==12))=true->PX [] Vi #[S h l m] w (.bool k))/\R (.bool ((((a&&c)&&(d != 0))&&((e:Int)==12))&&k)) w)))))))))
theorem KS(a):YQ (Kf a) Xd #[.pointer a]:=pV [] false [] Tryz.func87 Qk Qk
def DG(a:Int)(w:Wo)(R:RT):= R (.bool ((decide (a>=0))&&(decide (a<=15)))) w
theorem EK(a):YQ (DG a) Jl #[I a]:=pV [] false [] Tryz.func254 Qk Qk
def CM(b:Int)(w:Wo)(R:RT):= (∃a,PX [] Jl #[I b] w (.bool a)/\R (.bool a) w)
theorem za7(a):YQ (CM a) JC #[I a]:=pV [] false [] Tryz.func206 Qk Qk
def Fz(a:Int)(w:Wo)(R:RT):= (∃b,((a != 0)=true->PX [] JC #[I a] w (.bool b))/\R (.bool ((a != 0)&&b)) w)
theorem BO(a):YQ (Fz a) JS #[I a]:=pV [] false [] Tryz.func122 Qk Qk
def Fx(c a f:Int)(g:OA)(d h:Nat)(i:OA)(e j:Nat)(w:Wo)(R:RT):= (∀b,w.heap.size<=b->R (.bool (((((c==0)&&(a==0))&&(f==0))&&((d:Int)==0))&&((e:Int)==0))) w)
theorem BM(a b c d e f g h i):YQ (Fx a b c d e f g h i) JR #[.agg #[I a,I b,I c,S d e f,S g h i]]:=pV [] false [] Tryz.func249 Qk Qk
def DI(d:Bool)(c:Int)(e:ByteArray)(f h b g i r t s:Int)(p:OA)(q n:Nat)(j:OA)(k o:Nat)(u:OA)(l v:Nat)(w:Wo)(R:RT):= (∀m,w.heap.size<=m->(∃a,(((((((((!d)&&(c==0))&&(Zw e (ByteArray.mk [].toArray)))&&(f==0))&&(h==0))&&(b==0))&&(g==0))&&(i==0))=true->PX [] JR #[.agg #[I r,I t,I s,S p q n,S j k o]] w (.bool a))/\R (.bool ((((((((((!d)&&(c==0))&&(Zw e (ByteArray.mk [].toArray)))&&(f==0))&&(h==0))&&(b==0))&&(g==0))&&(i==0))&&a)&&((l:Int)==0))) w))
theorem EM(a b c d e f g h i j k l m n o p q r s t):YQ (DI a b c d e f g h i j k l m n o p q r s t) Vj #[.agg #[.bool a,I b,.string c,I d,I e,I f,I g,I h,I i,I j,I k,S l m n,S o p q,S r s t]]:=pV [] false [] Tryz.func188 Qk Qk
def FA(b:Int)(w:Wo)(R:RT):= (∃a,PX [] Qz #[I b,I 1,I 20] w (.bool a)/\R (.bool a) w)
theorem BP(a):YQ (FA a) XE #[I a]:=pV [] false [] Tryz.func189 Qk Qk
def CL(e g m:Int)(r:OA)(c t:Nat)(q:OA)(j u:Nat)(w:Wo)(R:RT):= (∀s,w.heap.size<=s->(∃i,PX [] Qz #[I e,I 1,I 10000] w (.bool i)/\(∃k,((!i)=false->PX [] Qz #[I (c:Int),I 1,I 4] w (.bool k))/\((((!i)||(!k))||((j:Int) != (c:Int)))=true->R (.bool false) w)/\((((!i)||(!k))||((j:Int) != (c:Int)))=false->(∃h,PX [] Qz #[I g,I 0,I e] w (.bool h)/\(∃n,((!h)=false->PX [] Qz #[I m,I 0,I e] w (.bool n))/\(((!h)||(!n))=true->R (.bool false) w)/\(((!h)||(!n))=false->Qq .i64 (g+m)/\(∃(o:List Va->Prop) (p:List Va->Nat),o [I (g+m),I 0]/\∀(d a:Int),o [I d,I a]->((decide (a<(c:Int)))=true->Ix r c a/\(∃b,Q2 [] w r (Int.toNat a*1) [I b]/\(∃f,PX [] Qz #[I b,I 0,I e] w (.bool f)/\((!f)=false->Ix q j a)/\(∃l,((!f)=false->Q2 [] w q (Int.toNat a*1) [.bool l])/\(((!f)||(l&&((b != 0)||(g != 0))))=true->R (.bool false) w)/\(((!f)||(l&&((b != 0)||(g != 0))))=false->Qq .i64 (d+b)/\Qq .i64 (a+1)/\o [I (d+b),I (a+1)]/\p [I (d+b),I (a+1)]<p [I d,I a])))))/\((decide (a<(c:Int)))=false->R (.bool (d==e)) w)))))))))
theorem za6(a b c d e f g h i):YQ (CL a b c d e f g h i) OI #[.agg #[I a,I b,I c,S d e f,S g h i]]:=pV [] false [(7,⟨[(3,Ri),(48,Ri)],[],[1,46,47],[],[]⟩)] Tryz.func250 Qk Qk
def Ke(e:OA)(z:Bool)(y:Int)(A:ByteArray)(B D f n F q s r:Int)(p:OA)(b m:Nat)(j:OA)(k o:Nat)(C:OA)(x E:Nat)(w:Wo)(R:RT):= (∀t,w.heap.size<=t->(∃g,PX [] JR #[.agg #[I q,I s,I r,S p b m,S j k o]] w (.bool g)/\(g=true->R (.bool ((f==0)&&(n==0))) w)/\(g=false->(∃a,PX [] OI #[.agg #[I q,I s,I r,S p b m,S j k o]] w (.bool a)/\(a=true->e.isSome=true)/\(∃v c u,(a=true->Q2 [] w e (0+1) [S v c u])/\(∃d,((a&&((b:Int)==(c:Int)))=true->PX [] Qz #[I f,I 1,I 1000] w (.bool d))/\(((a&&((b:Int)==(c:Int)))&&d)=true->e.isSome=true)/\(∃i,(((a&&((b:Int)==(c:Int)))&&d)=true->Q2 [] w e (0+0) [I i])/\(((a&&((b:Int)==(c:Int)))&&d)=true->Qq .i64 (i+1))/\(((a&&((b:Int)==(c:Int)))&&d)=true->e.isSome=true)/\(∃h,(((a&&((b:Int)==(c:Int)))&&d)=true->Q2 [] w e (0+0) [I h])/\(((a&&((b:Int)==(c:Int)))&&d)=true->Qq .i64 (h+f))/\(∃l,(((a&&((b:Int)==(c:Int)))&&d)=true->PX [] Qz #[I n,I (i+1),I (h+f)] w (.bool l))/\R (.bool (((a&&((b:Int)==(c:Int)))&&d)&&l)) w)))))))))
theorem KR(a b c d e f g h i j k l m n o p q r s t u):YQ (Ke a b c d e f g h i j k l m n o p q r s t u) Xc #[.pointer a,.agg #[.bool b,I c,.string d,I e,I f,I g,I h,I i,I j,I k,I l,S m n o,S p q r,S s t u]]:=pV [] false [] Tryz.func190 Qk Qk
def K2(c:OA)(w:Wo)(R:RT):= c.isSome=true/\(∃G q a6,Q2 [] w c (0+3) [S G q a6]/\(∃(k:List Va->Prop) (h:List Va->Nat),k [I 0]/\∀(a:Int),k [I a]->((decide (a<(q:Int)))=true->Ix G q a/\(∃(g:Bool) (E:Int) (u:ByteArray) (i j A x l z v B:Int) (s:OA) (D y:Nat) (o:OA) (r t:Nat) (m:OA) (d C:Nat),Q2 [] w G (Int.toNat a*14) [.bool g,I E,.string u,I i,I j,I A,I x,I l,I z,I v,I B,S s D y,S o r t,S m d C]/\(∀a1,w.heap.size<=a1->((!g)=true->(∃L,PX [] Vj #[.agg #[.bool g,I E,.string u,I i,I j,I A,I x,I l,I z,I v,I B,S s D y,S o r t,S m d C]] w (.bool L)/\((!L)=true->R (.bool false) w)/\((!L)=false->Qq .i64 (a+1)/\k [I (a+1)]/\h [I (a+1)]<h [I a])))/\((!g)=false->(∃b,PX [] XE #[I i] w (.bool b)/\(∃e,((!b)=false->PX [] JS #[I j] w (.bool e))/\(((!b)||(!e))=false->(∀H,w.heap.size<=H->(∃f,(((!b)||(!e))=false->(∀F,Q0 [] w F->F.heap[H]? = some (Obj.cells ([I l]:List Va).toArray Qb (0,0))->PX [] ZA #[S (some (Addr.mk H 0 none)) 1 1] F (.bool f)))/\((((!b)||(!e))||(!f))=false->c.isSome=true)/\(∃b5 n b1,((((!b)||(!e))||(!f))=false->Q2 [] w c (0+1) [S b5 n b1])/\(∃J,(((((!b)||(!e))||(!f))||((d:Int) != (n:Int)))=false->PX [] Xc #[.pointer c,.agg #[.bool g,I E,.string u,I i,I j,I A,I x,I l,I z,I v,I B,S s D y,S o r t,S m d C]] w (.bool J))/\((((((!b)||(!e))||(!f))||((d:Int) != (n:Int)))||(!J))=true->R (.bool false) w)/\((((((!b)||(!e))||(!f))||((d:Int) != (n:Int)))||(!J))=false->Qq .i64 (a+1)/\k [I (a+1)]/\h [I (a+1)]<h [I a]))))))/\((((!b)||(!e))=false->False)->(true=false->c.isSome=true)/\(∃b6 p a4,(true=false->Q2 [] w c (0+1) [S b6 p a4])/\(∃K,((true||((d:Int) != (p:Int)))=false->PX [] Xc #[.pointer c,.agg #[.bool g,I E,.string u,I i,I j,I A,I x,I l,I z,I v,I B,S s D y,S o r t,S m d C]] w (.bool K))/\(((true||((d:Int) != (p:Int)))||(!K))=true->R (.bool false) w)/\(((true||((d:Int) != (p:Int)))||(!K))=false->Qq .i64 (a+1)/\k [I (a+1)]/\h [I (a+1)]<h [I a]))))))))))/\((decide (a<(q:Int)))=false->c.isSome=true/\(∃M N a0,Q2 [] w c (0+3) [S M N a0]/\Ix M N 0/\(∃(b0:Bool) (a2:Int) (V:ByteArray) (O Q T Z b3 P a7 X:Int) (a5:OA) (Y b2:Nat) (U:OA) (b7 b4:Nat) (b8:OA) (a3 a8:Nat),Q2 [] w M (Int.toNat 0*14) [.bool b0,I a2,.string V,I O,I Q,I T,I Z,I b3,I P,I a7,I X,S a5 Y b2,S U b7 b4,S b8 a3 a8]/\(∀a9,w.heap.size<=a9->R (.bool (((O==10)&&(Q==15))&&(P==0))) w))))))
theorem Kb(a):YQ (K2 a) YU #[.pointer a]:=pV [] false [(2,⟨[(11,Ri)],[],[0,9,10],[],[]⟩)] Tryz.func88 Qk Qk
def H9(c:OA)(a:Int)(w:Wo)(R:RT):= (∀b,w.heap.size<=b->R (.agg #[.pointer c,I a]) w)
theorem D3(a b):YQ (H9 a b) X4 #[.pointer a,I b]:=pV [] false [] Tryz.func79 Qk Qk
def Nv(c d:Int)(w:Wo)(R:RT):= (∃a,PX [] JC #[I c] w (.bool a)/\(∃b,((!a)=false->PX [] JC #[I d] w (.bool b))/\(((!a)||(!b))=true->R (I 0) w)/\(((!a)||(!b))=false->R (I (VJ .and .i64 c d)) w)))
theorem AV(a b):YQ (Nv a b) J2 #[I a,I b]:=pV [] false [] Tryz.func204 Qk Qk
def Ha(b:OA)(u:Int)(w:Wo)(R:RT):= (∃k,PX [] YA #[.pointer b] w (I k)/\(∃(g:List Va->Prop) (o:List Va->Nat),g [I u,I k]/\∀(a c:Int),g [I a,I c]->((a != 0)=true->b.isSome=true/\(∃f j s,Q2 [] w b (0+3) [S f j s]/\Ix f j a/\(∃n,Q2 [] w f (Int.toNat a*14+4) [I n]/\(∃e,PX [] J2 #[I c,I n] w (I e)/\b.isSome=true/\(∃i l r,Q2 [] w b (0+3) [S i l r]/\Ix i l a/\(∃d,Q2 [] w i (Int.toNat a*14+1) [I d]/\g [I d,I e]/\o [I d,I e]<o [I a,I c]))))))/\((a != 0)=false->b.isSome=true/\(∃h m t,Q2 [] w b (0+3) [S h m t]/\Ix h m 0/\(∃p,Q2 [] w h (Int.toNat 0*14+4) [I p]/\(∃q,PX [] J2 #[I c,I p] w (I q)/\R (I q) w))))))
theorem D4(a b):YQ (Ha a b) UF #[.pointer a,I b]:=pV [] false [(2,⟨[(1,Ri),(5,Ri)],[],[0],[],[]⟩)] Tryz.func203 Qk Qk
def Mq(c:OA)(e f:Int)(w:Wo)(R:RT):= (∃a,PX [] UF #[.pointer c,I f] w (I a)/\(∃b,PX [] J2 #[I e,I a] w (I b)/\((b != 0)=true->R (I b) w)/\((b != 0)=false->((a != 0)=true->R (I a) w)/\((a != 0)=false->(∃d,PX [] YA #[.pointer c] w (I d)/\R (I d) w)))))
theorem MD(a b c):YQ (Mq a b c) XC #[.pointer a,I b,I c]:=pV [] false [] Tryz.func117 Qk Qk
def Kd(a:OA)(b:Int)(w:Wo)(R:RT):= a.isSome=true/\(∃c i k,Q2 [] w a (0+2) [S c i k]/\Ix c i b/\(∃h,Q2 [] w c (Int.toNat b*9+4) [I h]/\a.isSome=true/\(∃d f j,Q2 [] w a (0+2) [S d f j]/\Ix d f b/\(∃e,Q2 [] w d (Int.toNat b*9+1) [I e]/\(∃g,PX [] XC #[.pointer a,I h,I e] w (I g)/\R (I g) w)))))
theorem KQ(a b):YQ (Kd a b) Jh #[.pointer a,I b]:=pV [] false [] Tryz.func107 Qk Qk
def Hc(d b:Int)(w:Wo)(R:RT):= (∃a,PX [] Jl #[I d] w (.bool a)/\(∃c,(a=true->PX [] Qz #[I b,I 0,I 3] w (.bool c))/\((a&&c)=true->0<=b)/\R (.bool ((a&&c)&&((VJ .and .i64 (Int.fdiv d (2 ^ (min (Int.toNat b) 64))) 1)==1))) w))
theorem D6(a b):YQ (Hc a b) UH #[I a,I b]:=pV [] false [] Tryz.func205 Qk Qk
def Nw(b c:Int)(w:Wo)(R:RT):= (∃a,PX [] UH #[I b,I c] w (.bool a)/\R (.bool a) w)
theorem AW(a b):YQ (Nw a b) O1 #[I a,I b]:=pV [] false [] Tryz.func118 Qk Qk
def CQ(b:Int)(w:Wo)(R:RT):= (∃a,PX [] Qz #[I b,I (-10),I 9] w (.bool a)/\R (.bool a) w)
theorem za9(a):YQ (CQ a) Vk #[I a]:=pV [] false [] Tryz.func125 Qk Qk
def He(d:OA)(e g:Int)(w:Wo)(R:RT):= (∀h,w.heap.size<=h->d.isSome=true/\(∃a c j,Q2 [] w d (0+3) [S a c j]/\Ix a c g/\(∃b f i,Q2 [] w a (Int.toNat g*14+13) [S b f i]/\Ix b f e/\R (.pointer (b.map (·.add (Int.toNat e*5)))) w)))
theorem D8(a b c):YQ (He a b c) Z6 #[.agg #[.pointer a,I b],I c]:=pV [] false [] Tryz.func133 Qk Qk
def CP(b:Int)(w:Wo)(R:RT):= (∃a,PX [] Qz #[I b,I 0,I 8000000] w (.bool a)/\R (.bool a) w)
theorem za8(a):YQ (CP a) OK #[I a]:=pV [] false [] Tryz.func191 Qk Qk
def Gc(w:Wo)(R:RT):= (∀Y,w.heap.size<=Y->(∀Z,w.heap.size<=Z->(∃(N:List Va->Prop) (X:List Va->Nat),N [I 1,I 0,I 0,I 0,I 0,I 0,I 0,I 0,I 0,I 0,I 0,I 0,I 0,I 0,I 0,I 0,I 0,I 0,I 0,I 0,I 0,I 0]/\∀(a c i o l n m h t j d s u p b q v k e f r g:Int),N [I a,I c,I i,I o,I l,I n,I m,I h,I t,I j,I d,I s,I u,I p,I b,I q,I v,I k,I e,I f,I r,I g]->((decide (a<=20))=true->(a≠0/\Qq .i64 (Int.tdiv 232792560 a))/\(0<=a/\a<(21:Int))/\(Int.toNat a+0<21)/\(∃C z D Q y B J K x H O M A U E F P G L V T,([I c,I i,I o,I l,I n,I m,I h,I t,I j,I d,I s,I u,I p,I b,I q,I v,I k,I e,I f,I r,I g]:List Va).set (Int.toNat a+0) (I (Int.tdiv 232792560 a))=[I C,I z,I D,I Q,I y,I B,I J,I K,I x,I H,I O,I M,I A,I U,I E,I F,I P,I G,I L,I V,I T]/\Qq .i64 (a+1)/\N [I (a+1),I C,I z,I D,I Q,I y,I B,I J,I K,I x,I H,I O,I M,I A,I U,I E,I F,I P,I G,I L,I V,I T]/\X [I (a+1),I C,I z,I D,I Q,I y,I B,I J,I K,I x,I H,I O,I M,I A,I U,I E,I F,I P,I G,I L,I V,I T]<X [I a,I c,I i,I o,I l,I n,I m,I h,I t,I j,I d,I s,I u,I p,I b,I q,I v,I k,I e,I f,I r,I g]))/\((decide (a<=20))=false->R (.agg #[I c,I i,I o,I l,I n,I m,I h,I t,I j,I d,I s,I u,I p,I b,I q,I v,I k,I e,I f,I r,I g]) w))))
theorem GN:YQ Gc U9 #[]:=pV [] false [(3,⟨[(2,.int .i64)],[(1,[.int .i64,.int .i64,.int .i64,.int .i64,.int .i64,.int .i64,.int .i64,.int .i64,.int .i64,.int .i64,.int .i64,.int .i64,.int .i64,.int .i64,.int .i64,.int .i64,.int .i64,.int .i64,.int .i64,.int .i64,.int .i64])],[0,1],[],[]⟩)] Tryz.func208 Qk Qk
def G8(e a:Int)(w:Wo)(R:RT):= (∃b,PX [] Qz #[I e,I 0,I 100000000] w (.bool b)/\(∃c,((!b)=false->PX [] XE #[I a] w (.bool c))/\(((!b)||(!c))=true->R (I 0) w)/\(((!b)||(!c))=false->(∃u f g k n x s z i q l o m r y t v j A h p,PX [] U9 #[] w (.agg #[I u,I f,I g,I k,I n,I x,I s,I z,I i,I q,I l,I o,I m,I r,I y,I t,I v,I j,I A,I h,I p])/\(∃d,(0<=a/\a<(21:Int)/\(#[I u,I f,I g,I k,I n,I x,I s,I z,I i,I q,I l,I o,I m,I r,I y,I t,I v,I j,I A,I h,I p]:Array Va)[Int.toNat a]? = some (I d))/\Qq .i64 (e*d)/\R (I (e*d)) w)))))
theorem GJ(a b):YQ (G8 a b) YO #[I a,I b]:=pV [] false [] Tryz.func134 Qk Qk
def Nu(b:Int)(w:Wo)(R:RT):= (∃a,PX [] YO #[I 149,I b] w (I a)/\R (I a) w)
theorem AU(a):YQ (Nu a) O0 #[I a]:=pV [] false [] Tryz.func40 Qk Qk
def CR(b a d:Int)(w:Wo)(R:RT):= ((decide (b>=a))=true->Qq .i64 (b-a))/\(∃c,((decide (b>=a))=true->PX [] O0 #[I d] w (I c))/\R (.bool ((decide (b>=a))&&(decide (b-a<=c)))) w)
theorem zba(a b c):YQ (CR a b c) Vl #[I a,I b,I c]:=pV [] false [] Tryz.func192 Qk Qk
def Fv(b:Int)(w:Wo)(R:RT):= (∃a,PX [] Vk #[I b] w (.bool a)/\((!a)=true->R (I 0) w)/\((!a)=false->Qq .i64 (10-b)/\R (I (10-b)) w))
theorem BL(a):YQ (Fv a) JQ #[I a]:=pV [] false [] Tryz.func193 Qk Qk
def Kg(e:OA)(w:Wo)(R:RT):= e.isSome=true/\(∃C s P,Q2 [] w e (0+2) [S C s P]/\(∃(k:List Va->Prop) (d:List Va->Nat),k [I 0]/\∀(b:Int),k [I b]->((decide (b<(s:Int)))=true->Ix C s b/\(∃a m g f q j o r p,Q2 [] w C (Int.toNat b*9) [I a,I m,I g,I f,I q,I j,I o,I r,I p]/\(∀O,w.heap.size<=O->(∃y,(∀H,((do eqGuard .eql QN (.tmp 16) (.tmp 17) (.agg #[I a,I m,I g,I f,I q,I j,I o,I r,I p]) (.agg #[I 0,I 0,I 0,I 0,I 0,I 0,I 0,I 0,I 0]); binOp .eql QN (.agg #[I a,I m,I g,I f,I q,I j,I o,I r,I p]) (.agg #[I 0,I 0,I 0,I 0,I 0,I 0,I 0,I 0,I 0])):Sem Va).run Tryz.prog H=.ok (.bool y) H)/\(y=true->Qq .i64 (b+1)/\k [I (b+1)]/\d [I (b+1)]<d [I b])/\(y=false->(((a != 1)&&(a != 2))=false->e.isSome=true)/\(∃M F K,(((a != 1)&&(a != 2))=false->Q2 [] w e (0+3) [S M F K])/\(∃l,(((a != 1)&&(a != 2))=false->PX [] YK #[S M F K,I m] w (.bool l))/\(∃n,((((a != 1)&&(a != 2))||(!l))=false->PX [] Vk #[I f] w (.bool n))/\(∃D,(((((a != 1)&&(a != 2))||(!l))||(!n))=false->PX [] JS #[I q] w (.bool D))/\((((((a != 1)&&(a != 2))||(!l))||(!n))||(!D))=true->R (.bool false) w)/\((((((a != 1)&&(a != 2))||(!l))||(!n))||(!D))=false->(∀B,w.heap.size<=B->(∃c,(∀t,Q0 [] w t->t.heap[B]? = some (Obj.cells ([I j,I o,I r]:List Va).toArray Qb (0,0))->PX [] ZA #[S (some (Addr.mk B 0 none)) 3 3] t (.bool c))/\(∃h,((!c)=false->PX [] OK #[I p] w (.bool h))/\(∃L,(((!c)||(!h))=false->PX [] Jh #[.pointer e,I b] w (I L))/\(∃E,(((!c)||(!h))=false->PX [] O1 #[I L,I g] w (.bool E))/\((((!c)||(!h))||(!E))=true->R (.bool false) w)/\((((!c)||(!h))||(!E))=false->(∃J G,PX [] X4 #[.pointer e,I g] w (.agg #[.pointer J,I G])/\(∃A,PX [] Z6 #[.agg #[.pointer J,I G],I m] w (.pointer A)/\A.isSome=true/\(∃v,Q2 [] w A (0+0) [I v]/\((a==1)=true->(∀x,w.heap.size<=x->(∃i,((a==1)=true->(∀u,Q0 [] w u->u.heap[x]? = some (Obj.cells ([I v]:List Va).toArray Qb (0,0))->PX [] ZA #[S (some (Addr.mk x 0 none)) 1 1] u (.bool i)))/\(∃N,((!i)=false->((a==1)=true->PX [] JQ #[I f] w (I N)))/\(∃z,((!i)=false->((a==1)=true->PX [] Vl #[I j,I v,I N] w (.bool z)))/\(((a==1)&&((!i)||(!z)))=true->R (.bool false) w)/\(((a==1)&&((!i)||(!z)))=false->Qq .i64 (b+1)/\k [I (b+1)]/\d [I (b+1)]<d [I b]))))))/\(((a==1)=true->False)->(false=true->R (.bool false) w)/\(false=false->Qq .i64 (b+1)/\k [I (b+1)]/\d [I (b+1)]<d [I b])))))))))))))))))))))/\((decide (b<(s:Int)))=false->R (.bool true) w)))
theorem KT(a):YQ (Kg a) Xe #[.pointer a]:=pV [] false [(2,⟨[(11,Ri)],[],[0,9,10],[],[]⟩)] Tryz.func89 Qk Qk
def Gb(c:OA)(l d r:Int)(w:Wo)(R:RT):= (∀i,w.heap.size<=i->c.isSome=true/\(∃a g m,Q2 [] w c (0+2) [S a g m]/\Ix a g d/\(∃b f e k q p j n o,Q2 [] w a (Int.toNat d*9) [I b,I f,I e,I k,I q,I p,I j,I n,I o]/\(∀h,w.heap.size<=h->R (.bool (((b==1)&&(f==r))&&(e==l))) w))))
theorem GM(a b c d):YQ (Gb a b c d) U8 #[.agg #[.pointer a,I b],I c,I d]:=pV [] false [] Tryz.func235 Qk Qk
def Hd(d:OA)(m a e:Int)(w:Wo)(R:RT):= (∀l,w.heap.size<=l->((a != 0)=true->d.isSome=true)/\(∃f i n,((a != 0)=true->Q2 [] w d (0+3) [S f i n])/\((a != 0)=true->Ix f i a)/\(∃b,((a != 0)=true->Q2 [] w f (Int.toNat a*14+0) [.bool b])/\(((a != 0)&&b)=true->d.isSome=true)/\(∃h k o,(((a != 0)&&b)=true->Q2 [] w d (0+3) [S h k o])/\(((a != 0)&&b)=true->Ix h k a)/\(∃c,(((a != 0)&&b)=true->Q2 [] w h (Int.toNat a*14+1) [I c])/\(∃g,((((a != 0)&&b)&&(c==e))=true->PX [] Z6 #[.agg #[.pointer d,I m],I a] w (.pointer g))/\((((a != 0)&&b)&&(c==e))=true->g.isSome=true)/\(∃j,((((a != 0)&&b)&&(c==e))=true->Q2 [] w g (0+1) [.bool j])/\R (.bool ((((a != 0)&&b)&&(c==e))&&j)) w)))))))
theorem D7(a b c d):YQ (Hd a b c d) UI #[.agg #[.pointer a,I b],I c,I d]:=pV [] false [] Tryz.func236 Qk Qk
def G9(c:OA)(l m:Int)(w:Wo)(R:RT):= (∀o,w.heap.size<=o->c.isSome=true/\(∃p i q,Q2 [] w c (0+2) [S p i q]/\(∃(d:List Va->Prop) (k:List Va->Nat),d [I 0]/\∀(a:Int),d [I a]->((decide (a<(i:Int)))=true->(∃f,PX [] U8 #[.agg #[.pointer c,I l],I a,I m] w (.bool f)/\(f=true->R (.bool true) w)/\(f=false->Qq .i64 (a+1)/\d [I (a+1)]/\k [I (a+1)]<k [I a])))/\((decide (a<(i:Int)))=false->c.isSome=true/\(∃n e r,Q2 [] w c (0+3) [S n e r]/\(∃(g:List Va->Prop) (j:List Va->Nat),g [I 0]/\∀(b:Int),g [I b]->((decide (b<(e:Int)))=true->(∃h,PX [] UI #[.agg #[.pointer c,I l],I b,I m] w (.bool h)/\(h=true->R (.bool true) w)/\(h=false->Qq .i64 (b+1)/\g [I (b+1)]/\j [I (b+1)]<j [I b])))/\((decide (b<(e:Int)))=false->R (.bool false) w)))))))
theorem GK(a b c):YQ (G9 a b c) U6 #[.agg #[.pointer a,I b],I c]:=pV [] false [(2,⟨[(13,Ri)],[],[1,2,12],[],[]⟩),(8,⟨[(27,Ri)],[],[1,2,26],[],[]⟩)] Tryz.func165 Qk Qk
def Fy(e:OA)(f i:Int)(w:Wo)(R:RT):= (∀l,w.heap.size<=l->e.isSome=true/\(∃b d p,Q2 [] w e (0+3) [S b d p]/\Ix b d i/\(∃a q r o j n c h m,Q2 [] w b (Int.toNat i*14+8) [I a,I q,I r,S o j n,S c h m]/\(∀k,w.heap.size<=k->((decide (a>0))=true->Ix c h f)/\(∃g,((decide (a>0))=true->Q2 [] w c (Int.toNat f*1) [.bool g])/\R (.bool ((decide (a>0))&&g)) w)))))
theorem BN(a b c):YQ (Fy a b c) T1 #[.agg #[.pointer a,I b],I c]:=pV [] false [] Tryz.func194 Qk Qk
def Mr(o:OA)(w:Wo)(R:RT):= o.isSome=true/\(∃G p b0,Q2 [] w o (0+3) [S G p b0]/\(∃(H:List Va->Prop) (U:List Va->Nat),H [I 0]/\∀(h:Int),H [I h]->((decide (h<(p:Int)))=true->Ix G p h/\(∃(a8:Bool) (c7:Int) (a9:ByteArray) (a2 c0 b8 b2 c5 b7 b1 b9:Int) (a4:OA) (c6 b4:Nat) (a1:OA) (a3 a6:Nat) (u:OA) (s c4:Nat),Q2 [] w G (Int.toNat h*14) [.bool a8,I c7,.string a9,I a2,I c0,I b8,I b2,I c5,I b7,I b1,I b9,S a4 c6 b4,S a1 a3 a6,S u s c4]/\(∀a7,w.heap.size<=a7->(∃(F:List Va->Prop) (L:List Va->Nat),F [I 0]/\∀(g:Int),F [I g]->((decide (g<(s:Int)))=true->Ix u s g/\(∃Z c1 M V a0,Q2 [] w u (Int.toNat g*5) [I Z,.bool c1,I M,I V,I a0]/\(∀c2,w.heap.size<=c2->(∀z,w.heap.size<=z->(∃r,(∀v,Q0 [] w v->v.heap[z]? = some (Obj.cells ([I Z,I M,I a0]:List Va).toArray Qb (0,0))->PX [] ZA #[S (some (Addr.mk z 0 none)) 3 3] v (.bool r))/\(∃B,((!r)=false->PX [] XE #[I V] w (.bool B))/\(((!r)||(!B))=true->R (.bool false) w)/\(((!r)||(!B))=false->Qq .i64 (g+1)/\F [I (g+1)]/\L [I (g+1)]<L [I g])))))))/\((decide (g<(s:Int)))=false->Qq .i64 (h+1)/\H [I (h+1)]/\U [I (h+1)]<U [I h])))))/\((decide (h<(p:Int)))=false->o.isSome=true/\(∃c3 x b5,Q2 [] w o (0+1) [S c3 x b5]/\(∃(D:List Va->Prop) (P:List Va->Nat),D [I 0]/\∀(j:Int),D [I j]->((decide (j<(x:Int)))=true->(∃f m,PX [] X4 #[.pointer o,I j] w (.agg #[.pointer f,I m])/\(∀b6,w.heap.size<=b6->(∃l,PX [] Z6 #[.agg #[.pointer f,I m],I 0] w (.pointer l)/\l.isSome=true/\(∃k,Q2 [] w l (0+1) [.bool k]/\(k=false->l.isSome=true)/\(∃n,(k=false->Q2 [] w l (0+2) [I n])/\((k||(n != 0))=false->l.isSome=true)/\(∃C,((k||(n != 0))=false->Q2 [] w l (0+3) [I C])/\(((k||(n != 0))||(C != 10))=true->R (.bool false) w)/\(((k||(n != 0))||(C != 10))=false->(∃(q:List Va->Prop) (t:List Va->Nat),q [I 1]/\∀(a:Int),q [I a]->((decide (a<8))=true->f.isSome=true/\(∃K N a5,Q2 [] w f (0+3) [S K N a5]/\Ix K N a/\(∃A,Q2 [] w K (Int.toNat a*14+0) [.bool A]/\((!A)=true->Qq .i64 (a+1)/\q [I (a+1)]/\t [I (a+1)]<t [I a])/\((!A)=false->(∃i,PX [] Z6 #[.agg #[.pointer f,I m],I a] w (.pointer i)/\i.isSome=true/\(∃d,Q2 [] w i (0+1) [.bool d]/\(∃b,PX [] U6 #[.agg #[.pointer f,I m],I a] w (.bool b)/\(∃c,(b=true->PX [] T1 #[.agg #[.pointer f,I m],I a] w (.bool c))/\((!(d==(b&&(!c))))=false->i.isSome=true)/\(∃e,((!(d==(b&&(!c))))=false->Q2 [] w i (0+1) [.bool e])/\(e=true->((!(d==(b&&(!c))))=false->i.isSome=true))/\(∃X,(e=true->((!(d==(b&&(!c))))=false->Q2 [] w i (0+2) [I X]))/\(e=true->((!(d==(b&&(!c))))=false->f.isSome=true))/\(∃J O b3,(e=true->((!(d==(b&&(!c))))=false->Q2 [] w f (0+3) [S J O b3]))/\(e=true->((!(d==(b&&(!c))))=false->Ix J O a))/\(∃Q,(e=true->((!(d==(b&&(!c))))=false->Q2 [] w J (Int.toNat a*14+1) [I Q]))/\(∃y,(e=true->((!(d==(b&&(!c))))=false->PX [] Z6 #[.agg #[.pointer f,I m],I Q] w (.pointer y)))/\(e=true->((!(d==(b&&(!c))))=false->y.isSome=true))/\(∃Y,(e=true->((!(d==(b&&(!c))))=false->Q2 [] w y (0+0) [I Y]))/\(e=true->((!(d==(b&&(!c))))=false->i.isSome=true))/\(∃T,(e=true->((!(d==(b&&(!c))))=false->Q2 [] w i (0+3) [I T]))/\(∃E,
 (e=true->((!(d==(b&&(!c))))=false->PX [] Vl #[I X,I Y,I T] w (.bool E)))/\(((!(d==(b&&(!c))))||(e&&(!E)))=true->R (.bool false) w)/\(((!(d==(b&&(!c))))||(e&&(!E)))=false->Qq .i64 (a+1)/\q [I (a+1)]/\t [I (a+1)]<t [I a])))))))))))))))))/\((decide (a<8))=false->Qq .i64 (j+1)/\D [I (j+1)]/\P [I (j+1)]<P [I j]))))))))))/\((decide (j<(x:Int)))=false->R (.bool true) w))))))
theorem ME(a):YQ (Mr a) YJ #[.pointer a]:=pV [] false [(2,⟨[(17,Ri)],[],[0,15,16],[],[]⟩),(5,⟨[(24,Ri)],[],[0,15,16,17,22,23],[],[]⟩),(12,⟨[(50,Ri)],[],[0,49],[],[]⟩),(19,⟨[(10,Ri)],[],[0,8,49,50],[],[]⟩)] Tryz.func90 Qk Qk
def Ms(b:OA)(d:Int)(w:Wo)(R:RT):= b.isSome=true/\(∃h c j,Q2 [] w b (0+2) [S h c j]/\Qq .i64 ((c:Int)-1)/\(∃a,PX [] Qz #[I d,I 0,I ((c:Int)-1)] w (.bool a)/\(a=true->b.isSome=true)/\(∃e g i,(a=true->Q2 [] w b (0+2) [S e g i])/\(a=true->Ix e g d)/\(∃f,(a=true->Q2 [] w e (Int.toNat d*9+0) [I f])/\R (.bool (a&&(f != 0))) w))))
theorem MF(a b):YQ (Ms a b) XD #[.pointer a,I b]:=pV [] false [] Tryz.func104 Qk Qk
def Ga(b:OA)(f n:Int)(w:Wo)(R:RT):= (∀r,w.heap.size<=r->b.isSome=true/\(∃j p s,Q2 [] w b (0+2) [S j p s]/\Ix j p n/\(∃e o g q y x u A v,Q2 [] w j (Int.toNat n*9) [I e,I o,I g,I q,I y,I x,I u,I A,I v]/\(∀z,w.heap.size<=z->(((e != 1)||(g != f))=true->R (.bool false) w)/\(((e != 1)||(g != f))=false->(∃(k:List Va->Prop) (m:List Va->Nat),k [I o]/\∀(a:Int),k [I a]->((a != 0)=true->(∃h,PX [] Z6 #[.agg #[.pointer b,I f],I a] w (.pointer h)/\h.isSome=true/\(∃c,Q2 [] w h (0+1) [.bool c]/\((!c)=true->R (.bool false) w)/\((!c)=false->b.isSome=true/\(∃i l t,Q2 [] w b (0+3) [S i l t]/\Ix i l a/\(∃d,Q2 [] w i (Int.toNat a*14+1) [I d]/\k [I d]/\m [I d]<m [I a]))))))/\((a != 0)=false->R (.bool true) w)))))))
theorem GL(a b c):YQ (Ga a b c) U7 #[.agg #[.pointer a,I b],I c]:=pV [] false [(5,⟨[(6,Ri)],[],[2],[],[]⟩)] Tryz.func168 Qk Qk
def Lx(b:OA)(w:Wo)(R:RT):= b.isSome=true/\(∃K m a7,Q2 [] w b (0+1) [S K m a7]/\(∃(t:List Va->Prop) (p:List Va->Nat),t [I 0]/\∀(a:Int),t [I a]->((decide (a<(m:Int)))=true->Ix K m a/\(∃e c f n s,Q2 [] w K (Int.toNat a*5) [.bool e,I c,I f,I n,I s]/\(∀a4,w.heap.size<=a4->(∀J,w.heap.size<=J->(∃A,(∀y,Q0 [] w y->y.heap[J]? = some (Obj.cells ([I n,I s]:List Va).toArray Qb (0,0))->PX [] ZA #[S (some (Addr.mk J 0 none)) 2 2] y (.bool A))/\((!A)=true->R (.bool false) w)/\((!A)=false->(((c==(-1))&&(f==0))=true->Qq .i64 (a+1)/\t [I (a+1)]/\p [I (a+1)]<p [I a])/\(((c==(-1))&&(f==0))=false->(∃h g,PX [] X4 #[.pointer b,I a] w (.agg #[.pointer h,I g])/\(∀a6,w.heap.size<=a6->(∃j,((!e)=false->PX [] XD #[.pointer b,I c] w (.bool j))/\(∃o,(((!e)||(!j))=false->PX [] U7 #[.agg #[.pointer h,I g],I c] w (.bool o))/\(∃G,((((!e)||(!j))||(!o))=false->PX [] Qz #[I f,I 1,I 149] w (.bool G))/\(((((!e)||(!j))||(!o))||(!G))=true->R (.bool false) w)/\(((((!e)||(!j))||(!o))||(!G))=false->b.isSome=true/\(∃k M U,Q2 [] w b (0+2) [S k M U]/\Ix k M c/\(∃X u P C a0 i V a1 Z,Q2 [] w k (Int.toNat c*9) [I X,I u,I P,I C,I a0,I i,I V,I a1,I Z]/\(∀a8,w.heap.size<=a8->Q2 [] w k (Int.toNat c*9) [I X,I u,I P,I C,I a0,I i,I V,I a1,I Z]/\(some (Zq,([.bool e,I c,I f,I n,I s]:List Va))=some (Zq,([.bool e,I c,I f,I n,I s]:List Va)))/\Q2 [] w b (0+2) [S k M U]/\(∃E,PX [] Z6 #[.agg #[.pointer h,I g],I u] w (.pointer E)/\E.isSome=true/\(∃q,Q2 [] w E (0+0) [I q]/\Qq .i64 (i-q)/\(∃a2,PX [] JQ #[I C] w (I a2)/\(∃B,PX [] YO #[I f,I a2] w (I B)/\((decide (i-q>B))=true->R (.bool false) w)/\((decide (i-q>B))=false->(∃(F:List Va->Prop) (N:List Va->Nat),F [I u]/\∀(d:Int),F [I d]->((d != 0)=true->(∃l,PX [] Z6 #[.agg #[.pointer h,I g],I d] w (.pointer l)/\l.isSome=true/\(∃r,Q2 [] w l (0+2) [I r]/\b.isSome=true/\(∃H O a5,Q2 [] w b (0+3) [S H O a5]/\Ix H O d/\(∃T,Q2 [] w H (Int.toNat d*14+1) [I T]/\(∃D,PX [] Z6 #[.agg #[.pointer h,I g],I T] w (.pointer D)/\D.isSome=true/\(∃v,Q2 [] w D (0+0) [I v]/\Qq .i64 (r-v)/\l.isSome=true/\(∃Y,Q2 [] w l (0+3) [I Y]/\(∃z,PX [] YO #[I f,I Y] w (I z)/\((decide (r-v>z))=true->R (.bool false) w)/\((decide (r-v>z))=false->b.isSome=true/\(∃L Q a3,Q2 [] w b (0+3) [S L Q a3]/\Ix L Q d/\(∃x,Q2 [] w L (Int.toNat d*14+1) [I x]/\F [I x]/\N [I x]<N [I d]))))))))))))/\((d != 0)=false->Qq .i64 (a+1)/\t [I (a+1)]/\p [I (a+1)]<p [I a])))))))))))))))))))))))/\((decide (a<(m:Int)))=false->R (.bool true) w)))
theorem LK(a):YQ (Lx a) Xm #[.pointer a]:=pV [] false [(2,⟨[(14,Ri)],[],[0,12,13],[],[]⟩),(14,⟨[(7,Ri)],[],[0,4,5,12,13,14],[],[]⟩)] Tryz.func91 Qk Qk
def Nx(u:Int)(s:OA)(q z:Nat)(r:OA)(B t:Nat)(p:OA)(y v:Nat)(w:Wo)(R:RT):= (∀f e,Q0 [] w e->w.heap.size<=f->e.heap[f]? = some (Obj.cells ([I u,S s q z,S r B t,S p y v]:List Va).toArray Q3 (0,0))->f∉([]:List Nat)->(∀b,e.heap.size<=b->(∃(i:List Va->Wo->Prop) (k:List Va->Wo->Nat),(AX [] [b] e fun A=>i [.bool true,I 0] A)/\∀(c:Bool) (a:Int) d,(∀bq∈[b],bq<d.heap.size)->i [.bool c,I a] d->((decide (a<5))=true->(∃(l:Fn) (j:Array Va) (o:Array Va),(0<=a/\a<(5:Int)/\(#[.func (.func Xd) #[] #[],.func (.func YU) #[] #[],.func (.func Xe) #[] #[],.func (.func YJ) #[] #[],.func (.func Xm) #[] #[]]:Array Va)[Int.toNat a]? = some (.func l j o))/\(AY [b] d fun m=>ML Tryz.prog (.func l j o) [.pointer ((some (Addr.mk f 0 none)).map (·.add 0))] m fun x h=>(∃g,x=.returned (.bool g)/\Q9 [b] m h/\((!g)=true->(AR [b] h R (.bool false)))/\((!g)=false->Qq .i64 (a+1)/\(AY [b] h fun n=>i [.bool c,I (a+1)] n/\k [.bool c,I (a+1)] n<k [.bool c,I a] d))))))/\((decide (a<5))=false->(AR [b] d R (.bool c))))))
theorem A0(a b c d e f g h i j):JA (Nx a b c d e f g h i j) O2 #[Wv a b c d e f g h i j]:=eV [1] false [(4,⟨[(4,.bool),(9,Ri)],[],[1,8],[],[]⟩)] Tryz.func21 Qk Qk
def Fw(x A u:Int)(B:OA)(j y:Nat)(t:OA)(c z:Nat)(w:Wo)(R:RT):= (∀a,w.heap.size<=a->(∀b,w.heap.size<=b->(AX [] [a,b] w fun r=>(∃e d m,∃n,((Instr.makeSlice Z1 (I (j:Int)) (I (j:Int))):Sem Va).run Tryz.prog r=.ok (S e d m) n/\Q9 [a,b] r n/\(AY [a,b] n fun o=>(∃v,∃i,(builtin .copy #[Z1,Z1] Qb #[false,false] #[S e d m,S B j y]).run Tryz.prog o=.ok (.value (I v)) i/\Q9 [a,b] o i/\(AY [a,b] i fun p=>(∃k g l,∃f,((Instr.makeSlice Xy (I (c:Int)) (I (c:Int))):Sem Va).run Tryz.prog p=.ok (S k g l) f/\Q9 [a,b] p f/\(AY [a,b] f fun q=>(∃s,∃h,(builtin .copy #[Xy,Xy] Qb #[false,false] #[S k g l,S t c z]).run Tryz.prog q=.ok (.value (I s)) h/\Q9 [a,b] q h/\(AR [a,b] h R (.agg #[I x,I A,I u,S e d m,S k g l]))))))))))))
theorem B8(a b c d e f g h i):JA (Fw a b c d e f g h i) T0 #[.agg #[I a,I b,I c,S d e f,S g h i]]:=eV [] false [] Tryz.func242 Qk Qk
def DJ(p:Int)(b4:OA)(a9 c1:Nat)(b2:OA)(c3 b5:Nat)(r:OA)(a0 b7:Nat)(w:Wo)(R:RT):= (∀a,w.heap.size<=a->(∀c,w.heap.size<=c->(∀b,w.heap.size<=b->(AX [] [a,c,b] w fun a1=>(∃n m i,∃v,(builtin .append #[Zj,Zj] Zj #[false,false] #[S none 0 0,S b4 a9 c1]).run Tryz.prog a1=.ok (.value (S n m i)) v/\Q9 [a,c,b] a1 v/\(AY [a,c,b] v fun N=>(∃l o k,∃u,(builtin .append #[QT,QT] QT #[false,false] #[S none 0 0,S b2 c3 b5]).run Tryz.prog N=.ok (.value (S l o k)) u/\Q9 [a,c,b] N u/\(AY [a,c,b] u fun V=>(∃e f j,∃s,(builtin .append #[Qw,Qw] Qw #[false,false] #[S none 0 0,S r a0 b7]).run Tryz.prog V=.ok (.value (S e f j)) s/\Q9 [a,c,b] V s/\(∃(x:List Va->Wo->Prop) (J:List Va->Wo->Nat),(AY [a,c,b] s fun b6=>x [I 0] b6)/\∀(d:Int) h,(∀bq∈[a,c,b],bq<h.heap.size)->x [I d] h->((decide (d<(f:Int)))=true->Ix r a0 d/\(∃(b0:Bool) (c4:Int) (b1:ByteArray) (a8 b8 b9 b3 c2 Y Q Z:Int) (F:OA) (a3 U:Nat) (A:OA) (D H:Nat) (y:OA) (a4 a2:Nat),Q2 [a,c,b] h r (Int.toNat d*14) [.bool b0,I c4,.string b1,I a8,I b8,I b9,I b3,I c2,I Y,I Q,I Z,S F a3 U,S A D H,S y a4 a2]/\(∀g,h.heap.size<=g->(AX [a,c,b] [a,c,b,g] h fun a6=>Cz T0 #[.agg #[I Y,I Q,I Z,S F a3 U,S A D H]] a6 fun c0 t=>(∃O E L a5 B K T M P,c0=.returned (.agg #[I O,I E,I L,S a5 B K,S T M P])/\Q9 [a,c,b,g] a6 t/\(some (Q3,([I p,S n m i,S l o k,S e f j]:List Va))=some (Q3,([I p,S n m i,S l o k,S e f j]:List Va)))/\Ix e f d/\Xi [a,c,b,g] t e (Int.toNat d*14+8) 5/\(AY [a,c,b,g] (RD t e (Int.toNat d*14+8) [I O,I E,I L,S a5 B K,S T M P]) fun G=>(∃X z a7,∃q,(builtin .append #[Z0,Z0] Z0 #[true,false] #[S none 0 0,S y a4 a2]).run Tryz.prog G=.ok (.value (S X z a7)) q/\Q9 [a,c,b,g] G q/\(some (Q3,([I p,S n m i,S l o k,S e f j]:List Va))=some (Q3,([I p,S n m i,S l o k,S e f j]:List Va)))/\Ix e f d/\Xi [a,c,b,g] q e (Int.toNat d*14+13) 1/\Qq .i64 (d+1)/\(AY [a,c,b,g] (RD q e (Int.toNat d*14+13) [S X z a7]) fun C=>x [I (d+1)] C/\J [I (d+1)] C<J [I d] h))))))))/\((decide (d<(f:Int)))=false->(AR [a,c,b] h R (Wv p n m i l o k e f j)))))))))))))
theorem E6(a b c d e f g h i j):JA (DJ a b c d e f g h i j) Jm #[Wv a b c d e f g h i j]:=eV [] false [(6,⟨[(30,Ri)],[],[1,2,3,29],[],[]⟩)] Tryz.func172 Qk Qk
def Ny(p:Int)(l:OA)(j s:Nat)(k:OA)(u m:Nat)(i:OA)(r q:Nat)(a8:Fn)(b0:Array Va)(a3:Array Va)(w:Wo)(R:RT):= (∀a,w.heap.size<=a->(∀b,w.heap.size<=b->(∃t,PX [] O2 #[Wv p l j s k u m i r q] w (.bool t)/\((!t)=true->(AR [] w R (.tuple #[Wv 0 none 0 0 none 0 0 none 0 0,I 1])))/\((!t)=false->(CWx [] [a,b] Jm #[Wv p l j s k u m i r q] w fun U X Q V B x G C z v P=>( (∀c e,Q0 [a,b] P e->P.heap.size<=c->e.heap[c]? = some (Obj.cells ([I 0,S none 0 0,S none 0 0,S none 0 0]:List Va).toArray Q3 (0,0))->c∉([a,b]:List Nat)->Xi [a,b] e (some (Addr.mk c 0 none)) 0 4/\(∀d n,Q0 [a,b] (RD e (some (Addr.mk c 0 none)) 0 [I U,S X Q V,S B x G,S C z v]) n->(RD e (some (Addr.mk c 0 none)) 0 [I U,S X Q V,S B x G,S C z v]).heap.size<=d->n.heap[d]? = some (Obj.cells ([I 0]:List Va).toArray Z3 (0,0))->d∉([a,b]:List Nat)->(AY [a,b] n fun H=>ML Tryz.prog (.func a8 b0 a3) [.pointer ((some (Addr.mk c 0 none)).map (·.add 0))] H fun b3 J=>(∃(y:Va),b3=.returned y/\Q9 [a,b] H J/\(AY [a,b] J fun L=>Cz My #[y,.iface Xv (.pointer ((some (Addr.mk d 0 none)).map (·.add 0)))] L fun a9 f=>(∃h,a9=.returned (.bool h)/\Q9 [a,b] L f/\(h=true->(∃g,Q2 [a,b] f (some (Addr.mk d 0 none)) (0+0) [I g]/\(CW [a,b] Jm #[Wv p l j s k u m i r q] f fun b1 a0 a4 Z a6 b2 a7 a2 a1 a5 o=>( Q2 [a,b] o (some (Addr.mk d 0 none)) (0+0) [I g]/\Q2 [a,b] o (some (Addr.mk d 0 none)) (0+0) [I g]/\(AR [a,b] o R (.tuple #[Wv b1 a0 a4 Z a6 b2 a7 a2 a1 a5,I g]))))))/\(h=false->(∃A T O E M K F Y D N,Q2 [a,b] f (some (Addr.mk c 0 none)) 0 [I A,S T O E,S M K F,S Y D N]/\(AR [a,b] f R (.tuple #[Wv A T O E M K F Y D N,I 0]))))))))))))))))
theorem A1(a b c d e f g h i j k l m):JA (Ny a b c d e f g h i j k l m) Uq #[Wv a b c d e f g h i j,.func k l m]:=eV [6,7] false [] Tryz.func76 Qk Qk
def K4(n:OA)(f i:Nat)(w:Wo)(R:RT):= (∀a,w.heap.size<=a->(AX [] [a] w fun c=>Cz J5 #[S n f i] c fun r d=>(∃b,r=.returned (.pointer b)/\Q9 [a] c d/\(CW [a] X6 #[.pointer b] d fun l h u m p e g t q s o=>( (CI [a] Vt #[.pointer b] o fun k j=>( (AR [a] j R (.tuple #[Wv l h u m p e g t q s,I k])))))))))
theorem K7(a b c):JA (K4 a b c) Vo #[S a b c]:=eV [] false [] Tryz.func16 Qk Qk
def Gg(c:OA)(w:Wo)(R:RT):= (CI [] Q1 #[.pointer c,I 12] w fun f d=>( ((f==0)=true->(∀b,d.heap.size<=b->(CIx [] [b] Q1 #[.pointer c,I 3] d fun a g=>( (0<=a/\a<(3:Int))/\(∃e,(0<=a/\([I (-1),I 7,I 8]:List Va)[Int.toNat a+0]? = some (I e))/\(AR [b] g R (I e)))))))/\((f==0)=false->(CI [] Q1 #[.pointer c,I 4] d fun i h=>( (AR [] h R (I i)))))))
theorem Gs(a):JA (Gg a) Ua #[.pointer a]:=eV [] false [] Tryz.func92 Qk Qk
def Ki(n:OA)(f i:Nat)(w:Wo)(R:RT):= (∀a,w.heap.size<=a->(AX [] [a] w fun c=>Cz J5 #[S n f i] c fun r d=>(∃b,r=.returned (.pointer b)/\Q9 [a] c d/\(CW [a] X6 #[.pointer b] d fun l h u m p e g t q s o=>( (CI [a] Ua #[.pointer b] o fun j k=>( (AR [a] k R (.tuple #[Wv l h u m p e g t q s,I j])))))))))
theorem Kt(a b c):JA (Ki a b c) Ji #[S a b c]:=eV [] false [] Tryz.func22 Qk Qk
def Lz(x:Int)(u:OA)(m D:Nat)(t:OA)(K v:Nat)(j:OA)(B y:Nat)(q:Int)(r:Bool)(E:Fn)(G:Array Va)(k:Array Va)(w:Wo)(R:RT):= (∀a,w.heap.size<=a->(∀f b,Q0 [] w b->w.heap.size<=f->b.heap[f]? = some (Obj.cells ([I q]:List Va).toArray Qb (0,0))->f∉([a]:List Nat)->(∀c d,Q0 [a] b d->b.heap.size<=c->d.heap[c]? = some (Obj.cells ([.bool r]:List Va).toArray ZQ (0,0))->c∉([a]:List Nat)->(∀g e,Q0 [a] d e->d.heap.size<=g->e.heap[g]? = some (Obj.cells ([.func E G k]:List Va).toArray 70 (0,0))->g∉([a]:List Nat)->(∀h,e.heap.size<=h->(CVx [a] [a,h] Uq #[Wv x u m D t K v j B y,.func (.func YV) #[] #[.pointer ((some (Addr.mk f 0 none)).map (·.add 0)),.pointer ((some (Addr.mk c 0 none)).map (·.add 0)),.pointer ((some (Addr.mk g 0 none)).map (·.add 0))]] e fun A C F s i n l p z o J H=>( (AR [a,h] H R (.tuple #[Wv A C F s i n l p z o,I J])))))))))
theorem LF(a b c d e f g h i j k l m n o):JA (Lz a b c d e f g h i j k l m n o) JD #[Wv a b c d e f g h i j,I k,.bool l,.func m n o]:=eV [5,6,7] false [] Tryz.func93 Qk Qk
def DF(r:Int)(p:OA)(i y:Nat)(o:OA)(C q:Nat)(g:OA)(v s:Nat)(m:Int)(w:Wo)(R:RT):= (∀a,w.heap.size<=a->(∀c b,Q0 [] w b->w.heap.size<=c->b.heap[c]? = some (Obj.cells ([I m]:List Va).toArray Qb (0,0))->c∉([a]:List Nat)->(∀d,b.heap.size<=d->(∃e,Q2 [a] b (some (Addr.mk c 0 none)) 0 [I e]/\(CVx [a] [a,d] JD #[Wv r p i y o C q g v s,I e,.bool true,.func (.func XB) #[] #[.pointer ((some (Addr.mk c 0 none)).map (·.add 0))]] b fun u x z n f j h l t k B A=>( (AR [a,d] A R (.tuple #[Wv u x z n f j h l t k,I B]))))))))
theorem E5(a b c d e f g h i j k):JA (DF a b c d e f g h i j k) Vh #[Wv a b c d e f g h i j,I k]:=eV [3] false [] Tryz.func23 Qk Qk
def FJ(f:OA)(h u:Nat)(n:Int)(w:Wo)(R:RT):= (∃j,PX [] JF #[S f h u] w (.bool j)/\(∃r,((!j)=false->PX [] ZD #[S f h u,I n] w (.bool r))/\(((!j)||(!r))=true->(AR [] w R (S none 0 0)))/\(((!j)||(!r))=false->(∃(l:List Va->Wo->Prop) (k:List Va->Wo->Nat),(AY [] w fun y=>l [S none 0 0,I 1] y)/\∀(d:OA) (e c:Nat) (a:Int) b,(∀bq∈([]:List Nat),bq<b.heap.size)->l [S d e c,I a] b->((decide (a<(h:Int)))=true->Ix f h a/\(∃i,Q2 [] b f (Int.toNat a*14+0) [.bool i]/\(i=true->Ix f h a)/\(∃m,(i=true->Q2 [] b f (Int.toNat a*14+1) [I m])/\((i&&(m==n))=true->(∀g,b.heap.size<=g->(AX [] [g] b fun o=>o.heap[g]? = some (Obj.cells ([I a]:List Va).toArray Qb (0,0))->(∃t s p,∃q,(builtin .append #[Z1,Z1] Z1 #[false,false] #[S d e c,S (some (Addr.mk g 0 none)) 1 1]).run Tryz.prog o=.ok (.value (S t s p)) q/\Q9 [g] o q/\Qq .i64 (a+1)/\(AY [g] q fun v=>l [S t s p,I (a+1)] v/\k [S t s p,I (a+1)] v<k [S d e c,I a] b)))))/\((i&&(m==n))=false->Qq .i64 (a+1)/\(AY [] b fun x=>l [S d e c,I (a+1)] x/\k [S d e c,I (a+1)] x<k [S d e c,I a] b)))))/\((decide (a<(h:Int)))=false->(AR [] b R (S d e c)))))))
theorem Bg(a b c d):JA (FJ a b c d) T8 #[S a b c,I d]:=eV [] false [(5,⟨[(5,Rs),(6,Ri)],[],[0,1],[],[]⟩)] Tryz.func25 Qk Qk
def Gd(Q:OA)(q N:Nat)(w:Wo)(R:RT):= ((decide ((q:Int)>1048576))=true->(AR [] w R (.bool true)))/\((decide ((q:Int)>1048576))=false->(CV [] Ji #[S Q q N] w fun r z v s j k y m g p b J=>( (∀a,J.heap.size<=a->(CVx [] [a] Vh #[Wv r z v s j k y m g p,I b] J fun b3 a5 a1 a3 a8 V Y G M b2 h E=>( (∀d,E.heap.size<=d->(CVx [a] [a,d] Jn #[Wv r z v s j k y m g p,I b] E fun a9 a6 a7 X a2 Z b1 a0 a4 b0 C l=>( (∀f,l.heap.size<=f->((h != C)=true->(AR [a,d] l R (.bool false)))/\((h != C)=false->(∃o,PX [a,d] Xp #[Wv r z v s j k y m g p] l (.bool o)/\((((!o)||(decide (b<1)))||(decide (b>=(g:Int))))=false->Ix m g b)/\(∃u,((((!o)||(decide (b<1)))||(decide (b>=(g:Int))))=false->Q2 [a,d] l m (Int.toNat b*14+0) [.bool u])/\(((((!o)||(decide (b<1)))||(decide (b>=(g:Int))))||(!u))=true->(AR [a,d] l R (.bool (h != 0))))/\(((((!o)||(decide (b<1)))||(decide (b>=(g:Int))))||(!u))=false->(AX [a,d] [a,d,f] l fun A=>Cz T8 #[S m g p,I b] A fun O F=>(∃U B T,O=.returned (S U B T)/\Q9 [a,d,f] A F/\(∃(x:List Va->Wo->Prop) (D:List Va->Wo->Nat),(AY [a,d,f] F fun P=>x [.bool ((B:Int)==0),I 0] P)/\∀(c:Bool) (e:Int) i,(∀bq∈[a,d,f],bq<i.heap.size)->x [.bool c,I e] i->((decide (e<(k:Int)))=true->(c=true->Ix j k e)/\(∃n,(c=true->Q2 [a,d,f] i j (Int.toNat e*9+0) [I n])/\((n==0)=false->(c=true->Ix j k e))/\(∃t,((n==0)=false->(c=true->Q2 [a,d,f] i j (Int.toNat e*9+1) [I t]))/\Qq .i64 (e+1)/\(AY [a,d,f] i fun K=>x [.bool (c&&((n==0)||(t != b))),I (e+1)] K/\D [.bool (c&&((n==0)||(t != b))),I (e+1)] K<D [.bool c,I e] i))))/\((decide (e<(k:Int)))=false->((!c)=false->((((h==0)==c)&&((h==4)==(!c)))=true->Ix G M b))/\(∃H,((!c)=false->((((h==0)==c)&&((h==4)==(!c)))=true->Q2 [a,d,f] i G (Int.toNat b*14+0) [.bool H]))/\(∀L,Q0 [a,d,f] i L->R (.bool ((((h==0)==c)&&((h==4)==(!c)))&&((!c)||(!H)))) L))))))))))))))))))))
theorem Gq(a b c):JA (Gd a b c) Oh #[S a b c]:=eV [] false [(12,⟨[(9,.bool),(10,Ri)],[],[3,4,5,6],[],[]⟩)] Tryz.func5 Qk Qk
def Fu(f:OA)(h u:Nat)(n:Int)(w:Wo)(R:RT):= (∃j,PX [] Vi #[S f h u] w (.bool j)/\(∃t,((!j)=false->PX [] YK #[S f h u,I n] w (.bool t))/\(((!j)||(!t))=true->(AR [] w R (S none 0 0)))/\(((!j)||(!t))=false->(∃(l:List Va->Wo->Prop) (k:List Va->Wo->Nat),(AY [] w fun y=>l [S none 0 0,I 0] y)/\∀(d:OA) (c e:Nat) (a:Int) b,(∀bq∈([]:List Nat),bq<b.heap.size)->l [S d c e,I a] b->((decide (a<(h:Int)))=true->Ix f h a/\(∃i,Q2 [] b f (Int.toNat a*14+0) [.bool i]/\(i=true->Ix f h a)/\(∃m,(i=true->Q2 [] b f (Int.toNat a*14+1) [I m])/\((i&&(m==n))=true->(∀g,b.heap.size<=g->(AX [] [g] b fun o=>o.heap[g]? = some (Obj.cells ([I a]:List Va).toArray Qb (0,0))->(∃s r p,∃q,(builtin .append #[Z1,Z1] Z1 #[false,false] #[S d c e,S (some (Addr.mk g 0 none)) 1 1]).run Tryz.prog o=.ok (.value (S s r p)) q/\Q9 [g] o q/\Qq .i64 (a+1)/\(AY [g] q fun v=>l [S s r p,I (a+1)] v/\k [S s r p,I (a+1)] v<k [S d c e,I a] b)))))/\((i&&(m==n))=false->Qq .i64 (a+1)/\(AY [] b fun x=>l [S d c e,I (a+1)] x/\k [S d c e,I (a+1)] x<k [S d c e,I a] b)))))/\((decide (a<(h:Int)))=false->(AR [] b R (S d c e)))))))
theorem B7(a b c d):JA (Fu a b c d) VZ #[S a b c,I d]:=eV [] false [(5,⟨[(5,Rs),(18,Ri)],[],[0,1,17],[],[]⟩)] Tryz.func95 Qk Qk
def zdc(e:OA)(b g:Nat)(w:Wo)(R:RT):= (∃(c:List Va->Prop) (f:List Va->Nat),c [I 0]/\∀(a:Int),c [I a]->((decide (a<(b:Int)))=true->Ix e b a/\(∃d,Q2 [] w e (Int.toNat a*1) [I d]/\((decide (d>50000000000000000))=true->R (.bool false) w)/\((decide (d>50000000000000000))=false->Qq .i64 (a+1)/\c [I (a+1)]/\f [I (a+1)]<f [I a])))/\((decide (a<(b:Int)))=false->R (.bool true) w))
theorem ze4(a b c):YQ (zdc a b c) ZG #[S a b c]:=pV [] false [(2,⟨[(7,Ri)],[],[5,6],[],[]⟩)] Tryz.func196 Qk Qk
def Hb(k:OA)(w:Wo)(R:RT):= k.isSome=true/\(∃b0,Q2 [] w k (0+0) [I b0]/\(∀D,w.heap.size<=D->(∃a7,(∀P,Q0 [] w P->P.heap[D]? = some (Obj.cells ([I b0]:List Va).toArray Qb (0,0))->PX [] ZG #[S (some (Addr.mk D 0 none)) 1 1] P (.bool a7))/\k.isSome=true/\(∃O r e3,Q2 [] w k (0+1) [S O r e3]/\(∃(p:List Va->Prop) (u:List Va->Nat),p [.bool a7,I 0]/\∀(h:Bool) (c:Int),p [.bool h,I c]->((decide (c<(r:Int)))=true->Ix O r c/\(∃b6 f0 b7 a9 a2,Q2 [] w O (Int.toNat c*5) [.bool b6,I f0,I b7,I a9,I a2]/\(∀d8,w.heap.size<=d8->(h=true->(∀T,w.heap.size<=T->(∃V,(h=true->(∀M,Q0 [] w M->M.heap[T]? = some (Obj.cells ([I a9,I a2]:List Va).toArray Qb (0,0))->PX [] ZG #[S (some (Addr.mk T 0 none)) 2 2] M (.bool V)))/\Qq .i64 (c+1)/\p [.bool (h&&V),I (c+1)]/\u [.bool (h&&V),I (c+1)]<u [.bool h,I c])))/\((h=true->False)->Qq .i64 (c+1)/\p [.bool false,I (c+1)]/\u [.bool false,I (c+1)]<u [.bool h,I c]))))/\((decide (c<(r:Int)))=false->k.isSome=true/\(∃L q e1,Q2 [] w k (0+2) [S L q e1]/\(∃(t:List Va->Prop) (x:List Va->Nat),t [.bool h,I 0]/\∀(i:Bool) (e:Int),t [.bool i,I e]->((decide (e<(q:Int)))=true->Ix L q e/\(∃d1 c2 b3 c8 e8 a8 a1 a4 e5,Q2 [] w L (Int.toNat e*9) [I d1,I c2,I b3,I c8,I e8,I a8,I a1,I a4,I e5]/\(∀c5,w.heap.size<=c5->(i=true->(∀N,w.heap.size<=N->(∃E,(i=true->(∀F,Q0 [] w F->F.heap[N]? = some (Obj.cells ([I a8,I a1,I a4]:List Va).toArray Qb (0,0))->PX [] ZG #[S (some (Addr.mk N 0 none)) 3 3] F (.bool E)))/\Qq .i64 (e+1)/\t [.bool (i&&E),I (e+1)]/\x [.bool (i&&E),I (e+1)]<x [.bool i,I e])))/\((i=true->False)->Qq .i64 (e+1)/\t [.bool false,I (e+1)]/\x [.bool false,I (e+1)]<x [.bool i,I e]))))/\((decide (e<(q:Int)))=false->k.isSome=true/\(∃K s c9,Q2 [] w k (0+3) [S K s c9]/\(∃(z:List Va->Prop) (n:List Va->Nat),z [.bool i,I 0]/\∀(j:Bool) (b:Int),z [.bool j,I b]->((decide (b<(s:Int)))=true->Ix K s b/\(∃(d7:Bool) (d5:Int) (d6:ByteArray) (d2 b5 c0 b4 Z b9 d0 e6:Int) (e2:OA) (e0 b8:Nat) (c7:OA) (d9 e7:Nat) (m:OA) (l c3:Nat),Q2 [] w K (Int.toNat b*14) [.bool d7,I d5,.string d6,I d2,I b5,I c0,I b4,I Z,I b9,I d0,I e6,S e2 e0 b8,S c7 d9 e7,S m l c3]/\(∀c6,w.heap.size<=c6->(j=true->(∀C,w.heap.size<=C->(∃b2,(j=true->(∀Q,Q0 [] w Q->Q.heap[C]? = some (Obj.cells ([I Z]:List Va).toArray Qb (0,0))->PX [] ZG #[S (some (Addr.mk C 0 none)) 1 1] Q (.bool b2)))/\(∃(y:List Va->Prop) (A:List Va->Nat),y [.bool (j&&b2),I 0]/\∀(g:Bool) (a:Int),y [.bool g,I a]->((decide (a<(l:Int)))=true->Ix m l a/\(∃a3 d4 a0 c1 b1,Q2 [] w m (Int.toNat a*5) [I a3,.bool d4,I a0,I c1,I b1]/\(∀c4,w.heap.size<=c4->(g=true->(∀H,w.heap.size<=H->(∃B,(g=true->(∀U,Q0 [] w U->U.heap[H]? = some (Obj.cells ([I a3,I a0,I b1]:List Va).toArray Qb (0,0))->PX [] ZG #[S (some (Addr.mk H 0 none)) 3 3] U (.bool B)))/\Qq .i64 (a+1)/\y [.bool (g&&B),I (a+1)]/\A [.bool (g&&B),I (a+1)]<A [.bool g,I a])))/\((g=true->False)->Qq .i64 (a+1)/\y [.bool false,I (a+1)]/\A [.bool false,I (a+1)]<A [.bool g,I a]))))/\((decide (a<(l:Int)))=false->Qq .i64 (b+1)/\z [.bool g,I (b+1)]/\n [.bool g,I (b+1)]<n [.bool j,I b])))))/\((j=true->False)->
 (∃(v:List Va->Prop) (o:List Va->Nat),v [.bool false,I 0]/\∀(f:Bool) (d:Int),v [.bool f,I d]->((decide (d<(l:Int)))=true->Ix m l d/\(∃a6 e9 a5 e4 Y,Q2 [] w m (Int.toNat d*5) [I a6,.bool e9,I a5,I e4,I Y]/\(∀d3,w.heap.size<=d3->(f=true->(∀G,w.heap.size<=G->(∃X,(f=true->(∀J,Q0 [] w J->J.heap[G]? = some (Obj.cells ([I a6,I a5,I Y]:List Va).toArray Qb (0,0))->PX [] ZG #[S (some (Addr.mk G 0 none)) 3 3] J (.bool X)))/\Qq .i64 (d+1)/\v [.bool (f&&X),I (d+1)]/\o [.bool (f&&X),I (d+1)]<o [.bool f,I d])))/\((f=true->False)->Qq .i64 (d+1)/\v [.bool false,I (d+1)]/\o [.bool false,I (d+1)]<o [.bool f,I d]))))/\((decide (d<(l:Int)))=false->Qq .i64 (b+1)/\z [.bool f,I (b+1)]/\n [.bool f,I (b+1)]<n [.bool j,I b]))))))/\((decide (b<(s:Int)))=false->R (.bool j) w))))))))))))
theorem D5(a):YQ (Hb a) UG #[.pointer a]:=pV [] false [(3,⟨[(3,.bool),(23,Ri)],[],[0,21,22],[],[]⟩),(8,⟨[(3,.bool),(42,Ri)],[],[0,40,41],[],[]⟩),(13,⟨[(3,.bool),(63,Ri)],[],[61,62],[],[]⟩),(17,⟨[(3,.bool),(77,Ri)],[],[61,62,63,75,76],[],[]⟩)] Tryz.func96 Qk Qk
def G7(d i:OA)(w:Wo)(R:RT):= d.isSome=true/\(∃m h C,Q2 [] w d (0+2) [S m h C]/\(∃(n:List Va->Wo->Prop) (s:List Va->Wo->Nat),(AY [] w fun K=>n [I 0] K)/\∀(b:Int) a,(∀bq∈([]:List Nat),bq<a.heap.size)->n [I b] a->((decide (b<(h:Int)))=true->Ix m h b/\(∃e o B z H G D M F,Q2 [] a m (Int.toNat b*9) [I e,I o,I B,I z,I H,I G,I D,I M,I F]/\(∀r,a.heap.size<=r->(∃l,((e != 0)=true->Q2 [] a i 0 [I l])/\(((e != 0)&&(o==l))=true->(AR [] a R (.iface Z3 (.agg #[I 4]))))/\(((e != 0)&&(o==l))=false->Qq .i64 (b+1)/\(AX [] [r] a fun u=>n [I (b+1)] u/\s [I (b+1)] u<s [I b] a))))))/\((decide (b<(h:Int)))=false->d.isSome=true/\(∃y p t,Q2 [] a d (0+3) [S y p t]/\(∃x,Q2 [] a i 0 [I x]/\(AY [] a fun v=>Cz VZ #[S y p t,I x] v fun J c=>(∃L j E,J=.returned (S L j E)/\Q9 [] v c/\((decide ((j:Int)>0))=true->(AR [] c R (.iface Z3 (.agg #[I 4]))))/\((decide ((j:Int)>0))=false->(∃k,PX [] UG #[.pointer d] c (.bool k)/\((!k)=true->(AR [] c R (.iface Z3 (.agg #[I 10]))))/\((!k)=false->d.isSome=true/\(∃g q A,Q2 [] c d (0+3) [S g q A]/\(∃f,Q2 [] c i 0 [I f]/\Ix g q f/\Xi [] c g (Int.toNat f*14) 14/\(AR [] (RD c g (Int.toNat f*14) [.bool false,I 0,.string ByteArray.empty,I 0,I 0,I 0,I 0,I 0,I 0,I 0,I 0,S none 0 0,S none 0 0,S none 0 0]) R .nilIface)))))))))))))
theorem Gp(a b):JA (G7 a b) XB #[.pointer a,.pointer b]:=eV [] false [(2,⟨[(11,Ri)],[],[0,1,9,10],[],[]⟩)] Tryz.func94 Qk Qk
def K3(b l p q:OA)(w:Wo)(R:RT):= (∃a,Q2 [] w l 0 [I a]/\(∃d,((a==0)=false->Q2 [] w p 0 [.bool d])/\(((a==0)||(!d))=true->(AR [] w R (.iface Z3 (.agg #[I 1]))))/\(((a==0)||(!d))=false->b.isSome=true/\(∃e k n,Q2 [] w b (0+3) [S e k n]/\(∃m,Q2 [] w l 0 [I m]/\(∃c,PX [] YK #[S e k n,I m] w (.bool c)/\((!c)=true->(AR [] w R (.iface Z3 (.agg #[I 2]))))/\((!c)=false->(∃(h:Fn) (j:Array Va) (o:Array Va),Q2 [] w q 0 [.func h j o]/\(AY [] w fun f=>ML Tryz.prog (.func h j o) [.pointer b] f fun r i=>(∃(g:Va),r=.returned g/\Q9 [] f i/\(AR [] i R g)))))))))))
theorem K6(a b c d):JA (K3 a b c d) YV #[.pointer a,.pointer b,.pointer c,.pointer d]:=eV [] false [] Tryz.func195 Qk Qk
theorem UZ:zj7 Tryz.prog PS 5 Yw 40 (⟨0,false,0,0,0⟩:K0):=Gv Qk fun _=>rfl
theorem Oe:Tryz.prog.underlying Z0=some (.slice Yw):=Qk
def Z4(b:Jj)(m:MG):List Va:=[I b.I',I b.Sp,I b.Ww,.slice m.lO b.locals.length m.lC,.slice m.dO b.RI.length m.dC]
theorem JZ{a b:ByteArray}:Zw a b=true↔a=b:=by
 unfold Zw;rw[It];constructor
 ·intro h
  have h1:∀x:ByteArray,x.toList=x.data.toList:=fun x=>by
   have key:∀(n i:Nat) (r:List UInt8),n=x.size-i->ByteArray.toList.loop x i r=r.reverse++x.data.toList.drop i:=by
    intro n
    induction n with
    | zero=>
     intro i r hn;unfold ByteArray.toList.loop;rw[C' Qo,List.drop_eq_nil_iff.2 (by simp only[Array.length_toList]; show x.size<=i; omega),List.append_nil]
    | succ n ih=>
     intro i r hn;unfold ByteArray.toList.loop;have hi:i<x.data.toList.length:=by simp only[Array.length_toList]; show i<x.size; omega
     rw[E' Qo,ih (i+1) _ Qo,List.reverse_cons,List.append_assoc,List.singleton_append,List.drop_eq_getElem_cons hi]
     have:x.get! i=x.data.toList[i]:=by
      have hi':i<x.data.size:=by simpa using hi
      simp[ByteArray.get!,getElem!_pos x.data i hi']
     rw[this]
   have:=key _ 0 [] rfl
   simpa[ByteArray.toList] using this
  rw[h1,h1] at h
  cases a; cases b
  simp only at h
  congr 1
  exact Array.ext' h
 ·rintro rfl; rfl
theorem Do(a b:ByteArray):Zw a b=decide (a=b):=by
 cases h:Zw a b with
 | true=>rw[Ii (JZ.1 h)]
 | false=>rw[decide_eq_false fun e=>by rw[JZ.2 e] at h; cases h]
def VP(p:Zr×MG):List Va:=Yb p.1 p.2
def TV:Zr×MG:=(⟨false,0,ByteArray.empty,0,0,0,0,0,⟨0,0,0,[],[]⟩,[]⟩,⟨none,0,none,0,none,0⟩)
theorem ZR:zj7 Tryz.prog VP 14 QG 168 TV:=Gv Qk fun _=>rfl
theorem Od:Tryz.prog.underlying Qw=some (.slice QG):=Qk
def Qp(m:MG):List Nat:=Qy m.lO++Qy m.dO++Qy m.sO
structure Ol (base:Nat) (w:Wo) (p:Zr×MG):Prop where
 loc:XU YR 1 Qb base w p.2.lO p.2.lC p.1.IT.locals
 RI:XU OH 1 ZQ base w p.2.dO p.2.dC p.1.IT.RI
 shl:XU PS 5 Yw base w p.2.sO p.2.sC p.1.IF
theorem Ol.ext{base:Nat}{w w':Wo}{p:Zr×MG}{bs:List Nat}(h:Ol base w p)(hx:Q0 bs w w')(hd:∀b∈Qp p.2,b∉bs):Ol base w' p:=
 ⟨h.loc.ext hx fun b hb=>hd b (by simp[Qp,hb]),h.RI.ext hx fun b hb=>hd b (by simp[Qp,hb]),h.shl.ext hx fun b hb=>hd b (by simp[Qp,hb])⟩
theorem Ol.bG{base:Nat}{w w':Wo}{p:Zr×MG}(h:Ol base w p)(hx:Q0 [] w w'):Ol base w' p:=h.ext hx Qs
theorem Ol.mono{base aF:Nat}{w:Wo}{p:Zr×MG}(h:Ol base w p)(hb:aF<=base):Ol aF w p:=⟨h.loc.mono hb,h.RI.mono hb,h.shl.mono hb⟩
theorem Ol.lt{base:Nat}{w:Wo}{p:Zr×MG}(h:Ol base w p):∀b∈Qp p.2,base<=b/\b<w.heap.size:=by
 intro b hb;simp only[Qp,Io] at hb;rcases hb with (hb | hb) | hb
 ·exact h.loc.lt b hb
 ·exact h.RI.lt b hb
 ·exact h.shl.lt b hb
structure Mo (base:Nat) (w:Wo) (o:OA) (cap:Nat) (ps:List (Zr×MG)):Prop where
 row:XU VP 14 QG base w o cap ps
 each:∀i:Int,0<=i->i<(ps.length:Int)->Ol base w (gi ps i)
 dj:∀i j:Int,0<=i->i<(ps.length:Int)->0<=j->j<(ps.length:Int)->i≠j->∀b∈Qp (gi ps i).2,b∉Qp (gi ps j).2
theorem Mo.mono{base aF:Nat}{w:Wo}{o:OA}{cap:Nat}{ps:List (Zr×MG)}(h:Mo base w o cap ps)(hb:aF<=base):Mo aF w o cap ps:=
 ⟨h.row.mono hb,fun i a b=>(h.each i a b).mono hb,h.dj⟩
theorem Xr{base:Nat}{w:Wo}{o:OA}{cap:Nat}{ps:List (Zr×MG)}(h:XU VP 14 QG base w o cap ps){aF:Nat}{p:Zr×MG}(hp:Ol aF w p):∀b∈Qp p.2,b∉Qy o:=by
 intro b hb hx;simp only[Qp,Io] at hb;rcases hb with (hb | hb) | hb
 ·exact hp.loc.Wb h Qd b hb hx
 ·exact hp.RI.Wb h Qd b hb hx
 ·exact hp.shl.Wb h Qd b hb hx
theorem Mo.put{base:Nat}{w:Wo}{o:OA}{cap:Nat}{ps:List (Zr×MG)}(h:Mo base w o cap ps){i:Int}(h0:0<=i)(hi:i<(ps.length:Int)){p:Zr×MG}(hp:Ol base w p)(hd:∀j:Int,0<=j->j<(ps.length:Int)->i≠j->∀b∈Qp (gi ps j).2,b∉Qp p.2):Mo base (RD w o (Int.toNat i*14) (VP p)) o cap (ps.set i.toNat p):=by
 have hx:=h.row.rJ (Int.toNat i*14) (VP p);have hlen:(ps.set i.toNat p).length=ps.length:=H';refine⟨?_,fun j hj hjl=>?_,fun j k hj hjl hk rP gG b hb gU=>?_⟩
 ·have:=h.row.RD ZR.len h0 hi (j:=0) (vs:=VP p) (x:=p) (by rw[List.take_zero,List.nil_append,List.drop_eq_nil_iff.2 (by rw[Nat.zero_add,ZR.len,ZR.len]; exact I8 _),List.append_nil]) (by rw[Nat.zero_add,ZR.len]; exact I8 _);exact this
 ·rw[hlen] at hjl;rw[QC _ _ h0 hi hj];split
  ·exact hp.ext hx (Xr h.row hp)
  ·exact(h.each j hj hjl).ext hx (Xr h.row (h.each j hj hjl))
 ·rw[hlen] at hjl rP;rw[QC _ _ h0 hi hj] at hb;rw[QC _ _ h0 hi hk] at gU
  by_cases e1:i=j
  ·rw[E' e1] at hb
   by_cases e2:i=k
   ·omega
   ·rw[C' e2] at gU;exact hd k hk rP e2 b gU hb
  ·rw[C' e1] at hb
   by_cases e2:i=k
   ·rw[E' e2] at gU;exact hd j hj hjl e1 b hb gU
   ·rw[C' e2] at gU;exact h.dj j k hj hjl hk rP gG b hb gU
theorem Js{z:Int}(h1 : -9223372036854775808<=z)(h2:z<=9223372036854775807):Qq .i64 z:=⟨h1,h2⟩
def zc3(w:Int):Int:=Int.tdiv 232792560 w
def Yx(n a b:Int):Bool:=decide (n>=a)&&decide (n<=b)
theorem Qt{n a b:Int}:Yx n a b=true↔a<=n/\n<=b:=by simp[Yx]
theorem zt2{n a b:Int}:Yx n a b=false↔¬(a<=n/\n<=b):=by rw[<-Qt]; simp
def Z9(n w:Int):Int:=if Yx n 0 100000000&&Yx w 1 20 then n*zc3 w else 0
def Zv(w:Int):Int:=Z9 149 w
theorem ztn:∀k:Fin 20,zc3 ((k.val:Int)+1)*((k.val:Int)+1)=232792560:=Qd
theorem zto{w:Int}(h1:1<=w)(h2:w<=20):zc3 w*w=232792560:=by
 have:=ztn ⟨(w-1).toNat,Qo⟩;have e:(((w-1).toNat:Nat):Int)+1=w:=Qo;simp only[e] at this;exact this
theorem Cw{w:Int}(h1:1<=w)(h2:w<=20):11639628<=zc3 w/\zc3 w<=232792560:=by
 have h:=zto h1 h2
 have hp:0<=zc3 w:=by
  rcases Int.lt_or_le (zc3 w) 0 with hn | hn
  ·have:=Int.mul_neg_of_neg_of_pos hn (show 0<w by omega);omega
  ·exact hn
 constructor
 ·have:=Int.mul_le_mul_of_nonneg_left h2 hp;omega
 ·have:=Int.mul_le_mul_of_nonneg_left h1 hp;omega
theorem TT{n w:Int}(h1:0<=n)(h2:n<=100000000)(h3:1<=w)(h4:w<=20):Z9 n w=n*zc3 w:=by
 unfold Z9;rw[E'];rw[A',Qt,Qt]; exact⟨⟨h1,h2⟩,h3,h4⟩
theorem Lu{n w:Int}(h:¬(0<=n/\n<=100000000/\1<=w/\w<=20)):Z9 n w=0:=by
 unfold Z9;rw[C'];rw[A',Qt,Qt]; omega
theorem ze1{n w:Int}(h1:0<=n)(h2:n<=100000000)(h3:1<=w)(h4:w<=20):0<=n*zc3 w/\n*zc3 w<=23279256000000000:=by
 have hs:=Cw h3 h4;refine⟨Int.mul_nonneg h1 Qo,?_⟩
 calc n*zc3 w<=100000000*zc3 w:=Int.mul_le_mul_of_nonneg_right h2 Qo
  _<=100000000*232792560:=Int.mul_le_mul_of_nonneg_left hs.2 Qd
  _=23279256000000000:=rfl
theorem L3(n w:Int):0<=Z9 n w/\Z9 n w<=23279256000000000:=by
 by_cases h:0<=n/\n<=100000000/\1<=w/\w<=20
 ·rw[TT h.1 h.2.1 h.2.2.1 h.2.2.2]; exact ze1 h.1 h.2.1 h.2.2.1 h.2.2.2
 ·rw[Lu h]; omega
theorem QO{n a b:Int}{w:Wo}{bs:List Nat}:PX bs Qz #[I n,I a,I b] w (.bool (Yx n a b)):=
 AZ n a b fun wr hx=>by unfold Kh; rfl
theorem Qm{n a b:Int}{w:Wo}{bs:List Nat}:PX bs Qg #[I n,I a,I b] w (.bool (Yx n a b)):=
 zg7 n a b fun wr hx=>by unfold Fa; rfl
theorem O9{n:Int}{w:Wo}{bs:List Nat}:PX bs XE #[I n] w (.bool (Yx n 1 20)):=
 BP n fun wr hx=>⟨_,QO,rfl⟩
theorem J7{n:Int}{w:Wo}{bs:List Nat}:PX bs Yi #[I n] w (.bool (Yx n 1 20)):=
 BW n fun wr hx=>⟨_,Qm,rfl⟩
theorem LX{n:Int}{w:Wo}{bs:List Nat}:PX bs Vk #[I n] w (.bool (Yx n (-10) 9)):=
 za9 n fun wr hx=>⟨_,QO,rfl⟩
def V8(k j:Nat):Int:=if j<=k then zc3 (j:Int) else 0
def zxs(k:Nat):List Va:=[I ((k:Int)+1),I 0,I (V8 k 1),I (V8 k 2),I (V8 k 3),I (V8 k 4),I (V8 k 5),I (V8 k 6),I (V8 k 7),
 I (V8 k 8),I (V8 k 9),I (V8 k 10),I (V8 k 11),I (V8 k 12),I (V8 k 13),I (V8 k 14),I (V8 k 15),I (V8 k 16),I (V8 k 17),I (V8 k 18),I (V8 k 19),I (V8 k 20)]
theorem GC{w:Wo}{bs:List Nat}:PX bs U9 #[] w (.agg #[I 0,I (V8 20 1),I (V8 20 2),I (V8 20 3),I (V8 20 4),I (V8 20 5),I (V8 20 6),I (V8 20 7),
 I (V8 20 8),I (V8 20 9),I (V8 20 10),I (V8 20 11),I (V8 20 12),I (V8 20 13),I (V8 20 14),I (V8 20 15),I (V8 20 16),I (V8 20 17),I (V8 20 18),I (V8 20 19),I (V8 20 20)]):=
 GN fun wr hx=>by
  intro _ _ _ _
  refine⟨fun vs=>∃k:Nat,k<=20/\vs=zxs k,fun vs=>match vs with
   | .int _ i::_=>(21-i).toNat
   | _=>0,⟨0,Qo,rfl⟩,?_⟩
  rintro i l l1 l2 l3 l4 l5 l6 l7 l8 l9 l10 l11 l12 l13 l14 l15 l16 l17 l18 l19 l20 ⟨k,hk,he⟩;simp only[zxs,I5,I6,true_and,and_true] at he;obtain⟨rfl,rfl,rfl,rfl,rfl,rfl,rfl,rfl,rfl,rfl,rfl,rfl,rfl,rfl,rfl,rfl,rfl,rfl,rfl,rfl,rfl,rfl⟩:=he;constructor
  ·intro h;have h:=Ot h;refine⟨⟨Qo,?_⟩,⟨Qo,Qo⟩,Qo,?_⟩
   ·have:=Cw (w:=(k:Int)+1) Qo Qo;exact Js (by unfold zc3 at this; omega) (by unfold zc3 at this; omega)
   ·refine⟨_,_,_,_,_,_,_,_,_,_,_,_,_,_,_,_,_,_,_,_,_,?_,Js Qo Qo,⟨k+1,Qo,rfl⟩,?_⟩
    ·have:k=0\/k=1\/k=2\/k=3\/k=4\/k=5\/k=6\/k=7\/k=8\/k=9\/k=10\/k=11\/k=12\/k=13\/k=14\/k=15\/k=16\/k=17\/k=18\/k=19:=Qo;rcases this with rfl | rfl | rfl | rfl | rfl | rfl | rfl | rfl | rfl | rfl | rfl | rfl | rfl | rfl | rfl | rfl | rfl | rfl | rfl | rfl <;> rfl
    ·show (21-(((k:Int)+1)+1)).toNat<(21-((k:Int)+1)).toNat;omega
  ·intro h;have h:=Ou h;have hk:k=20:=Qo;subst hk;rfl
theorem zvx{k:Int}(h1:1<=k)(h2:k<=20):(#[I 0,I (V8 20 1),I (V8 20 2),I (V8 20 3),I (V8 20 4),I (V8 20 5),I (V8 20 6),I (V8 20 7),
 I (V8 20 8),I (V8 20 9),I (V8 20 10),I (V8 20 11),I (V8 20 12),I (V8 20 13),I (V8 20 14),I (V8 20 15),I (V8 20 16),I (V8 20 17),I (V8 20 18),I (V8 20 19),I (V8 20 20)]:Array Va)[Int.toNat k]? = some (I (zc3 k)):=by
 have:k=1\/k=2\/k=3\/k=4\/k=5\/k=6\/k=7\/k=8\/k=9\/k=10\/k=11\/k=12\/k=13\/k=14\/k=15\/k=16\/k=17\/k=18\/k=19\/k=20:=Qo;rcases this with rfl | rfl | rfl | rfl | rfl | rfl | rfl | rfl | rfl | rfl | rfl | rfl | rfl | rfl | rfl | rfl | rfl | rfl | rfl | rfl <;> rfl
theorem US{n k:Int}{w:Wo}{bs:List Nat}:PX bs YO #[I n,I k] w (I (Z9 n k)):=
 GJ n k fun wr hx=>by
  refine⟨_,QO,_,fun _=>O9,fun h=>?_,fun h=>?_⟩
  ·congr 1; unfold Z9; rw[C']; intro h2; simp only[A'] at h2; simp[h2] at h
  ·have h2:Yx n 0 100000000=true/\Yx k 1 20=true:=by simpa using h
   rw[Qt,Qt] at h2;have hm:=ze1 h2.1.1 h2.1.2 h2.2.1 h2.2.2;refine⟨_,_,_,_,_,_,_,_,_,_,_,_,_,_,_,_,_,_,_,_,_,GC,zc3 k,⟨Qo,Qo,zvx h2.2.1 h2.2.2⟩,Js Qo Qo,?_⟩;rw[TT h2.1.1 h2.1.2 h2.2.1 h2.2.2]
theorem Ar{k:Int}{w:Wo}{bs:List Nat}:PX bs O0 #[I k] w (I (Zv k)):=
 AU k fun wr hx=>⟨_,US,rfl⟩
def Pk(s:ByteArray):Bool:=(((((Zw s (⟨[119,101,105,103,104,116].toArray⟩))||(Zw s (⟨[109,97,120].toArray⟩)))||(Zw s (⟨[99,112,117,115].toArray⟩)))||(Zw s (⟨[112,114,111,99,115].toArray⟩)))||(Zw s (⟨[115,116,97,116].toArray⟩)))
def zrk(x:Int):Bool:=(((decide (x>=97))&&(decide (x<=122)))||((decide (x>=48))&&(decide (x<=57))))
def JM(s:ByteArray):Bool:=Yx (s.size:Int) 1 8 && !Pk s&&(List.range s.size).all fun i=>zrk (Ju s (i:Int))
theorem MC{s:ByteArray}:JM s=true↔(1<=s.size/\s.size<=8)/\Pk s=false/\∀i:Nat,i<s.size->zrk (Ju s (i:Int))=true:=by
 unfold JM;simp only[A',Qt,IC,List.all_eq_true,List.mem_range];constructor
 ·rintro⟨⟨h1,h2⟩,h3⟩; exact⟨⟨Qo,Qo⟩,h2,h3⟩
 ·rintro⟨⟨h0,h1⟩,h2,h3⟩; exact⟨⟨⟨Qo,Qo⟩,h2⟩,h3⟩
theorem M6{s:ByteArray}(h:¬((1<=s.size/\s.size<=8)/\Pk s=false/\∀i:Nat,i<s.size->zrk (Ju s (i:Int))=true)):JM s=false:=by
 cases hn:JM s with
 | false=>rfl
 | true=>exact Is (MC.1 hn) h
theorem zaw{s:ByteArray}{w:Wo}{bs:List Nat}:PX bs OM #[.string s] w (.bool (Pk s)):=
 zbj s fun wr hx=>rfl
theorem LZ{s:ByteArray}{w:Wo}{bs:List Nat}:PX bs Vq #[.string s] w (.bool (JM s)):=
 zbf s fun wr hx=>by
  refine⟨_,Qm,Pk s,fun _=>zaw,fun h=>?_,fun h=>?_⟩
  ·rw[M6];rintro⟨h1,h2,_⟩;rw[h2,Qt.2 Qo] at h;cases h
  ·have h:Yx (s.size:Int) 1 8=true/\Pk s=false:=by simpa using h
   have h1:=Qt.1 h.1;refine Xg s.size 0 rfl (fun k=>k<=s.size/\∀j:Nat,j<k->zrk (Ju s (j:Int))=true) ⟨Ie _,fun j hj=>Is hj (Nat.not_lt_zero j)⟩ fun k ⟨hk,hI⟩=>⟨fun IQ=>?_,fun RH=>?_⟩
   ·have IQ:=Ot IQ;have hr:0<=(k:Int)/\(k:Int)<(s.size:Int):=⟨Qo,IQ⟩;refine⟨hr,fun _=>hr,fun _=>hr,fun _ _=>hr,fun i'=>?_,fun AJ1=>⟨⟨Qo,Qo⟩,QA Qo ⟨Qo,fun j hj=>?_⟩⟩⟩
    ·rw[M6];rintro⟨_,_,h3⟩;have:=h3 k Qo;unfold zrk at this;rw[this] at i'
     cases i'
    ·by_cases gG:j<k
     ·exact hI j gG
     ·have:j=k:=Qo;subst this;unfold zrk;rw[I7] at AJ1;exact AJ1
   ·have RH:=Ou RH;have hk:k=s.size:=Qo;subst hk;rw[MC.2 ⟨⟨Qo,Qo⟩,h.2,hI⟩]
def Q6(gs:List Zr)(g:Int):Bool:=(decide (g>=0)&&decide (g<(gs.length:Int)))&&(gi gs g).used
theorem Q5{gs:List Zr}{g:Int}:Q6 gs g=true↔0<=g/\g<(gs.length:Int)/\(gi gs g).used=true:=by
 unfold Q6;simp[and_assoc]
def dep:Nat->List Zr->Int->Int
 | 0,_,g=>if g=0 then 0 else -1
 | f+1,gs,g=>if g=0 then 0 else if dep f gs (gi gs g).parent<0 then -1 else dep f gs (gi gs g).parent+1
def TM:Nat->List Zr->Int->Int->Int
 | 0,_,_,_ => -1
 | f+1,gs,g,n=>if Q6 gs g=false then -1 else if g=0 then n else TM f gs (gi gs g).parent (n+1)
theorem VY(gs:List Zr):∀(f:Nat) (g:Int),-1<=dep f gs g/\dep f gs g<=f
 | 0,g=>by simp only[dep]; split <;> omega
 | f+1,g=>by
  have:=VY gs f (gi gs g).parent;simp only[dep];split
  ·omega
  ·split <;> omega
theorem Kq(gs:List Zr):∀(f f':Nat) (g:Int),0<=dep f gs g->dep f gs g<=f'->dep f' gs g=dep f gs g
 | 0,f',g,h,_=>by
  simp only[dep] at h ⊢
  split at h
  ·rename_i hg
   cases f' <;> simp[dep,hg]
  ·omega
 | f+1,f',g,h,hle=>by
  simp only[dep] at h hle ⊢
  by_cases hg:g=0
  ·rw[E' hg]
   cases f' <;> simp[dep,hg]
  ·rw[C' hg] at h hle ⊢
   by_cases hd:dep f gs (gi gs g).parent<0
   ·rw[E' hd] at h; omega
   ·rw[C' hd] at hle ⊢
    cases f' with
    | zero=>omega
    | succ f'=>
     have:=Kq gs f f' (gi gs g).parent Qo Qo;simp only[dep];rw[C' hg,this,C' hd]
theorem Yc(gs:List Zr)(f:Nat):dep f gs 0=0:=by cases f <;> simp[dep]
theorem zov{gs:List Zr}{f:Nat}{g:Int}(h:dep f gs g=0):g=0:=by
 cases f with
 | zero=>simp only[dep] at h; split at h <;> first | assumption | omega
 | succ f=>
  simp only[dep] at h
  split at h
  ·assumption
  ·split at h <;> omega
structure ZX (gs:List Zr):Prop where
 len:gs.length=8
 ru:(gi gs 0).used=true
 rp:(gi gs 0).parent = -1
 rn:(gi gs 0).name=⟨[].toArray⟩
 nm:∀g:Int,1<=g->g<8->(gi gs g).used=true->JM (gi gs g).name=true
 par:∀g:Int,1<=g->g<8->(gi gs g).used=true->Q6 gs (gi gs g).parent=true
 dp:∀g:Int,1<=g->g<8->(gi gs g).used=true->0<=dep 3 gs g
 uniq:∀g h:Int,1<=h->h<g->g<8->(gi gs g).used=true->(gi gs h).used=true->¬((gi gs h).parent=(gi gs g).parent/\(gi gs h).name=(gi gs g).name)
noncomputable def TQ(gs:List Zr):Bool:=@decide (ZX gs) (Classical.propDecidable _)
theorem XO{gs:List Zr}:TQ gs=true↔ZX gs:=@decide_eq_true_iff _ (Classical.propDecidable _)
theorem Dt{gs:List Zr}(h:¬ZX gs):TQ gs=false:=by
 cases hb:TQ gs with
 | false=>rfl
 | true=>exact Is (XO.1 hb) h
theorem HX{gs:List Zr}(hp:∀g:Int,g≠0->Q6 gs g=true->Q6 gs (gi gs g).parent=true):∀(f:Nat) (g n:Int),Q6 gs g=true->TM (f+1) gs g n=if dep f gs g<0 then -1 else n+dep f gs g
 | 0,g,n,hu=>by
  simp only[TM,dep,hu]
  by_cases hg:g=0 <;> simp[hg]
 | f+1,g,n,hu=>by
  rw[TM];simp only[hu]
  by_cases hg:g=0
  ·simp[hg,dep]
  ·have ih:=HX hp f (gi gs g).parent (n+1) (hp g hg hu);have hr:=VY gs f (gi gs g).parent;simp only[dep,C' hg];rw[ih]
   by_cases hd:dep f gs (gi gs g).parent<0
   ·simp[hd]
   ·have h2:¬(dep f gs (gi gs g).parent+1<0):=Qo;simp[hd,h2]; omega
theorem zm1{gs:List Zr}{f:Nat}{g n:Int}(hg:g≠0)(h:TM (f+1) gs g n≠-1):f≠0/\Q6 gs (gi gs g).parent=true:=by
 rw[TM] at h
 by_cases hu:Q6 gs g=false
 ·rw[E' hu] at h; exact Is rfl h
 ·rw[C' hu,C' hg] at h
  cases f with
  | zero=>exact Is rfl h
  | succ f=>
   rw[TM] at h
   by_cases hp:Q6 gs (gi gs g).parent=false
   ·rw[E' hp] at h; exact Is rfl h
   ·exact⟨Qo,by simpa using hp⟩
structure zkb (gs:List Zr) (k:Int):Prop where
 each:∀g:Int,1<=g->g<k->(gi gs g).used=true->JM (gi gs g).name=true/\Yx (TM 9 gs g 0) 1 3=true/\∀h:Int,1<=h->h<g->(gi gs h).used=true->¬((gi gs h).parent=(gi gs g).parent/\(gi gs h).name=(gi gs g).name)
theorem znu{gs:List Zr}(hl:gs.length=8)(ru:(gi gs 0).used=true)(rp:(gi gs 0).parent = -1)(rn:(gi gs 0).name=⟨[].toArray⟩)(h:zkb gs 8):ZX gs:=by
 have par:∀g:Int,1<=g->g<8->(gi gs g).used=true->Q6 gs (gi gs g).parent=true:=fun g h1 h2 hu=>by
  have:=Qt.1 (h.each g h1 h2 hu).2.1;exact(zm1 (f:=8) (n:=0) Qo (by show TM 9 gs g 0≠-1; omega)).2
 have hp:∀g:Int,g≠0->Q6 gs g=true->Q6 gs (gi gs g).parent=true:=fun g hg hu=>by
  obtain⟨a,b,c⟩:=Q5.1 hu;exact par g Qo Qo c
 refine⟨hl,ru,rp,rn,fun g h1 h2 hu=>(h.each g h1 h2 hu).1,par,fun g h1 h2 hu=>?_,fun g k h1 h2 h3 hu hk=>(h.each g Qo h3 hu).2.2 k h1 h2 hk⟩;have h9:=Qt.1 (h.each g h1 h2 hu).2.1;rw[HX hp 8 g 0 (Q5.2 ⟨Qo,Qo,hu⟩)] at h9
 split at h9
 ·omega
 ·rename_i hd;have:=Kq gs 8 3 g Qo Qo;omega
theorem zl6{gs:List Zr}(h:ZX gs):zkb gs 8:=by
 have hp:∀g:Int,g≠0->Q6 gs g=true->Q6 gs (gi gs g).parent=true:=fun g hg hu=>by
  obtain⟨a,b,c⟩:=Q5.1 hu;have:=h.len;exact h.par g Qo Qo c
 refine⟨fun g h1 h2 hu=>⟨h.nm g h1 h2 hu,?_,fun k h3 h4 hk=>h.uniq g k h3 h4 h2 hu hk⟩⟩;have hl:=h.len;rw[HX hp 8 g 0 (Q5.2 ⟨Qo,Qo,hu⟩)];have h3:=h.dp g h1 h2 hu;have hr:=VY gs 3 g;have:=Kq gs 3 8 g h3 Qo;rw[this,C' Qo];have hz:dep 3 gs g≠0:=fun e=>by have:=zov e; omega
 exact Qt.2 Qo
section
variable {gs:List Zr}{ms:Nat->MG}{o:OA}{c:Nat}{w:Wo}{bs:List Nat}
theorem Mj.used(h:Mj bs w o gs ms){i:Int}(h0:0<=i)(h1:i<(gs.length:Int)):Q2 bs w o (Int.toNat i*14+0) [.bool (gi gs i).used]:=(h.cells i h0 h1).get 0 _ rfl
theorem Mj.parent(h:Mj bs w o gs ms){i:Int}(h0:0<=i)(h1:i<(gs.length:Int)):Q2 bs w o (Int.toNat i*14+1) [I (gi gs i).parent]:=(h.cells i h0 h1).get 1 _ rfl
theorem Mj.name(h:Mj bs w o gs ms){i:Int}(h0:0<=i)(h1:i<(gs.length:Int)):Q2 bs w o (Int.toNat i*14+2) [.string (gi gs i).name]:=(h.cells i h0 h1).get 2 _ rfl
theorem Yt{g:Int}(h:Mj bs w o gs ms):PX bs ZD #[.slice o gs.length c,I g] w (.bool (Q6 gs g)):=
 zbk o gs.length c g fun wr hx=>by
  have h:=(h.ext hx).less (cs:=[]) Qs;refine⟨fun q=>?_,(gi gs g).used,fun q=>?_,rfl⟩
  ·have q:0<=g/\g<(gs.length:Int):=by simpa using q
   exact h.ix q.1 q.2
  ·have q:0<=g/\g<(gs.length:Int):=by simpa using q
   exact h.used q.1 q.2
theorem OZ{g:Int}(h:Mj bs w o gs ms)(hl:gs.length<maxLen):PX bs J6 #[.slice o gs.length c,I g] w (I (TM (gs.length+1) gs g 0)):=
 C8 o gs.length c g fun wr hx=>by
  have h:=(h.ext hx).less (cs:=[]) Qs;refine TN (gs.length+1) 0 rfl (fun x k=>k<=gs.length+1/\TM (gs.length+1-k) gs x k=TM (gs.length+1) gs g 0) ⟨Qo,rfl⟩ fun x k ⟨hk,he⟩=>⟨fun IQ=>?_,fun RH=>?_⟩
  ·have IQ:=Ot IQ;have hf:gs.length+1-k=(gs.length-k)+1:=Qo;rw[hf,TM] at he;refine⟨_,Yt h,fun hu=>?_,fun hu=>?_⟩
   ·have hu:Q6 gs x=false:=by simpa using hu
    rw[E' hu] at he;rw[<-he]
   ·have hu:Q6 gs x=true:=by simpa using hu
    rw[C' (by simp[hu])] at he;obtain⟨u1,u2,u3⟩:=Q5.1 hu;refine⟨fun hz=>?_,fun hz=>?_⟩
    ·rw[E' (by simpa using hz)] at he;rw[<-he]
    ·rw[C' (by simpa using hz)] at he;have hm:=XJ;refine⟨h.ix u1 u2,_,h.parent u1 u2,⟨Qo,Qo⟩,QF Qo ⟨Qo,?_⟩⟩;rw[<-he,show gs.length+1-(k+1)=gs.length-k by omega];rfl
  ·have RH:=Ou RH;have:gs.length+1-k=0:=Qo;rw[this] at he;rw[<-he]; rfl
theorem PE(h:Mj bs w o gs ms)(hl:gs.length<=maxLen):PX bs JF #[.slice o gs.length c] w (.bool (TQ gs)):=
 zbg o gs.length c fun wr hx=>by
  have h:=(h.ext hx).less (cs:=[]) Qs;have l8:((((gs.length:Nat):Int) != 8)=false)->gs.length=8:=fun q=>by have:=(bne_eq_false_iff_eq).1 q; omega
  have i0:∀q:(((gs.length:Nat):Int) != 8)=false,(0:Int)<(gs.length:Int):=fun q=>by have:=l8 q; omega
  refine⟨fun q=>h.ix (I3 _) (i0 q),(gi gs 0).used,fun q=>h.used (I3 _) (i0 q),fun q=>?_,(gi gs 0).parent,fun q=>?_,fun q=>?_,(gi gs 0).name,fun q=>?_,fun q=>?_,fun q=>?_⟩
  ·simp only[I0] at q; exact h.ix (I3 _) (i0 q.1)
  ·simp only[I0] at q; exact h.parent (I3 _) (i0 q.1)
  ·simp only[I0] at q; exact h.ix (I3 _) (i0 q.1.1)
  ·simp only[I0] at q; exact h.name (I3 _) (i0 q.1.1)
  ·rw[Dt];intro ht;have e:((gs.length:Nat):Int)=8:=by have:=ht.len; omega
   rw[e,ht.ru,ht.rp,ht.rn,Do] at q;simp at q
  ·simp only[I0,I7,bne_eq_false_iff_eq,JZ] at q;obtain⟨⟨⟨q1,ru⟩,rp⟩,rn⟩:=q;have hl8:gs.length=8:=Qo;refine Xg 8 1 rfl (fun k=>1<=k/\k<=8/\zkb gs k) ⟨I8 _,Qo,⟨fun g h1 h2=>by omega⟩⟩ fun k ⟨hk1,hk,hS⟩=>⟨fun IQ=>?_,fun RH=>?_⟩
   ·have IQ:=Ot IQ;have dW:(0:Int)<=(k:Int):=Qo
    have step:((gi gs (k:Int)).used=true->JM (gi gs (k:Int)).name=true/\Yx (TM 9 gs (k:Int) 0) 1 3=true/\∀h:Int,1<=h->h<(k:Int)->(gi gs h).used=true->¬((gi gs h).parent=(gi gs (k:Int)).parent/\(gi gs h).name=(gi gs (k:Int)).name))->zkb gs ((k+1:Nat):Int):=fun qB=>⟨fun g h1 h2 hu=>by
     by_cases rO:g<(k:Int)
     ·exact hS.each g h1 rO hu
     ·have:g=(k:Int):=Qo;subst this; exact qB hu⟩
    refine⟨h.ix dW IQ,_,h.used dW IQ,fun hu=>⟨⟨Qo,Qo⟩,QA Qo ⟨Qo,Qo,step fun hu'=>by rw[hu'] at hu; cases hu⟩⟩,fun hu=>?_⟩;have hu:(gi gs (k:Int)).used=true:=by simpa using hu
    refine⟨h.ix dW IQ,_,h.name dW IQ,_,LZ,TM 9 gs (k:Int) 0,fun _=>?_,Yx (TM 9 gs (k:Int) 0) 1 3,fun _=>Qm,fun q=>?_,fun q=>?_⟩
    ·have:=OZ (c:=c) (g:=(k:Int)) h (by rw[hl8]; simp[maxLen])
     rwa[hl8] at this ⊢
    ·rw[Dt];intro ht;have:=(zl6 ht).each (k:Int) Qo Qo hu;rw[this.1,this.2.1] at q;cases q
    ·simp only[I0,I7] at q;refine Xg k 1 rfl (fun j=>1<=j/\j<=k/\∀h:Int,1<=h->h<(j:Int)->(gi gs h).used=true->¬((gi gs h).parent=(gi gs (k:Int)).parent/\(gi gs h).name=(gi gs (k:Int)).name)) ⟨I8 _,hk1,fun g h1 h2=>by omega⟩ fun j ⟨hj1,gG,hJ⟩=>⟨fun RU=>?_,fun bU=>?_⟩
     ·have RU:=Ot RU;have hj0:(0:Int)<=(j:Int):=Qo;have hjl:(j:Int)<(gs.length:Int):=Qo;refine⟨h.ix hj0 hjl,_,h.used hj0 hjl,fun _=>h.ix hj0 hjl,_,fun _=>h.parent hj0 hjl,fun _=>h.ix dW IQ,_,fun _=>h.parent dW IQ,fun _=>h.ix hj0 hjl,_,fun _=>h.name hj0 hjl,fun _=>h.ix dW IQ,_,fun _=>h.name dW IQ,fun hs=>?_,fun hs=>⟨⟨Qo,Qo⟩,QA Qo ⟨Qo,Qo,fun g h1 h2 hg=>?_⟩⟩⟩
      ·rw[Dt];intro ht;simp only[A',It,JZ] at hs;exact ht.uniq (k:Int) (j:Int) Qo RU Qo hu hs.1.1 ⟨hs.1.2,hs.2⟩
      ·by_cases hgj:g<(j:Int)
       ·exact hJ g h1 hgj hg
       ·have:g=(j:Int):=Qo;subst this;rintro⟨e1,e2⟩;rw[hg,e1,e2,Do] at hs;simp at hs
     ·have bU:=Ou bU;have:j=k:=Qo;subst this;exact⟨⟨Qo,Qo⟩,QA Qo ⟨Qo,Qo,step fun _=>⟨q.1,q.2,hJ⟩⟩⟩
   ·have RH:=Ou RH;have:k=8:=Qo;subst this;rw[XO.2 (znu hl8 ru rp rn hS)]
def VQ:Nat->List Zr->Int->Int->Bool
 | 0,_,g,h=>h==g
 | f+1,gs,g,h=>h==g||(h != 0&&VQ f gs g (gi gs h).parent)
noncomputable def Of(gs:List Zr)(g h:Int):Bool:=TQ gs&&Q6 gs g&&Q6 gs h&&VQ 3 gs g h
theorem Y3{gs:List Zr}(ht:ZX gs){h:Int}(hu:Q6 gs h=true)(hz:h≠0):Q6 gs (gi gs h).parent=true/\0<=h/\h<(gs.length:Int)/\∃d:Nat,dep 3 gs h=(d:Int)+1/\dep 3 gs (gi gs h).parent=(d:Int)/\d<3:=by
 obtain⟨a,b,u⟩:=Q5.1 hu;have hl:=ht.len;have h1:1<=h:=Qo;have hd:=ht.dp h h1 Qo u;refine⟨ht.par h h1 Qo u,a,b,?_⟩;have hr:=VY gs 2 (gi gs h).parent;have e:dep 3 gs h=if dep 2 gs (gi gs h).parent<0 then -1 else dep 2 gs (gi gs h).parent+1:=by simp only[dep,C' hz]
 rw[e] at hd ⊢
 split at hd
 ·omega
 ·rename_i hn;rw[C' hn];have:=Kq gs 2 3 (gi gs h).parent Qo Qo;exact⟨(dep 2 gs (gi gs h).parent).toNat,Qo,Qo,Qo⟩
theorem zmu{gs:List Zr}(ht:ZX gs)(g:Int):∀(f f':Nat) (h:Int),Q6 gs h=true->dep 3 gs h<=f->dep 3 gs h<=f'->VQ f gs g h=VQ f' gs g h:=by
 intro f
 induction f with
 | zero=>
  intro f' h hu h1 h2
  have hz:h=0:=Ir fun hz=>by
   obtain⟨_,_,_,d,e,_⟩:=Y3 ht hu hz;omega
  subst hz
  cases f' <;> simp[VQ]
 | succ f ih=>
  intro f' h hu h1 h2
  by_cases hz:h=0
  ·subst hz
   cases f' <;> simp[VQ]
  ·obtain⟨hp,_,_,d,e,e2,_⟩:=Y3 ht hu hz
   cases f' with
   | zero=>omega
   | succ f'=>
    simp only[VQ];rw[ih f' (gi gs h).parent hp Qo Qo]
theorem zb8{gs:List Zr}(ht:ZX gs){g h:Int}(hu:Q6 gs h=true)(hz:h≠0)(hg:h≠g):VQ 3 gs g h=VQ 3 gs g (gi gs h).parent:=by
 obtain⟨hp,_,_,d,e,e2,hd⟩:=Y3 ht hu hz;rw[<-zmu ht g 2 3 (gi gs h).parent hp Qo Qo];have e3:VQ 3 gs g h=(h==g||(h != 0&&VQ 2 gs g (gi gs h).parent)):=rfl;rw[e3];have e4:(h==g)=false:=by simpa using hg
 have e5:(h != 0)=true:=by simpa using hz
 rw[e4,e5,Bool.false_or,Bool.true_and]
theorem Ti{g h:Int}(hr:Mj bs w o gs ms)(hl:gs.length<=maxLen):PX bs Xo #[.slice o gs.length c,I g,I h] w (.bool (Of gs g h)):=
 EQ o gs.length c g h fun wr hx=>by
  have hr:=(hr.ext hx).less (cs:=[]) Qs;refine⟨_,PE hr hl,_,fun _=>Yt hr,_,fun _=>Yt hr,fun q=>?_,fun q=>?_⟩
  ·have:Of gs g h=false:=by
    unfold Of
    cases h1:TQ gs <;> cases h2:Q6 gs g <;> cases h3:Q6 gs h <;> simp_all
   rw[this]
  ·simp only[I0,I7] at q;obtain⟨⟨q1,q2⟩,q3⟩:=q;have ht:=XO.1 q1;have hU:Of gs g h=VQ 3 gs g h:=by unfold Of; rw[q1,q2,q3]; rfl
   refine⟨fun vs=>∃x:Int,vs=[I x]/\Q6 gs x=true/\VQ 3 gs g x=VQ 3 gs g h,fun vs=>(dep 3 gs (Y5 0 vs)).toNat,⟨h,rfl,q3,rfl⟩,?_⟩;rintro x ⟨x',he,hu,hI⟩;simp only[I5,I6,true_and,and_true] at he;subst he;refine⟨fun gA=>⟨fun hz=>?_,fun hz=>?_⟩,fun heq=>?_⟩
   ·have hz:x=0:=by simpa using hz
    subst hz
    have:VQ 3 gs g 0=false:=by
     have:¬(0=g):=by simpa using gA
     simp[VQ,this]
    rw[hU,<-hI,this]
   ·have hz:x≠0:=by simpa using hz
    have gA:x≠g:=by simpa using gA
    obtain⟨hp,a,b,d,e,e2,hd⟩:=Y3 ht hu hz;refine⟨hr.ix a b,_,hr.parent a b,⟨_,rfl,hp,by rw[<-zb8 ht hu hz gA]; exact hI⟩,?_⟩;show (dep 3 gs (gi gs x).parent).toNat<(dep 3 gs x).toNat;omega
   ·have heq:x=g:=by simpa using heq
    subst heq;rw[hU,<-hI];simp[VQ]
end
theorem zmq{s:ByteArray}{i:Nat}(h:i<s.size):((s.get! i).toNat:Int)=Ju s (i:Int):=by
 have hi:i<s.data.size:=h;unfold Ju;rw[Ih];simp[ByteArray.get!,getElem!_pos s.data i hi,Array.getD,h]
theorem zb3{s:ByteArray}{i:Nat}(h:(s.get! i).toNat<128):Utf8.decode s i=((s.get! i).toNat,1):=by
 simp only[Utf8.decode,Nat.add_zero];rw[E' h]
theorem zmh{s:ByteArray}{i:Nat}(h:¬(s.get! i).toNat<128):128<=(Utf8.decode s i).1/\1<=(Utf8.decode s i).2:=by
 simp only[Utf8.decode,Nat.add_zero,Utf8.runeError];rw[C' h];split
 ·split
  ·rename_i h1; exact⟨h1,by show 1<=2; omega⟩
  ·exact⟨Qd,Qd⟩
 ·split
  ·split
   ·rename_i h1;simp only[ge_iff_le,A',Ik] at h1;exact⟨by show 128<=_; omega,by show 1<=3; omega⟩
   ·exact⟨Qd,Qd⟩
  ·split
   ·split
    ·rename_i h1;simp only[ge_iff_le,A',Ik] at h1;exact⟨by show 128<=_; omega,by show 1<=4; omega⟩
    ·exact⟨Qd,Qd⟩
   ·exact⟨Qd,Qd⟩
theorem zmx(w:Wo)(b:Nat)(s:ByteArray)(p:Nat):Q0 [b] w (OU w b s p):=
 ⟨rfl,rfl,rfl,by simp[OU],fun k _ hk=>by
  have:b≠k:=fun e=>hk (by simp[e])
  simp only[OU];rw[Array.getElem?_setIfInBounds_ne this]⟩
theorem zpj{w:Wo}{b:Nat}{s:ByteArray}{p:Nat}(h:b<w.heap.size):(OU w b s p).heap[b]? = some (.stringIter s p):=by
 simp[OU,h]
def zud(b:Nat)(w:Wo):Nat:=match w.heap[b]? with
 | some (.stringIter s p)=>s.size+1-p
 | _=>0
theorem zge{s:ByteArray}(h1:Zw s (⟨[119,101,105,103,104,116].toArray⟩)=false)(h2:Zw s (⟨[109,97,120].toArray⟩)=false)(h3:Zw s (⟨[99,112,117,115].toArray⟩)=false)(h4:Zw s (⟨[112,114,111,99,115].toArray⟩)=false)(h5:Zw s (⟨[115,116,97,116].toArray⟩)=false):Pk s=false:=by
 unfold Pk; rw[h1,h2,h3,h4,h5]; rfl
theorem TO{s:ByteArray}(h:Pk s=true):JM s=false:=M6 fun ⟨_,h2,_⟩=>by rw[h] at h2; cases h2
theorem zao{s:ByteArray}{w:Wo}{bs:List Nat}:PX bs OJ #[.string s] w (.bool (JM s)):=by
 refine Dd fun wr hx=>zae s (R:=fun v w'=>v=.bool (JM s)/\Q0 [] wr w') ?_
 refine⟨fun h=>?_,fun h1=>⟨fun h=>?_,fun h2=>⟨fun h=>?_,fun h3=>⟨fun h=>?_,fun h4=>⟨fun h=>?_,fun h5=>?_⟩⟩⟩⟩⟩
 ·intro w1 So; rw[TO (by unfold Pk; rw[h]; rfl)]; exact⟨rfl,So⟩
 ·intro w1 So; rw[TO (by unfold Pk; rw[h]; simp)]; exact⟨rfl,So⟩
 ·intro w1 So; rw[TO (by unfold Pk; rw[h]; simp)]; exact⟨rfl,So⟩
 ·intro w1 So; rw[TO (by unfold Pk; rw[h]; simp)]; exact⟨rfl,So⟩
 ·intro w1 So; rw[TO (by unfold Pk; rw[h]; simp)]; exact⟨rfl,So⟩
 ·have hf:=zge h1 h2 h3 h4 h5;refine⟨_,QO,fun h=>?_,fun h=>?_⟩
  ·intro w1 So;have h:Yx (s.size:Int) 1 8=false:=by simpa using h
   have h:=zt2.1 h;rw[M6 fun ⟨h6,_⟩=>h Qo];exact⟨rfl,So⟩
  ·have h:Yx (s.size:Int) 1 8=true:=by simpa using h
   have h:=Qt.1 h;intro w1 So _;refine⟨some ⟨w1.heap.size,0,none⟩,w1.alloc (.stringIter s 0),by simp[Instr.range,run_underlying CA],Ui,?_⟩;have hb0:(w1.alloc (.stringIter s 0)).heap[w1.heap.size]? = some (.stringIter s 0):=Array.getElem?_push_size ..;have hX0:Q0 [] wr (w1.alloc (.stringIter s 0)):=So.trans (QZ w1 _);have hbr:wr.heap.size<=w1.heap.size:=So.size;generalize w1.heap.size=b at hb0 hbr;generalize w1.alloc (.stringIter s 0)=w2 at hb0 hX0;refine⟨fun vs w'=>vs=[]/\Q0 [] wr w'/\∃p:Nat,p<=s.size/\w'.heap[b]? = some (.stringIter s p)/\∀j:Nat,j<p->zrk (Ju s (j:Int))=true,fun _ w'=>zud b w',fun w3 Rm _=>⟨rfl,hX0.trans Rm,0,Ie _,Zg hb0 Rm Qs,fun j hj=>Is hj (Nat.not_lt_zero j)⟩,?_⟩;intro w3 _ ⟨_,hX,p,hp,hb,hI⟩ w4 SZ _;have hb4:=Zg hb SZ Qs;refine⟨b,s,p,rfl,Qs,hb4,fun RH=>⟨(by intro q; cases q),fun _ w5 SK=>?_⟩,fun IQ=>⟨fun _=>?_,by intro q; cases q⟩⟩
   ·have:p=s.size:=Qo;subst this;rw[MC.2 ⟨⟨Qo,Qo⟩,hf,hI⟩];exact⟨rfl,(hX.trans SZ).trans SK⟩
   ·have hX5:Q0 [] wr (OU w4 b s (p+(Utf8.decode s p).2)):=(hX.trans SZ).fresh (zmx w4 b s _) fun x hm=>.inl (by rw[IA.1 hm]; exact hbr)
    have hg:=zmq IQ;refine⟨fun i'=>?_,fun AJ1=>?_⟩
    ·intro w5 SK
     have Cs6:JM s=false:=M6 fun ⟨_,_,h3⟩=>by
      have h3:=h3 p IQ
      by_cases hlo:(s.get! p).toNat<128
      ·rw[zb3 hlo] at i';simp only[hg] at i';unfold zrk at h3;rw[h3] at i'
       cases i'
      ·unfold zrk at h3;simp only[Iv,A',Ik] at h3;omega
     rw[Cs6];exact⟨rfl,hX5.trans SK⟩
    ·intro w5 SK _
     by_cases hlo:(s.get! p).toNat<128
     ·rw[zb3 hlo] at AJ1 hX5 SK;simp only[hg] at AJ1;have hat:=Zg (zpj (s:=s) (p:=p+1) (VX hb4)) SK Qs;refine⟨⟨rfl,hX5.trans SK,p+1,Qo,hat,fun j hj=>?_⟩,?_⟩
      ·by_cases hjp:j<p
       ·exact hI j hjp
       ·have:j=p:=Qo;subst this;unfold zrk;rw[I7] at AJ1;exact AJ1
      ·simp only[zud,hat,hb];omega
     ·exfalso
      have:=zmh hlo;rw[I7] at AJ1;simp only[Iv,A',Ik] at AJ1;omega
end Go.Proofs.YtnclplgaicdapaaGreatDoor
