/- Part 9 of what the law FnTree needs: the engine, the functions' propositions, the contracts. -/
import Derived.Test.YtclpmgfpjeaibaaGreatFnTreePh
namespace Go.Proofs.YtclpmgfpjeaibaaGreat
open Go.RowKit
set_option linter.unusedVariables false
set_option maxRecDepth 100000
set_option maxHeartbeats 1600000
def KS (d:OA) (w:World) (R:RT):= (∀a,w.heap.size<=a->(∃(j:List Value->List Nat->World->Prop),(((∀s a2,Q0 [] w a2->w.heap.size<=s->a2.heap[s]? = some (Obj.cells ([I 1,I 20,I 21,I 50,I 100,I 10000]:List Value).toArray Qb (0,0))->s∉([a]:List Nat)->((AY [a] a2 fun g5 =>  Cz Q1 #[.pointer d,I 6] g5 fun cg M=>(∃B,cg = .returned (I B)/\Q9 [a] g5 M/\Ix (some (Addr.mk s 0 none)) 6 B/\(∃v,Q2 [a] M (some (Addr.mk s 0 none)) (Int.toNat B*1) [I v]/\((AY [a] M fun u5 =>  Cz Q1 #[.pointer d,I 4] u5 fun de Q=>(∃a9,de = .returned (I a9)/\Q9 [a] u5 Q/\Q2 [a] Q (some (Addr.mk s 0 none)) (Int.toNat B*1) [I v]/\Qo .i64 (1+a9)/\((AY [a] Q fun m1 =>  Cz Qs #[I v,I (1+a9)] m1 fun cz a6=>(∃m4 y1 h1 u1 q3 ah bk p4 h8 cq,cz = .returned (.tuple #[.agg #[I m4,I y1,I h1,S u1 q3 ah,S bk p4 h8],.bool cq])/\Q9 [a] m1 a6/\(∀d3,a6.heap.size<=d3->Q2 [a] a6 (some (Addr.mk s 0 none)) (Int.toNat B*1) [I v]/\(AX [a] [a,d3] a6 fun dq=>j [I m4,I y1,I h1,S u1 q3 ah,S bk p4 h8] [d3] dq)))))/\((∀a0,Q.heap.size<=a0->Q2 [a] Q (some (Addr.mk s 0 none)) (Int.toNat B*1) [I v]/\(AX [a] [a,a0] Q fun p5 =>  Cz Qs #[I v,I (1+a9)] p5 fun co l2=>(∃s9 aa g2 j8 bj t4 n4 v7 p3 eg,co = .returned (.tuple #[.agg #[I s9,I aa,I g2,S j8 bj t4,S n4 v7 p3],.bool eg])/\Q9 [a,a0] p5 l2/\(AY [a,a0] l2 fun bu=>j [I s9,I aa,I g2,S j8 bj t4,S n4 v7 p3] [a0] bu))))))))/\((∀C,M.heap.size<=C->Q2 [a] M (some (Addr.mk s 0 none)) (Int.toNat B*1) [I v]/\(AX [a] [a,C] M fun s3 =>  Cz Q1 #[.pointer d,I 4] s3 fun cn f1=>(∃e3,cn = .returned (I e3)/\Q9 [a,C] s3 f1/\Q2 [a,C] f1 (some (Addr.mk s 0 none)) (Int.toNat B*1) [I v]/\Qo .i64 (1+e3)/\(AY [a,C] f1 fun bg =>  Cz Qs #[I v,I (1+e3)] bg fun dx q6=>(∃n5 x9 al ar bm t9 j9 g1 y7 cb,dx = .returned (.tuple #[.agg #[I n5,I x9,I al,S ar bm t9,S j9 g1 y7],.bool cb])/\Q9 [a,C] bg q6/\(AY [a,C] q6 fun du=>j [I n5,I x9,I al,S ar bm t9,S j9 g1 y7] [C] du)))))))))))/\((∀t,a2.heap.size<=t->(AX [a] [a,t] a2 fun j3 =>  Cz Q1 #[.pointer d,I 6] j3 fun db c2=>(∃b7,db = .returned (I b7)/\Q9 [a,t] j3 c2/\Ix (some (Addr.mk s 0 none)) 6 b7/\(∃c4,Q2 [a,t] c2 (some (Addr.mk s 0 none)) (Int.toNat b7*1) [I c4]/\(AY [a,t] c2 fun l8 =>  Cz Q1 #[.pointer d,I 4] l8 fun dd f8=>(∃d5,dd = .returned (I d5)/\Q9 [a,t] l8 f8/\Q2 [a,t] f8 (some (Addr.mk s 0 none)) (Int.toNat b7*1) [I c4]/\Qo .i64 (1+d5)/\(AY [a,t] f8 fun r6 =>  Cz Qs #[I c4,I (1+d5)] r6 fun ch az=>(∃q0 t0 k1 ap n9 v2 z9 aw ax dm,ch = .returned (.tuple #[.agg #[I q0,I t0,I k1,S ap n9 v2,S z9 aw ax],.bool dm])/\Q9 [a,t] r6 az/\(AY [a,t] az fun dj=>j [I q0,I t0,I k1,S ap n9 v2,S z9 aw ax] [t] dj))))))))))))/\(((AX [] [a] w fun h6 =>  Cz Q1 #[.pointer d,I 6] h6 fun ed A=>(∃g,ed = .returned (I g)/\Q9 [a] h6 A/\((∀u D,Q0 [a] A D->A.heap.size<=u->D.heap[u]? = some (Obj.cells ([I 1,I 20,I 21,I 50,I 100,I 10000]:List Value).toArray Qb (0,0))->u∉([a]:List Nat)->Ix (some (Addr.mk u 0 none)) 6 g/\(∃x,
 Q2 [a] D (some (Addr.mk u 0 none)) (Int.toNat g*1) [I x]/\((AY [a] D fun l7 =>  Cz Q1 #[.pointer d,I 4] l7 fun bv K=>(∃b0,bv = .returned (I b0)/\Q9 [a] l7 K/\Q2 [a] K (some (Addr.mk u 0 none)) (Int.toNat g*1) [I x]/\Qo .i64 (1+b0)/\((AY [a] K fun z5 =>  Cz Qs #[I x,I (1+b0)] z5 fun da b5=>(∃n3 h4 ab j2 p0 j4 r9 l1 ac bw,da = .returned (.tuple #[.agg #[I n3,I h4,I ab,S j2 p0 j4,S r9 l1 ac],.bool bw])/\Q9 [a] z5 b5/\(∀e1,b5.heap.size<=e1->Q2 [a] b5 (some (Addr.mk u 0 none)) (Int.toNat g*1) [I x]/\(AX [a] [a,e1] b5 fun ce=>j [I n3,I h4,I ab,S j2 p0 j4,S r9 l1 ac] [e1] ce)))))/\((∀a4,K.heap.size<=a4->Q2 [a] K (some (Addr.mk u 0 none)) (Int.toNat g*1) [I x]/\(AX [a] [a,a4] K fun g9 =>  Cz Qs #[I x,I (1+b0)] g9 fun bp ae=>(∃s4 h7 bi u2 x8 l4 z8 bl af dr,bp = .returned (.tuple #[.agg #[I s4,I h7,I bi,S u2 x8 l4,S z8 bl af],.bool dr])/\Q9 [a,a4] g9 ae/\(AY [a,a4] ae fun dg=>j [I s4,I h7,I bi,S u2 x8 l4,S z8 bl af] [a4] dg))))))))/\((∀z,D.heap.size<=z->Q2 [a] D (some (Addr.mk u 0 none)) (Int.toNat g*1) [I x]/\(AX [a] [a,z] D fun p9 =>  Cz Q1 #[.pointer d,I 4] p9 fun dc f7=>(∃f5,dc = .returned (I f5)/\Q9 [a,z] p9 f7/\Q2 [a,z] f7 (some (Addr.mk u 0 none)) (Int.toNat g*1) [I x]/\Qo .i64 (1+f5)/\(AY [a,z] f7 fun y2 =>  Cz Qs #[I x,I (1+f5)] y2 fun dl bc=>(∃g4 t6 g0 y0 z4 v5 t2 s2 y5 ds,dl = .returned (.tuple #[.agg #[I g4,I t6,I g0,S y0 z4 v5,S t2 s2 y5],.bool ds])/\Q9 [a,z] y2 bc/\(AY [a,z] bc fun ej=>j [I g4,I t6,I g0,S y0 z4 v5,S t2 s2 y5] [z] ej))))))))))/\(((AY [a] A fun s6 =>  Cz Q1 #[.pointer d,I 4] s6 fun ct T=>(∃Y,ct = .returned (I Y)/\Q9 [a] s6 T/\Qo .i64 (1+Y)/\((∀E H,Q0 [a] T H->T.heap.size<=E->H.heap[E]? = some (Obj.cells ([I 1,I 20,I 21,I 50,I 100,I 10000]:List Value).toArray Qb (0,0))->E∉([a]:List Nat)->Ix (some (Addr.mk E 0 none)) 6 g/\(∃a3,Q2 [a] H (some (Addr.mk E 0 none)) (Int.toNat g*1) [I a3]/\((AY [a] H fun r1 =>  Cz Qs #[I a3,I (1+Y)] r1 fun di b3=>(∃r4 k9 g7 h9 v6 t8 av ak v1 dp,di = .returned (.tuple #[.agg #[I r4,I k9,I g7,S h9 v6 t8,S av ak v1],.bool dp])/\Q9 [a] r1 b3/\(∀f3,b3.heap.size<=f3->Q2 [a] b3 (some (Addr.mk E 0 none)) (Int.toNat g*1) [I a3]/\(AX [a] [a,f3] b3 fun cw=>j [I r4,I k9,I g7,S h9 v6 t8,S av ak v1] [f3] cw)))))/\((∀V,H.heap.size<=V->Q2 [a] H (some (Addr.mk E 0 none)) (Int.toNat g*1) [I a3]/\(AX [a] [a,V] H fun s7 =>  Cz Qs #[I a3,I (1+Y)] s7 fun bt q4=>(∃q9 y9 t5 u6 u8 ao y3 q2 p6 ee,bt = .returned (.tuple #[.agg #[I q9,I y9,I t5,S u6 u8 ao,S y3 q2 p6],.bool ee])/\Q9 [a,V] s7 q4/\(AY [a,V] q4 fun ef=>j [I q9,I y9,I t5,S u6 u8 ao,S y3 q2 p6] [V] ef))))))))/\((∀G,T.heap.size<=G->(∀a1 a5,Q0 [a] T a5->T.heap.size<=a1->a5.heap[a1]? = some (Obj.cells ([I 1,I 20,I 21,I 50,I 100,I 10000]:List Value).toArray Qb (0,0))->a1∉([a,G]:List Nat)->Ix (some (Addr.mk a1 0 none)) 6 g/\(∃bh,Q2 [a,G] a5 (some (Addr.mk a1 0 none)) (Int.toNat g*1) [I bh]/\(AY [a,G] a5 fun y8 =>  Cz Qs #[I bh,I (1+Y)] y8 fun cd q5=>
 (∃ay u3 k6 n6 h2 q8 z2 l6 u9 cu,cd = .returned (.tuple #[.agg #[I ay,I u3,I k6,S n6 h2 q8,S z2 l6 u9],.bool cu])/\Q9 [a,G] y8 q5/\(AY [a,G] q5 fun bx=>j [I ay,I u3,I k6,S n6 h2 q8,S z2 l6 u9] [G] bx))))))))))/\((∀f,A.heap.size<=f->((∀N b1,Q0 [a] A b1->A.heap.size<=N->b1.heap[N]? = some (Obj.cells ([I 1,I 20,I 21,I 50,I 100,I 10000]:List Value).toArray Qb (0,0))->N∉([a,f]:List Nat)->Ix (some (Addr.mk N 0 none)) 6 g/\(∃d9,Q2 [a,f] b1 (some (Addr.mk N 0 none)) (Int.toNat g*1) [I d9]/\(AY [a,f] b1 fun x0 =>  Cz Q1 #[.pointer d,I 4] x0 fun ea e8=>(∃d7,ea = .returned (I d7)/\Q9 [a,f] x0 e8/\Q2 [a,f] e8 (some (Addr.mk N 0 none)) (Int.toNat g*1) [I d9]/\Qo .i64 (1+d7)/\(AY [a,f] e8 fun ad =>  Cz Qs #[I d9,I (1+d7)] ad fun cr t7=>(∃m5 g6 r7 r3 m6 h0 n2 m2 x2 dz,cr = .returned (.tuple #[.agg #[I m5,I g6,I r7,S r3 m6 h0,S n2 m2 x2],.bool dz])/\Q9 [a,f] ad t7/\(AY [a,f] t7 fun ck=>j [I m5,I g6,I r7,S r3 m6 h0,S n2 m2 x2] [f] ck))))))))/\((AX [a] [a,f] A fun aq =>  Cz Q1 #[.pointer d,I 4] aq fun cf f2=>(∃b9,cf = .returned (I b9)/\Q9 [a,f] aq f2/\Qo .i64 (1+b9)/\(∀Z b4,Q0 [a,f] f2 b4->f2.heap.size<=Z->b4.heap[Z]? = some (Obj.cells ([I 1,I 20,I 21,I 50,I 100,I 10000]:List Value).toArray Qb (0,0))->Z∉([a,f]:List Nat)->Ix (some (Addr.mk Z 0 none)) 6 g/\(∃s8,Q2 [a,f] b4 (some (Addr.mk Z 0 none)) (Int.toNat g*1) [I s8]/\(AY [a,f] b4 fun j0 =>  Cz Qs #[I s8,I (1+b9)] j0 fun dy n8=>(∃j7 v8 ag y4 z7 m0 u7 n1 k5 cs,dy = .returned (.tuple #[.agg #[I j7,I v8,I ag,S y4 z7 m0,S u7 n1 k5],.bool cs])/\Q9 [a,f] j0 n8/\(AY [a,f] n8 fun eb=>j [I j7,I v8,I ag,S y4 z7 m0,S u7 n1 k5] [f] eb))))))))))))))/\((∀b,w.heap.size<=b->((∀L c6,Q0 [] w c6->w.heap.size<=L->c6.heap[L]? = some (Obj.cells ([I 1,I 20,I 21,I 50,I 100,I 10000]:List Value).toArray Qb (0,0))->L∉([a,b]:List Nat)->(AY [a,b] c6 fun x1 =>  Cz Q1 #[.pointer d,I 6] x1 fun dw d8=>(∃a7,dw = .returned (I a7)/\Q9 [a,b] x1 d8/\Ix (some (Addr.mk L 0 none)) 6 a7/\(∃f0,Q2 [a,b] d8 (some (Addr.mk L 0 none)) (Int.toNat a7*1) [I f0]/\(AY [a,b] d8 fun h5 =>  Cz Q1 #[.pointer d,I 4] h5 fun cj d1=>(∃c7,cj = .returned (I c7)/\Q9 [a,b] h5 d1/\Q2 [a,b] d1 (some (Addr.mk L 0 none)) (Int.toNat a7*1) [I f0]/\Qo .i64 (1+c7)/\(AY [a,b] d1 fun bf =>  Cz Qs #[I f0,I (1+c7)] bf fun ei m3=>(∃l5 k7 j6 r0 bb l0 s0 y6 aj dt,ei = .returned (.tuple #[.agg #[I l5,I k7,I j6,S r0 bb l0,S s0 y6 aj],.bool dt])/\Q9 [a,b] bf m3/\(AY [a,b] m3 fun cx=>j [I l5,I k7,I j6,S r0 bb l0,S s0 y6 aj] [b] cx))))))))))/\((AX [] [a,b] w fun bd =>  Cz Q1 #[.pointer d,I 6] bd fun bz a8=>(∃O,bz = .returned (I O)/\Q9 [a,b] bd a8/\((∀J b2,Q0 [a,b] a8 b2->a8.heap.size<=J->b2.heap[J]? = some (Obj.cells ([I 1,I 20,I 21,I 50,I 100,I 10000]:List Value).toArray Qb (0,0))->J∉([a,b]:List Nat)->Ix (some (Addr.mk J 0 none)) 6 O/\(∃e2,Q2 [a,b] b2 (some (Addr.mk J 0 none)) (Int.toNat O*1) [I e2]/\(AY [a,b] b2 fun s1 =>  Cz Q1 #[.pointer d,I 4] s1 fun ca d6=>(∃c9,
 ca = .returned (I c9)/\Q9 [a,b] s1 d6/\Q2 [a,b] d6 (some (Addr.mk J 0 none)) (Int.toNat O*1) [I e2]/\Qo .i64 (1+c9)/\(AY [a,b] d6 fun u4 =>  Cz Qs #[I e2,I (1+c9)] u4 fun eh k8=>(∃x3 m8 t1 z6 v4 x7 v3 r8 r2 dn,eh = .returned (.tuple #[.agg #[I x3,I m8,I t1,S z6 v4 x7,S v3 r8 r2],.bool dn])/\Q9 [a,b] u4 k8/\(AY [a,b] k8 fun ec=>j [I x3,I m8,I t1,S z6 v4 x7,S v3 r8 r2] [b] ec))))))))/\((AY [a,b] a8 fun h3 =>  Cz Q1 #[.pointer d,I 4] h3 fun br c1=>(∃f4,br = .returned (I f4)/\Q9 [a,b] h3 c1/\Qo .i64 (1+f4)/\(∀X b6,Q0 [a,b] c1 b6->c1.heap.size<=X->b6.heap[X]? = some (Obj.cells ([I 1,I 20,I 21,I 50,I 100,I 10000]:List Value).toArray Qb (0,0))->X∉([a,b]:List Nat)->Ix (some (Addr.mk X 0 none)) 6 O/\(∃p8,Q2 [a,b] b6 (some (Addr.mk X 0 none)) (Int.toNat O*1) [I p8]/\(AY [a,b] b6 fun ai =>  Cz Qs #[I p8,I (1+f4)] ai fun dk v0=>(∃l9 v9 l3 u0 ba be q7 x5 k2 cp,dk = .returned (.tuple #[.agg #[I l9,I v9,I l3,S u0 ba be,S q7 x5 k2],.bool cp])/\Q9 [a,b] ai v0/\(AY [a,b] v0 fun dv=>j [I l9,I v9,I l3,S u0 ba be,S q7 x5 k2] [b] dv)))))))))))))))/\(∀(n7 g3 k4:Int) (an:OA) (x4 j5:Nat) (p1:OA) (t3 r5 c:Nat) (e9:World),(∀bq∈[a,c],bq<e9.heap.size)->j [I n7,I g3,I k4,S an x4 j5,S p1 t3 r5] [c] e9->(AY [a,c] e9 fun s5 =>  Cz Q1 #[.pointer d,I 24] s5 fun cv n0=>(∃d2,cv = .returned (I d2)/\Q9 [a,c] s5 n0/\(∃(f6:List Value->World->Prop) (z3:List Value->World->Nat),(AY [a,c] n0 fun dh=>f6 [I 0,I n7,I g3,I k4,S an x4 j5,S p1 t3 r5] dh)/\∀(F q l o:Int) (i:OA) (k p:Nat) (e:OA) (h m:Nat) U,(∀bq∈[a,c],bq<U.heap.size)->f6 [I F,I q,I l,I o,S i k p,S e h m] U->((decide (F<d2))=true->(AY [a,c] U fun q1 =>  Cz YR #[.pointer d] q1 fun cc z0=>(∃k3 au x6,cc = .returned (.agg #[I k3,I au,I x6])/\Q9 [a,c] q1 z0/\(some (Xv,([I q,I l,I o,S i k p,S e h m]:List Value))=some (Xv,([I q,I l,I o,S i k p,S e h m]:List Value)))/\(AY [a,c] z0 fun p2 =>  Cz ZQ #[.agg #[I q,I l,I o,S i k p,S e h m],.agg #[I k3,I au,I x6]] p2 fun cl z1=>(∃e7 c5 e0 c8 c3 e6 d0 b8 e5 cm,cl = .returned (.tuple #[.agg #[I e7,I c5,I e0,S c8 c3 e6,S d0 b8 e5],I cm])/\Q9 [a,c] p2 z1/\Qo .i64 (F+1)/\(AY [a,c] z1 fun bo=>f6 [I (F+1),I e7,I c5,I e0,S c8 c3 e6,S d0 b8 e5] bo/\z3 [I (F+1),I e7,I c5,I e0,S c8 c3 e6,S d0 b8 e5] bo<z3 [I F,I q,I l,I o,S i k p,S e h m] U))))))/\((decide (F<d2))=false->(AY [a,c] U fun g8 =>  Cz Q1 #[.pointer d,I 8] g8 fun cy f9=>(∃d4,cy = .returned (I d4)/\Q9 [a,c] g8 f9/\((decide (d4>0))=true->(AR [a,c] f9 R (.agg #[I q,I l,I o,S i k p,S e h m])))/\((decide (d4>0))=false->(AY [a,c] f9 fun j1 =>  Cz Q1 #[.pointer d,I (k:Int)] j1 fun df p7=>(∃y,df = .returned (I y)/\Q9 [a,c] j1 p7/\(AY [a,c] p7 fun am =>  Cz Q1 #[.pointer d,I 7] am fun ci r=>(∃n,ci = .returned (I n)/\Q9 [a,c] am r/\((n==0)=true->Qo .i64 (l+1)/\(AR [a,c] r R (.agg #[I q,I (l+1),I o,S i k p,S e h m])))/\((n==0)=false->((n==1)=true->Ix e h y/\(∃m9,Q2 [a,c] r e (Int.toNat y*1) [.bool m9]/\
 Ix e h y/\YY [a,c] r e (Int.toNat y*1) 1/\(AR [a,c] (sto r e (Int.toNat y*1) [.bool (!m9)]) R (.agg #[I q,I l,I o,S i k p,S e h m]))))/\((n==1)=false->((n==2)=true->Ix i k y/\YY [a,c] r i (Int.toNat y*1) 1/\(AR [a,c] (sto r i (Int.toNat y*1) [I (-1)]) R (.agg #[I q,I l,I o,S i k p,S e h m])))/\((n==2)=false->((n==3)=true->(AR [a,c] r R (.agg #[I 0,I l,I o,S i k p,S e h m])))/\((n==3)=false->((n==4)=true->(0<=(1:Int)/\(1:Int)<=(h:Int)/\(h:Int)<=(m:Int))/\(AR [a,c] r R (.agg #[I q,I l,I o,S i k p,S (if m=Int.toNat 1 then e else e.map (·.add (Int.toNat 1*1))) (Int.toNat (h:Int) - Int.toNat 1) (m - Int.toNat 1)])))/\((n==4)=false->((n==5)=true->(∀P,r.heap.size<=P->(AX [a,c] [a,c,P] r fun e4=>e4.heap[P]? = some (Obj.cells ([I 0]:List Value).toArray Qb (0,0))->(∃bn k0 m7,∃c0,(builtin .append #[Zj,Zj] Zj #[false,false] #[S i k p,S (some (Addr.mk P 0 none)) 1 1]).run Tryz.prog e4 = .ok (.value (S bn k0 m7)) c0/\Q9 [a,c,P] e4 c0/\(AR [a,c,P] c0 R (.agg #[I q,I l,I o,S bn k0 m7,S e h m]))))))/\((n==5)=false->((n==6)=true->Qo .i64 (o+1)/\Qo .i64 (l - 1)/\(AR [a,c] r R (.agg #[I q,I (l - 1),I (o+1),S i k p,S e h m])))/\((n==6)=false->(AR [a,c] r R (.agg #[I q,I l,I o,S i k p,S e h m])))))))))))))))))))))))
theorem L9 (r):JM (KS r) JW #[.pointer r]:=eV [9] false [(1000002,⟨[],[],[0,2],[(Xv,[.int .i64,.int .i64,.int .i64,.slice,.slice])],[(3,0)]⟩),(4,⟨[(6,.int .i64)],[(1,[.int .i64,.int .i64,.int .i64,.slice,.slice])],[0,2,3,5],[],[]⟩)] Tryz.func70 (by kernel_rfl) (by kernel_rfl)
def Ez (N:Int) (X:OA) (U M:Nat) (k:OA) (m a3:Nat) (g:OA) (j P:Nat) (w:World) (R:RT):= (∀c,w.heap.size<=c->(∀b,w.heap.size<=b->(∃(s:List Value->World->Prop) (q:List Value->World->Nat),(AX [] [c,b] w fun V=>s [I 0] V)/\∀(e:Int) h,(∀bq∈[c,b],bq<h.heap.size)->s [I e] h->((decide (e<(m:Int)))=true->Ix k m e/\(∃v,Q2 [c,b] h k (Int.toNat e*9+0) [I v]/\((v != 0)=true->Ix k m e/\(∃t,Q2 [c,b] h k (Int.toNat e*9+5) [I t]/\Qo .i64 (t+50000000000000001)/\Ix k m e/\YY [c,b] h k (Int.toNat e*9+5) 1/\Qo .i64 (e+1)/\(AY [c,b] (sto h k (Int.toNat e*9+5) [I (t+50000000000000001)]) fun K=>s [I (e+1)] K/\q [I (e+1)] K<q [I e] h)))/\((v != 0)=false->Qo .i64 (e+1)/\(AY [c,b] h fun H=>s [I (e+1)] H/\q [I (e+1)] H<q [I e] h))))/\((decide (e<(m:Int)))=false->(∃(A:List Value->World->Prop) (L:List Value->World->Nat),(AY [c,b] h fun T=>A [I 0] T)/\∀(d:Int) n,(∀bq∈[c,b],bq<n.heap.size)->A [I d] n->((decide (d<(j:Int)))=true->(∃(r:List Value->World->Prop) (p:List Value->World->Nat),(AY [c,b] n fun a0=>r [I 0] a0)/\∀(a:Int) f,(∀bq∈[c,b],bq<f.heap.size)->r [I a] f->Ix g j d/\(∃Q z Y,Q2 [c,b] f g (Int.toNat d*14+13) [S Q z Y]/\((decide (a<(z:Int)))=true->Ix g j d/\(∃i D Z,Q2 [c,b] f g (Int.toNat d*14+13) [S i D Z]/\Ix g j d/\(∃x G a1,Q2 [c,b] f g (Int.toNat d*14+13) [S x G a1]/\Ix x G a/\(∃l,Q2 [c,b] f x (Int.toNat a*5+0) [I l]/\Qo .i64 (l+50000000000000001)/\Ix i D a/\YY [c,b] f i (Int.toNat a*5+0) 1/\((decide (d>0))=true->Ix g j d/\(∃o C O,Q2 [c,b] (sto f i (Int.toNat a*5+0) [I (l+50000000000000001)]) g (Int.toNat d*14+13) [S o C O]/\Ix g j d/\(∃y J a2,Q2 [c,b] (sto f i (Int.toNat a*5+0) [I (l+50000000000000001)]) g (Int.toNat d*14+13) [S y J a2]/\Ix y J a/\(∃u,Q2 [c,b] (sto f i (Int.toNat a*5+0) [I (l+50000000000000001)]) y (Int.toNat a*5+2) [I u]/\Qo .i64 (u+50000000000000001)/\Ix o C a/\YY [c,b] (sto f i (Int.toNat a*5+0) [I (l+50000000000000001)]) o (Int.toNat a*5+2) 1/\Qo .i64 (a+1)/\(AY [c,b] (sto (sto f i (Int.toNat a*5+0) [I (l+50000000000000001)]) o (Int.toNat a*5+2) [I (u+50000000000000001)]) fun E=>r [I (a+1)] E/\p [I (a+1)] E<p [I a] f)))))/\((decide (d>0))=false->Qo .i64 (a+1)/\(AY [c,b] (sto f i (Int.toNat a*5+0) [I (l+50000000000000001)]) fun F=>r [I (a+1)] F/\p [I (a+1)] F<p [I a] f))))))/\((decide (a<(z:Int)))=false->Qo .i64 (d+1)/\(AY [c,b] f fun B=>A [I (d+1)] B/\L [I (d+1)] B<L [I d] n)))))/\((decide (d<(j:Int)))=false->(AR [c,b] n R (.agg #[I N,S X U M,S k m a3,S g j P]))))))))
theorem EW (w0 w1O w1L w1C w2O w2L w2C w3O w3L w3C):JM (Ez w0 w1O w1L w1C w2O w2L w2C w3O w3L w3C) VM #[.agg #[.int .i64 w0,.slice w1O w1L w1C,.slice w2O w2L w2C,.slice w3O w3L w3C]]:=eV [] false [(3,⟨[(4,.int .i64)],[],[1,2,3],[],[]⟩),(8,⟨[(5,.int .i64)],[],[1,2,3],[],[]⟩),(11,⟨[(6,.int .i64)],[],[1,2,3,5],[],[]⟩)] Tryz.func71 (by kernel_rfl) (by kernel_rfl)
def KT (r:OA) (w:World) (R:RT):= (∀a,w.heap.size<=a->(AX [] [a] w fun b0 =>  Cz Jl #[.pointer r] b0 fun j5 Z=>(∃l f h k d g i c e j,j5 = .returned (.agg #[I l,S f h k,S d g i,S c e j])/\Q9 [a] b0 Z/\(∀b,Z.heap.size<=b->(AX [a] [a,b] Z fun b9 =>  Cz Q1 #[.pointer r,I 10] b9 fun h3 E=>(∃a1,h3 = .returned (I a1)/\Q9 [a,b] b9 E/\((decide (a1>0))=true->(AR [a,b] E R (.agg #[I l,S f h k,S d g i,S c e j])))/\((decide (a1>0))=false->(AY [a,b] E fun a7 =>  Cz Q1 #[.pointer r,I (h:Int)] a7 fun g3 a6=>(∃p,g3 = .returned (I p)/\Q9 [a,b] a7 a6/\(AY [a,b] a6 fun d4 =>  Cz Q1 #[.pointer r,I 4] d4 fun h4 f5=>(∃q,h4 = .returned (I q)/\Q9 [a,b] d4 f5/\(AY [a,b] f5 fun c4 =>  Cz Q1 #[.pointer r,I 3] c4 fun g5 c3=>(∃o,g5 = .returned (I o)/\Q9 [a,b] c4 c3/\(AY [a,b] c3 fun e8 =>  Cz Q1 #[.pointer r,I 20] e8 fun h1 m=>(∃n,h1 = .returned (I n)/\Q9 [a,b] e8 m/\((n==0)=true->Ix f h p/\(∃a9,Q2 [a,b] m f (Int.toNat p*5+0) [.bool a9]/\Ix f h p/\YY [a,b] m f (Int.toNat p*5+0) 1/\(AR [a,b] (sto m f (Int.toNat p*5+0) [.bool (!a9)]) R (.agg #[I l,S f h k,S d g i,S c e j]))))/\((n==0)=false->((n==1)=true->(AY [a,b] m fun b2 =>  Cz Q1 #[.pointer r,I 14] b2 fun g6 J=>(∃A,g6 = .returned (I A)/\Q9 [a,b] b2 J/\(some (Q3,([I l,S f h k,S d g i,S c e j]:List Value))=some (Q3,([I l,S f h k,S d g i,S c e j]:List Value)))/\Qo .i64 (A - 2)/\Ix f h p/\YY [a,b] J f (Int.toNat p*5+1) 1/\(AR [a,b] (sto J f (Int.toNat p*5+1) [I (A - 2)]) R (.agg #[I l,S f h k,S d g i,S c e j])))))/\((n==1)=false->((n==2)=true->(AY [a,b] m fun b1 =>  Cz Q1 #[.pointer r,I 152] b1 fun h2 Y=>(∃c0,h2 = .returned (I c0)/\Q9 [a,b] b1 Y/\(some (Q3,([I l,S f h k,S d g i,S c e j]:List Value))=some (Q3,([I l,S f h k,S d g i,S c e j]:List Value)))/\Ix f h p/\YY [a,b] Y f (Int.toNat p*5+2) 1/\(AR [a,b] (sto Y f (Int.toNat p*5+2) [I c0]) R (.agg #[I l,S f h k,S d g i,S c e j])))))/\((n==2)=false->((n==3)=true->(AY [a,b] m fun e6 =>  Cz Q1 #[.pointer r,I 4] e6 fun f8 O=>(∃c9,f8 = .returned (I c9)/\Q9 [a,b] e6 O/\(some (Q3,([I l,S f h k,S d g i,S c e j]:List Value))=some (Q3,([I l,S f h k,S d g i,S c e j]:List Value)))/\Ix d g q/\YY [a,b] O d (Int.toNat q*9+0) 1/\(AR [a,b] (sto O d (Int.toNat q*9+0) [I c9]) R (.agg #[I l,S f h k,S d g i,S c e j])))))/\((n==3)=false->((n==4)=true->(AY [a,b] m fun a5 =>  Cz Q1 #[.pointer r,I 9] a5 fun h9 K=>(∃a0,h9 = .returned (I a0)/\Q9 [a,b] a5 K/\(some (Q3,([I l,S f h k,S d g i,S c e j]:List Value))=some (Q3,([I l,S f h k,S d g i,S c e j]:List Value)))/\Qo .i64 (a0 - 1)/\Ix d g q/\YY [a,b] K d (Int.toNat q*9+1) 1/\(AR [a,b] (sto K d (Int.toNat q*9+1) [I (a0 - 1)]) R (.agg #[I l,S f h k,S d g i,S c e j])))))/\((n==4)=false->((n==5)=true->(AY [a,b] m fun f6 =>  Cz Q1 #[.pointer r,I 6] f6 fun g8 P=>(∃U,g8 = .returned (I U)/\Q9 [a,b] f6 P/\(some (Q3,([I l,S f h k,S d g i,S c e j]:List Value))=some (Q3,([I l,S f h k,S d g i,S c e j]:List Value)))/\
 Qo .i64 (U - 1)/\Ix d g q/\YY [a,b] P d (Int.toNat q*9+2) 1/\(AR [a,b] (sto P d (Int.toNat q*9+2) [I (U - 1)]) R (.agg #[I l,S f h k,S d g i,S c e j])))))/\((n==5)=false->((n==6)=true->Ix d g q/\(∃z,Q2 [a,b] m d (Int.toNat q*9+5) [I z]/\(∃X,PX [a,b] Xw #[I 1] m (I X)/\Qo .i64 (z+X)/\Ix d g q/\YY [a,b] m d (Int.toNat q*9+5) 1/\(AR [a,b] (sto m d (Int.toNat q*9+5) [I (z+X)]) R (.agg #[I l,S f h k,S d g i,S c e j])))))/\((n==6)=false->((n==7)=true->Ix d g q/\YY [a,b] m d (Int.toNat q*9+3) 1/\(AR [a,b] (sto m d (Int.toNat q*9+3) [I 10]) R (.agg #[I l,S f h k,S d g i,S c e j])))/\((n==7)=false->((n==8)=true->Ix d g q/\YY [a,b] m d (Int.toNat q*9+4) 1/\(AR [a,b] (sto m d (Int.toNat q*9+4) [I 0]) R (.agg #[I l,S f h k,S d g i,S c e j])))/\((n==8)=false->((n==9)=true->(0<=(1:Int)/\(1:Int)<=(g:Int)/\(g:Int)<=(i:Int))/\(AR [a,b] m R (.agg #[I l,S f h k,S (if i=Int.toNat 1 then d else d.map (·.add (Int.toNat 1*9))) (Int.toNat (g:Int) - Int.toNat 1) (i - Int.toNat 1),S c e j])))/\((n==9)=false->((n==10)=true->Ix c e o/\(∃b3,Q2 [a,b] m c (Int.toNat o*14+0) [.bool b3]/\Ix c e o/\YY [a,b] m c (Int.toNat o*14+0) 1/\(AR [a,b] (sto m c (Int.toNat o*14+0) [.bool (!b3)]) R (.agg #[I l,S f h k,S d g i,S c e j]))))/\((n==10)=false->((n==11)=true->(AY [a,b] m fun e3 =>  Cz Q1 #[.pointer r,I 9] e3 fun g4 V=>(∃C,g4 = .returned (I C)/\Q9 [a,b] e3 V/\(some (Q3,([I l,S f h k,S d g i,S c e j]:List Value))=some (Q3,([I l,S f h k,S d g i,S c e j]:List Value)))/\Qo .i64 (C - 1)/\Ix c e o/\YY [a,b] V c (Int.toNat o*14+1) 1/\(AR [a,b] (sto V c (Int.toNat o*14+1) [I (C - 1)]) R (.agg #[I l,S f h k,S d g i,S c e j])))))/\((n==11)=false->((n==12)=true->((∀t,m.heap.size<=t->(some (Q3,([I l,S f h k,S d g i,S c e j]:List Value))=some (Q3,([I l,S f h k,S d g i,S c e j]:List Value)))/\(AX [a,b] [a,b,t] m fun f1 =>  Cz Q1 #[.pointer r,I 4] f1 fun g0 G=>(∃u,g0 = .returned (I u)/\Q9 [a,b,t] f1 G/\(some (Q3,([I l,S f h k,S d g i,S c e j]:List Value))=some (Q3,([I l,S f h k,S d g i,S c e j]:List Value)))/\(0<=u/\u<(4:Int))/\(∃(b8:ByteArray),(0<=u/\([.string (ByteArray.mk [].toArray),.string (ByteArray.mk [97].toArray),.string (ByteArray.mk [109,97,120].toArray),.string (ByteArray.mk [65].toArray)]:List Value)[Int.toNat u+0]? = some (.string b8))/\Ix c e o/\YY [a,b,t] G c (Int.toNat o*14+2) 1/\(AR [a,b,t] (sto G c (Int.toNat o*14+2) [.string b8]) R (.agg #[I l,S f h k,S d g i,S c e j])))))))/\((AY [a,b] m fun f2 =>  Cz Q1 #[.pointer r,I 4] f2 fun g9 x=>(∃s,g9 = .returned (I s)/\Q9 [a,b] f2 x/\(some (Q3,([I l,S f h k,S d g i,S c e j]:List Value))=some (Q3,([I l,S f h k,S d g i,S c e j]:List Value)))/\(∀j1,x.heap.size<=j1->(some (Q3,([I l,S f h k,S d g i,S c e j]:List Value))=some (Q3,([I l,S f h k,S d g i,S c e j]:List Value)))/\(0<=s/\s<(4:Int))/\(∃(d6:ByteArray),
 (0<=s/\([.string (ByteArray.mk [].toArray),.string (ByteArray.mk [97].toArray),.string (ByteArray.mk [109,97,120].toArray),.string (ByteArray.mk [65].toArray)]:List Value)[Int.toNat s+0]? = some (.string d6))/\Ix c e o/\YY [a,b] x c (Int.toNat o*14+2) 1/\(AR [a,b] (sto x c (Int.toNat o*14+2) [.string d6]) R (.agg #[I l,S f h k,S d g i,S c e j]))))))))/\((n==12)=false->((n==13)=true->(AY [a,b] m fun e1 =>  Cz Q1 #[.pointer r,I 23] e1 fun f9 Q=>(∃c1,f9 = .returned (I c1)/\Q9 [a,b] e1 Q/\(some (Q3,([I l,S f h k,S d g i,S c e j]:List Value))=some (Q3,([I l,S f h k,S d g i,S c e j]:List Value)))/\Ix c e o/\YY [a,b] Q c (Int.toNat o*14+3) 1/\(AR [a,b] (sto Q c (Int.toNat o*14+3) [I c1]) R (.agg #[I l,S f h k,S d g i,S c e j])))))/\((n==13)=false->((n==14)=true->(AY [a,b] m fun a8 =>  Cz Q1 #[.pointer r,I 18] a8 fun j2 H=>(∃B,j2 = .returned (I B)/\Q9 [a,b] a8 H/\(some (Q3,([I l,S f h k,S d g i,S c e j]:List Value))=some (Q3,([I l,S f h k,S d g i,S c e j]:List Value)))/\Qo .i64 (B - 1)/\Ix c e o/\YY [a,b] H c (Int.toNat o*14+4) 1/\(AR [a,b] (sto H c (Int.toNat o*14+4) [I (B - 1)]) R (.agg #[I l,S f h k,S d g i,S c e j])))))/\((n==14)=false->((n==15)=true->(AY [a,b] m fun d2 =>  Cz Q1 #[.pointer r,I 9] d2 fun h6 D=>(∃c7,h6 = .returned (I c7)/\Q9 [a,b] d2 D/\(some (Q3,([I l,S f h k,S d g i,S c e j]:List Value))=some (Q3,([I l,S f h k,S d g i,S c e j]:List Value)))/\Ix c e o/\YY [a,b] D c (Int.toNat o*14+6) 1/\(AR [a,b] (sto D c (Int.toNat o*14+6) [I c7]) R (.agg #[I l,S f h k,S d g i,S c e j])))))/\((n==15)=false->((n==16)=true->(AY [a,b] m fun e4 =>  Cz JW #[.pointer r] e4 fun g1 L=>(∃a4 d1 e5 c8 d7 d9 d8 d3 f0,g1 = .returned (.agg #[I a4,I d1,I e5,S c8 d7 d9,S d8 d3 f0])/\Q9 [a,b] e4 L/\(some (Q3,([I l,S f h k,S d g i,S c e j]:List Value))=some (Q3,([I l,S f h k,S d g i,S c e j]:List Value)))/\Ix c e o/\YY [a,b] L c (Int.toNat o*14+8) 5/\(AR [a,b] (sto L c (Int.toNat o*14+8) [I a4,I d1,I e5,S c8 d7 d9,S d8 d3 f0]) R (.agg #[I l,S f h k,S d g i,S c e j])))))/\((n==16)=false->((n==17)=true->Ix c e o/\(∃j0 F g7,Q2 [a,b] m c (Int.toNat o*14+13) [S j0 F g7]/\((decide (p<(F:Int)))=true->Ix c e o/\(∃v e7 h0,Q2 [a,b] m c (Int.toNat o*14+13) [S v e7 h0]/\Ix c e o/\(∃N c5 j3,Q2 [a,b] m c (Int.toNat o*14+13) [S N c5 j3]/\Ix N c5 p/\(∃b4,Q2 [a,b] m N (Int.toNat p*5+1) [.bool b4]/\Ix v e7 p/\YY [a,b] m v (Int.toNat p*5+1) 1/\(AR [a,b] (sto m v (Int.toNat p*5+1) [.bool (!b4)]) R (.agg #[I l,S f h k,S d g i,S c e j]))))))/\((decide (p<(F:Int)))=false->(AR [a,b] m R (.agg #[I l,S f h k,S d g i,S c e j])))))/\((n==17)=false->((n==18)=true->Ix c e o/\(∃h5 M h8,Q2 [a,b] m c (Int.toNat o*14+13) [S h5 M h8]/\((decide (p<(M:Int)))=true->Ix c e o/\(∃y b5 j4,Q2 [a,b] m c (Int.toNat o*14+13) [S y b5 j4]/\Ix c e o/\(∃a2 a3 g2,Q2 [a,b] m c (Int.toNat o*14+13) [S a2 a3 g2]/\Ix a2 a3 p/\(∃T,Q2 [a,b] m a2 (Int.toNat p*5+0) [I T]/\Qo .i64 (T+1)/\Ix y b5 p/\YY [a,b] m y (Int.toNat p*5+0) 1/\
 (AR [a,b] (sto m y (Int.toNat p*5+0) [I (T+1)]) R (.agg #[I l,S f h k,S d g i,S c e j]))))))/\((decide (p<(M:Int)))=false->(AR [a,b] m R (.agg #[I l,S f h k,S d g i,S c e j])))))/\((n==18)=false->((n==19)=true->(AY [a,b] m fun b7 =>  Cz VM #[.agg #[I l,S f h k,S d g i,S c e j]] b7 fun h7 d5=>(∃e9 e2 d0 e0 b6 f7 f4 f3 c6 c2,h7 = .returned (.agg #[I e9,S e2 d0 e0,S b6 f7 f4,S f3 c6 c2])/\Q9 [a,b] b7 d5/\(AR [a,b] d5 R (.agg #[I e9,S e2 d0 e0,S b6 f7 f4,S f3 c6 c2])))))/\((n==19)=false->(AR [a,b] m R (.agg #[I l,S f h k,S d g i,S c e j])))))))))))))))))))))))))))))))))))))
theorem Lb (r):JM (KT r) Xr #[.pointer r]:=eV [] false [] Tryz.func30 (by kernel_rfl) (by kernel_rfl)
def KN (s:OA) (r m:Nat) (w:World) (R:RT):= (AY [] w fun b =>  Cz JC #[S s r m] b fun t d=>(∃f,t = .returned (.pointer f)/\Q9 [] b d/\(AY [] d fun h =>  Cz Xr #[.pointer f] h fun j g=>(∃q k i p l n o a e c,j = .returned (.agg #[I q,S k i p,S l n o,S a e c])/\Q9 [] h g/\(AR [] g R (S a e c))))))
theorem L5 (codeO codeL codeC):JM (KN codeO codeL codeC) JR #[.slice codeO codeL codeC]:=eV [] false [] Tryz.func7 (by kernel_rfl) (by kernel_rfl)
def Pn (a b c:Int) (w:World) (R:RT):= R (.bool ((decide (a>=b))&&(decide (a<=c)))) w
theorem FE (n least most):Jz (Pn n least most) JA #[.int .i64 n,.int .i64 least,.int .i64 most]:=pV [] false [] Tryz.func74 (by kernel_rfl) (by kernel_rfl)
def G2 (e:OA) (b f:Nat) (c:Int) (w:World) (R:RT):= Qo .i64 ((b:Int) - 1)/\(∃a,PX [] JA #[I c,I 0,I ((b:Int) - 1)] w (.bool a)/\(a=true->Ix e b c)/\(∃d,(a=true->Q2 [] w e (Int.toNat c*14+0) [.bool d])/\R (.bool (a&&d)) w))
theorem GU (lO lL lC g):Jz (G2 lO lL lC g) ZP #[.slice lO lL lC,.int .i64 g]:=pV [] false [] Tryz.func37 (by kernel_rfl) (by kernel_rfl)
def KK (g:OA) (w:World) (R:RT):= (∃(d:List Value->Prop) (f:List Value->Nat),d [.pointer g,I 0]/\∀(a:OA) (b:Int),d [.pointer a,I b]->(((!a.isNone)&&(decide (b<=3)))=true->a.isSome=true/\(∃c,Q2 [] w a (0+0) [I c]/\((c==0)=true->R (I b) w)/\((c==0)=false->Qo .i64 (b+1)/\a.isSome=true/\(∃e,Q2 [] w a (0+2) [.pointer e]/\d [.pointer e,I (b+1)]/\f [.pointer e,I (b+1)]<f [.pointer a,I b]))))/\(((!a.isNone)&&(decide (b<=3)))=false->R (I (-1)) w))
theorem LB (n):Jz (KK n) Xq #[.pointer n]:=pV [] false [(2,⟨[(0,.ptr),(3,.int .i64)],[],[],[],[]⟩)] Tryz.func39 (by kernel_rfl) (by kernel_rfl)
def Bn (c:ByteArray) (w:World) (R:RT):= ((QX c (ByteArray.mk [119,101,105,103,104,116].toArray))=true->(AR [] w R (.bool false)))/\((QX c (ByteArray.mk [119,101,105,103,104,116].toArray))=false->((QX c (ByteArray.mk [109,97,120].toArray))=true->(AR [] w R (.bool false)))/\((QX c (ByteArray.mk [109,97,120].toArray))=false->((QX c (ByteArray.mk [99,112,117,115].toArray))=true->(AR [] w R (.bool false)))/\((QX c (ByteArray.mk [99,112,117,115].toArray))=false->((QX c (ByteArray.mk [112,114,111,99,115].toArray))=true->(AR [] w R (.bool false)))/\((QX c (ByteArray.mk [112,114,111,99,115].toArray))=false->((QX c (ByteArray.mk [115,116,97,116].toArray))=true->(AR [] w R (.bool false)))/\((QX c (ByteArray.mk [115,116,97,116].toArray))=false->(∃g,PX [] JA #[I (c.size:Int),I 1,I 8] w (.bool g)/\((!g)=true->(AR [] w R (.bool false)))/\((!g)=false->(AY [] w fun m =>  (∃l,∃h,((Instr.range Zk (.string c)):Sem Value).run Tryz.prog m = .ok (.pointer l) h/\Q9 [] m h/\(∃(i:List Value->World->Prop) (k:List Value->World->Nat),(AY [] h fun n=>i [] n)/\∀ f,(∀bq∈([]:List Nat),bq<f.heap.size)->i [] f->(AY [] f fun e =>  (∃(d:Nat) (a:ByteArray) (b:Nat),l=some (Addr.mk d 0 none)/\d∉([]:List Nat)/\e.heap[d]? = some (.stringIter a b)/\(a.size<=b->(false=true->False)/\(false=false->(AR [] e R (.bool true))))/\(b<a.size->(true=true->((!(((decide (((Utf8.decode a b).1:Int)>=97))&&(decide (((Utf8.decode a b).1:Int)<=122)))||((decide (((Utf8.decode a b).1:Int)>=48))&&(decide (((Utf8.decode a b).1:Int)<=57)))))=true->(AR [] (Tt e d a (b+(Utf8.decode a b).2)) R (.bool false)))/\((!(((decide (((Utf8.decode a b).1:Int)>=97))&&(decide (((Utf8.decode a b).1:Int)<=122)))||((decide (((Utf8.decode a b).1:Int)>=48))&&(decide (((Utf8.decode a b).1:Int)<=57)))))=false->(AY [] (Tt e d a (b+(Utf8.decode a b).2)) fun j=>i [] j/\k [] j<k [] f)))/\(true=false->(AR [] (Tt e d a (b+(Utf8.decode a b).2)) R (.bool true))))))))))))))))
theorem BQ (s):JM (Bn s) Tg #[.string s]:=eV [] false [(11,⟨[],[],[17],[],[]⟩)] Tryz.func72 (by kernel_rfl) (by kernel_rfl)
def Ao (b:OA) (d a7:Nat) (w:World) (R:RT):= (((d:Int) != 8)=false->Ix b d 0)/\(∃m,(((d:Int) != 8)=false->Q2 [] w b (Int.toNat 0*14+0) [.bool m])/\((((d:Int) != 8)||(!m))=false->Ix b d 0)/\(∃q,((((d:Int) != 8)||(!m))=false->Q2 [] w b (Int.toNat 0*14+1) [I q])/\(((((d:Int) != 8)||(!m))||(q != (-1)))=false->Ix b d 0)/\(∃(B:ByteArray),(((((d:Int) != 8)||(!m))||(q != (-1)))=false->Q2 [] w b (Int.toNat 0*14+2) [.string B])/\((((((d:Int) != 8)||(!m))||(q != (-1)))||(!QX B (ByteArray.mk [].toArray)))=true->(AR [] w R (.tuple #[S none 0 0,.bool false])))/\((((((d:Int) != 8)||(!m))||(q != (-1)))||(!QX B (ByteArray.mk [].toArray)))=false->(AY [] w fun a3 =>  (∃f j a4,∃K,((Instr.makeSlice O1 (I 8) (I 8)):Sem Value).run Tryz.prog a3 = .ok (S f j a4) K/\Q9 [] a3 K/\(∃(x:List Value->World->Prop) (t:List Value->World->Nat),(AY [] K fun a8=>x [I 0] a8)/\∀(e:Int) g,(∀bq∈([]:List Nat),bq<g.heap.size)->x [I e] g->((decide (e<(d:Int)))=true->Ix b d e/\(∃M,Q2 [] g b (Int.toNat e*14+0) [.bool M]/\(M=true->Ix b d e/\(∃(Z:ByteArray),Q2 [] g b (Int.toNat e*14+2) [.string Z]/\(∀v u,Q0 [] g u->g.heap.size<=v->u.heap[v]? = some (Obj.cells ([I e,.string Z,.pointer none]:List Value).toArray LR (0,0))->v∉([]:List Nat)->Ix f j e/\YY [] u f (Int.toNat e*1) 1/\Qo .i64 (e+1)/\(AY [] (sto u f (Int.toNat e*1) [.pointer ((some (Addr.mk v 0 none)).map (·.add 0))]) fun V=>x [I (e+1)] V/\t [I (e+1)] V<t [I e] g))))/\(M=false->Qo .i64 (e+1)/\(AY [] g fun a1=>x [I (e+1)] a1/\t [I (e+1)] a1<t [I e] g))))/\((decide (e<(d:Int)))=false->(AY [] g fun Y =>  (∃(N:Value),∃E,((Instr.makeMap Zi none):Sem Value).run Tryz.prog Y = .ok N E/\Q9 [] Y E/\(∃(z:List Value->World->Prop) (A:List Value->World->Nat),(AY [] E fun a5=>z [I 1] a5)/\∀(a:Int) c,(∀bq∈([]:List Nat),bq<c.heap.size)->z [I a] c->((decide (a<8))=true->Ix f j a/\(∃G,Q2 [] c f (Int.toNat a*1) [.pointer G]/\(G.isNone=true->Qo .i64 (a+1)/\(AY [] c fun P=>z [I (a+1)] P/\A [I (a+1)] P<A [I a] c))/\(G.isNone=false->Ix b d a/\(∃(U:ByteArray),Q2 [] c b (Int.toNat a*14+2) [.string U]/\(∃o,PX [] Tg #[.string U] c (.bool o)/\((!o)=false->Ix b d a)/\(∃a0,((!o)=false->Q2 [] c b (Int.toNat a*14+1) [I a0])/\(∃L,((!o)=false->PX [] ZP #[S b d a7,I a0] c (.bool L))/\(((!o)||(!L))=true->(AR [] c R (.tuple #[S none 0 0,.bool false])))/\(((!o)||(!L))=false->Ix f j a/\(∃h,Q2 [] c f (Int.toNat a*1) [.pointer h]/\Ix b d a/\(∃C,Q2 [] c b (Int.toNat a*14+1) [I C]/\Ix f j C/\(∃n,Q2 [] c f (Int.toNat C*1) [.pointer n]/\h.isSome=true/\YY [] c h (0+2) 1/\Ix b d a/\(∃y,Q2 [] (sto c h (0+2) [.pointer n]) b (Int.toNat a*14+1) [I y]/\Ix b d a/\(∃(r:ByteArray),Q2 [] (sto c h (0+2) [.pointer n]) b (Int.toNat a*14+2) [.string r]/\(∀l,(sto c h (0+2) [.pointer n]).heap.size<=l->Q2 [] (sto c h (0+2) [.pointer n]) b (Int.toNat a*14+2) [.string r]/\Q2 [] (sto c h (0+2) [.pointer n]) b (Int.toNat a*14+1) [I y]/\(AX [] [l] (sto c h (0+2) [.pointer n]) fun a2 =>  (∃a9 D,
 ∃s,((Instr.lookup Zi N (.agg #[I y,.string r]) true):Sem Value).run Tryz.prog a2 = .ok (.tuple #[I a9,.bool D]) s/\Q9 [l] a2 s/\(D=true->(AR [l] s R (.tuple #[S none 0 0,.bool false])))/\(D=false->(AY [l] s fun O =>  ∃F,((do Instr.mapUpdate Zi N (.agg #[I y,.string r]) (I a); pure undef):Sem Value).run Tryz.prog O = .ok undef F/\Q9 [l] O F/\Qo .i64 (a+1)/\(AY [l] F fun X=>z [I (a+1)] X/\A [I (a+1)] X<A [I a] c)))))))))))))))))))/\((decide (a<8))=false->(∃(J:List Value->World->Prop) (T:List Value->World->Nat),(AY [] c fun a6=>J [I 0] a6)/\∀(i:Int) k,(∀bq∈([]:List Nat),bq<k.heap.size)->J [I i] k->((decide (i<(j:Int)))=true->Ix f j i/\(∃p,Q2 [] k f (Int.toNat i*1) [.pointer p]/\(∃H,((!p.isNone)=true->PX [] Xq #[.pointer p] k (I H))/\(((!p.isNone)&&(decide (H<0)))=true->(AR [] k R (.tuple #[S none 0 0,.bool false])))/\(((!p.isNone)&&(decide (H<0)))=false->Qo .i64 (i+1)/\(AY [] k fun Q=>J [I (i+1)] Q/\T [I (i+1)] Q<T [I i] k)))))/\((decide (i<(j:Int)))=false->(AR [] k R (.tuple #[S f j a4,.bool true]))))))))))))))))
theorem AQ (lO lL lC):JM (Ao lO lL lC) Jr #[.slice lO lL lC]:=eV [57] false [(5,⟨[(40,.int .i64)],[],[0,4,39],[],[]⟩),(12,⟨[(7,.int .i64)],[],[0,4,6],[],[]⟩),(24,⟨[(124,.int .i64)],[],[4,122,123],[],[]⟩)] Tryz.func31 (by kernel_rfl) (by kernel_rfl)
def Bo (i:OA) (f g:Nat) (w:World) (R:RT):= (AY [] w fun c =>  Cz Jr #[S i f g] c fun j b=>(∃d e h a,j = .returned (.tuple #[S d e h,.bool a])/\Q9 [] c b/\(AR [] b R (.bool a))))
theorem BR (lO lL lC):JM (Bo lO lL lC) XV #[.slice lO lL lC]:=eV [] false [] Tryz.func8 (by kernel_rfl) (by kernel_rfl)
def G3 (d:OA) (w:World) (R:RT):= d.isSome=true/\(∃e,Q2 [] w d (0+0) [I e]/\((e==0)=true->R (.string (ByteArray.mk [47].toArray)) w)/\((e==0)=false->(∃(g:List Value->Prop) (i:List Value->Nat),g [.pointer d,.string (ByteArray.mk [].toArray)]/\∀(a:OA) (b:ByteArray),g [.pointer a,.string b]->a.isSome=true/\(∃f,Q2 [] w a (0+0) [I f]/\((f != 0)=true->a.isSome=true/\(∃(c:ByteArray),Q2 [] w a (0+1) [.string c]/\(ByteArray.mk [47].toArray).size+c.size<=9223372036854775807/\((ByteArray.mk [47].toArray)++c).size+b.size<=9223372036854775807/\a.isSome=true/\(∃h,Q2 [] w a (0+2) [.pointer h]/\g [.pointer h,.string (((ByteArray.mk [47].toArray)++c)++b)]/\i [.pointer h,.string (((ByteArray.mk [47].toArray)++c)++b)]<i [.pointer a,.string b])))/\((f != 0)=false->R (.string b) w)))))
theorem GV (n):Jz (G3 n) XK #[.pointer n]:=pV [] false [(4,⟨[(0,.ptr),(3,.str)],[],[],[],[]⟩)] Tryz.func35 (by kernel_rfl) (by kernel_rfl)
def HD (o:OA) (r p:Nat) (l:ByteArray) (w:World) (R:RT):= (AY [] w fun j =>  Cz Jr #[S o r p] j fun s k=>(∃g d q m,s = .returned (.tuple #[S g d q,.bool m])/\Q9 [] j k/\(∃(f:List Value->World->Prop) (i:List Value->World->Nat),(AY [] k fun n=>f [I 0] n)/\∀(a:Int) b,(∀bq∈([]:List Nat),bq<b.heap.size)->f [I a] b->((decide (a<(d:Int)))=true->Ix g d a/\(∃c,Q2 [] b g (Int.toNat a*1) [.pointer c]/\(∃(e:ByteArray),((!c.isNone)=true->PX [] XK #[.pointer c] b (.string e))/\(((!c.isNone)&&(QX e l))=true->(AR [] b R (I a)))/\(((!c.isNone)&&(QX e l))=false->Qo .i64 (a+1)/\(AY [] b fun h=>f [I (a+1)] h/\i [I (a+1)] h<i [I a] b)))))/\((decide (a<(d:Int)))=false->(AR [] b R (I (-1)))))))
theorem D9 (lO lL lC path):JM (HD lO lL lC path) J8 #[.slice lO lL lC,.string path]:=eV [] false [(3,⟨[(16,.int .i64)],[],[1,14,15],[],[]⟩)] Tryz.func10 (by kernel_rfl) (by kernel_rfl)
def Bq (i:OA) (g h:Nat) (e:Int) (w:World) (R:RT):= (AY [] w fun k =>  Cz Jr #[S i g h] k fun m a=>(∃c f l b,m = .returned (.tuple #[S c f l,.bool b])/\Q9 [] k a/\(∃d,((!b)=false->PX [] ZP #[S i g h,I e] a (.bool d))/\(((!b)||(!d))=true->(AR [] a R (.pointer none)))/\(((!b)||(!d))=false->Ix c f e/\(∃j,Q2 [] a c (Int.toNat e*1) [.pointer j]/\(AR [] a R (.pointer j)))))))
theorem BS (lO lL lC g):JM (Bq lO lL lC g) Ug #[.slice lO lL lC,.int .i64 g]:=eV [] false [] Tryz.func36 (by kernel_rfl) (by kernel_rfl)
def HF (h:OA) (e f:Nat) (g:Int) (w:World) (R:RT):= (AY [] w fun d =>  Cz Ug #[S h e f,I g] d fun i a=>(∃b,i = .returned (.pointer b)/\Q9 [] d a/\(b.isNone=true->(AR [] a R (.string (ByteArray.mk [].toArray))))/\(b.isNone=false->(∃(c:ByteArray),PX [] XK #[.pointer b] a (.string c)/\(AR [] a R (.string c))))))
theorem Db (lO lL lC g):JM (HF lO lL lC g) UQ #[.slice lO lL lC,.int .i64 g]:=eV [] false [] Tryz.func11 (by kernel_rfl) (by kernel_rfl)
def Bp (f:OA) (g i:Nat) (e h:Int) (w:World) (R:RT):= (∃(b:List Value->Prop) (d:List Value->Nat),b [I h]/\∀(a:Int),b [I a]->((a != e)=true->((a==0)=true->R (.bool false) w)/\((a==0)=false->Ix f g a/\(∃c,Q2 [] w f (Int.toNat a*14+1) [I c]/\b [I c]/\d [I c]<d [I a])))/\((a != e)=false->R (.bool true) w))
theorem Nd (lO lL lC g h):Jz (Bp lO lL lC g h) Th #[.slice lO lL lC,.int .i64 g,.int .i64 h]:=pV [] false [(1,⟨[(2,.int .i64)],[],[0,1],[],[]⟩)] Tryz.func38 (by kernel_rfl) (by kernel_rfl)
def G1 (e:OA) (b c:Nat) (h g:Int) (w:World) (R:RT):= (∃a,PX [] XV #[S e b c] w (.bool a)/\(∃d,(a=true->PX [] ZP #[S e b c,I h] w (.bool d))/\(∃f,((a&&d)=true->PX [] ZP #[S e b c,I g] w (.bool f))/\(∃i,(((a&&d)&&f)=true->PX [] Th #[S e b c,I h,I g] w (.bool i))/\R (.bool (((a&&d)&&f)&&i)) w))))
theorem GT (lO lL lC g h):Jz (G1 lO lL lC g h) Yn #[.slice lO lL lC,.int .i64 g,.int .i64 h]:=pV [] false [] Tryz.func12 (by kernel_rfl) (by kernel_rfl)
def HE (f:OA) (h v:Nat) (r:Int) (w:World) (R:RT):= (∃j,PX [] XV #[S f h v] w (.bool j)/\(∃q,((!j)=false->PX [] ZP #[S f h v,I r] w (.bool q))/\(((!j)||(!q))=true->(AR [] w R (S none 0 0)))/\(((!j)||(!q))=false->(∃(l:List Value->World->Prop) (k:List Value->World->Nat),(AY [] w fun y=>l [S none 0 0,I 0] y)/\∀(d:OA) (e c:Nat) (a:Int) b,(∀bq∈([]:List Nat),bq<b.heap.size)->l [S d e c,I a] b->((decide (a<(h:Int)))=true->Ix f h a/\(∃i,Q2 [] b f (Int.toNat a*14+0) [.bool i]/\(i=true->Ix f h a)/\(∃n,(i=true->Q2 [] b f (Int.toNat a*14+1) [I n])/\((i&&(n==r))=true->(∀g,b.heap.size<=g->(AX [] [g] b fun o=>o.heap[g]? = some (Obj.cells ([I a]:List Value).toArray Qb (0,0))->(∃p m s,∃t,(builtin .append #[Zj,Zj] Zj #[false,false] #[S d e c,S (some (Addr.mk g 0 none)) 1 1]).run Tryz.prog o = .ok (.value (S p m s)) t/\Q9 [g] o t/\Qo .i64 (a+1)/\(AY [g] t fun u=>l [S p m s,I (a+1)] u/\k [S p m s,I (a+1)] u<k [S d e c,I a] b)))))/\((i&&(n==r))=false->Qo .i64 (a+1)/\(AY [] b fun x=>l [S d e c,I (a+1)] x/\k [S d e c,I (a+1)] x<k [S d e c,I a] b)))))/\((decide (a<(h:Int)))=false->(AR [] b R (S d e c)))))))
theorem Da (lO lL lC g):JM (HE lO lL lC g) UP #[.slice lO lL lC,.int .i64 g]:=eV [] false [(5,⟨[(5,.slice),(18,.int .i64)],[],[0,1,17],[],[]⟩)] Tryz.func13 (by kernel_rfl) (by kernel_rfl)
def G0 (h:OA) (e f:Nat) (g:Int) (w:World) (R:RT):= (AY [] w fun c =>  Cz Ug #[S h e f,I g] c fun i a=>(∃b,i = .returned (.pointer b)/\Q9 [] c a/\(b.isNone=true->(AR [] a R (I (-1))))/\(b.isNone=false->(∃d,PX [] Xq #[.pointer b] a (I d)/\(AR [] a R (I d))))))
theorem Gn (lO lL lC g):JM (G0 lO lL lC g) XJ #[.slice lO lL lC,.int .i64 g]:=eV [] false [] Tryz.func14 (by kernel_rfl) (by kernel_rfl)
def Br (T:OA) (B P:Nat) (w:World) (R:RT):= ((decide ((B:Int)>1048576))=true->(AR [] w R (.bool true)))/\((decide ((B:Int)>1048576))=false->(AY [] w fun K =>  Cz JR #[S T B P] K fun U i=>(∃d b e,U = .returned (S d b e)/\Q9 [] K i/\(∃u,PX [] XV #[S d b e] i (.bool u)/\(∃y,PX [] X5 #[S d b e] i (.bool y)/\((!(u==y))=true->(AR [] i R (.bool false)))/\((!(u==y))=false->(∃t,PX [] X5 #[S d b e] i (.bool t)/\((!t)=true->(∃F,PX [] J8 #[S d b e,.string (ByteArray.mk [47].toArray)] i (I F)/\(AR [] i R (.bool (F==(-1))))))/\((!t)=false->(∃(r:List Value->World->Prop) (p:List Value->World->Nat),(AY [] i fun Q=>r [I 0] Q)/\∀(a:Int) f,(∀bq∈([]:List Nat),bq<f.heap.size)->r [I a] f->((decide (a<(b:Int)))=true->Ix d b a/\(∃z,Q2 [] f d (Int.toNat a*14+0) [.bool z]/\((!z)=true->Qo .i64 (a+1)/\(AY [] f fun H=>r [I (a+1)] H/\p [I (a+1)] H<p [I a] f))/\((!z)=false->(∃(k:ByteArray),PX [] UQ #[S d b e,I a] f (.string k)/\(∃n,((QX k (ByteArray.mk [].toArray))=false->PX [] J8 #[S d b e,.string k] f (I n))/\(∃o,(((QX k (ByteArray.mk [].toArray))||(n != a))=false->PX [] Yn #[S d b e,I 0,I a] f (.bool o))/\(∃A,((((QX k (ByteArray.mk [].toArray))||(n != a))||(!o))=false->PX [] Yn #[S d b e,I a,I a] f (.bool A))/\(((((QX k (ByteArray.mk [].toArray))||(n != a))||(!o))||(!A))=true->(AR [] f R (.bool false)))/\(((((QX k (ByteArray.mk [].toArray))||(n != a))||(!o))||(!A))=false->(AY [] f fun E =>  Cz UP #[S d b e,I a] E fun N G=>(∃x s M,N = .returned (S x s M)/\Q9 [] E G/\(∃(C:List Value->World->Prop) (L:List Value->World->Nat),(AY [] G fun O=>C [I 0] O)/\∀(h:Int) g,(∀bq∈([]:List Nat),bq<g.heap.size)->C [I h] g->((decide (h<(s:Int)))=true->Ix x s h/\(∃c,Q2 [] g x (Int.toNat h*1) [I c]/\(((decide (c<1))||(decide (c>=(b:Int))))=false->Ix d b c)/\(∃j,(((decide (c<1))||(decide (c>=(b:Int))))=false->Q2 [] g d (Int.toNat c*14+1) [I j])/\(∃m,((((decide (c<1))||(decide (c>=(b:Int))))||(j != a))=false->PX [] XJ #[S d b e,I c] g (I m))/\(∃l,((((decide (c<1))||(decide (c>=(b:Int))))||(j != a))=false->PX [] XJ #[S d b e,I a] g (I l))/\((((decide (c<1))||(decide (c>=(b:Int))))||(j != a))=false->Qo .i64 (l+1))/\(∃q,(((((decide (c<1))||(decide (c>=(b:Int))))||(j != a))||(m != (l+1)))=false->PX [] Yn #[S d b e,I a,I c] g (.bool q))/\(∃v,((((((decide (c<1))||(decide (c>=(b:Int))))||(j != a))||(m != (l+1)))||(!q))=false->PX [] Yn #[S d b e,I c,I a] g (.bool v))/\(((((((decide (c<1))||(decide (c>=(b:Int))))||(j != a))||(m != (l+1)))||(!q))||v)=true->(AR [] g R (.bool false)))/\(((((((decide (c<1))||(decide (c>=(b:Int))))||(j != a))||(m != (l+1)))||(!q))||v)=false->Qo .i64 (h+1)/\(AY [] g fun J=>C [I (h+1)] J/\L [I (h+1)] J<L [I h] g)))))))))/\((decide (h<(s:Int)))=false->Qo .i64 (a+1)/\(AY [] g fun D=>r [I (a+1)] D/\p [I (a+1)] D<p [I a] f)))))))))))))/\((decide (a<(b:Int)))=false->(AR [] f R (.bool true))))))))))))
theorem BT (codeO codeL codeC):JM (Br codeO codeL codeC) Px #[.slice codeO codeL codeC]:=eV [] false [(9,⟨[(4,.int .i64)],[],[3],[],[]⟩),(17,⟨[(7,.int .i64)],[],[3,4,6],[],[]⟩)] Tryz.func3 (by kernel_rfl) (by kernel_rfl)
set_option linter.unusedSimpArgs false
set_option maxRecDepth 10000
theorem UO:zg1 Tryz.prog OV 5 Ye 40 (⟨0,false,0,0,0⟩:Pi):=Kf (by kernel_rfl) fun _=>rfl
theorem Pg:Tryz.prog.underlying Zt=some (.slice Ye):=by kernel_rfl
def Z2 (b:XS) (m:MG):List Value:=[.int .i64 b.quota,.int .i64 b.pool,.int .i64 b.spent,.slice m.lO b.locals.length m.lC,.slice m.dO b.dry.length m.dC]
theorem Xe {a b:ByteArray}:QX a b=true↔a=b:=by
 unfold QX;rw [beq_iff_eq];constructor
 ·intro h
  have h1:∀x:ByteArray,x.toList=x.data.toList:=fun x=>by
   have key:∀(n i:Nat) (r:List UInt8),n=x.size - i->ByteArray.toList.loop x i r=r.reverse++x.data.toList.drop i:=by
    intro n
    induction n with
    | zero=>
     intro i r hn;unfold ByteArray.toList.loop;rw [if_neg (by omega),List.drop_eq_nil_iff.2 (by simp only [Array.length_toList]; show x.size<=i; omega),List.append_nil]
    | succ n ih=>
     intro i r hn;unfold ByteArray.toList.loop;have hi:i<x.data.toList.length:=by simp only [Array.length_toList]; show i<x.size; omega
     rw [if_pos (by omega),ih (i+1) _ (by omega),List.reverse_cons,List.append_assoc,List.singleton_append,List.drop_eq_getElem_cons hi]
     have:x.get! i=x.data.toList[i]:=by
      have hi':i<x.data.size:=by simpa using hi
      simp [ByteArray.get!,getElem!_pos x.data i hi']
     rw [this]
   have:=key _ 0 [] rfl
   simpa [ByteArray.toList] using this
  rw [h1,h1] at h
  cases a; cases b
  simp only at h
  congr 1
  exact Array.ext' h
 ·rintro rfl; rfl
theorem LN (a b:ByteArray):QX a b=decide (a=b):=by
 cases h:QX a b with
 | true=>rw [decide_eq_true (Xe.1 h)]
 | false=>rw [decide_eq_false fun e=>by rw [Xe.2 e] at h; cases h]
def Tf (p:Z0×MG):List Value:=Yq p.1 p.2
def VD:Z0×MG:=(⟨false,0,ByteArray.empty,0,0,0,0,0,⟨0,0,0,[],[]⟩,[]⟩,⟨none,0,none,0,none,0⟩)
theorem Yy:zg1 Tryz.prog Tf 14 QH 168 VD:=Kf (by kernel_rfl) fun _=>rfl
theorem Pf:Tryz.prog.underlying QP=some (.slice QH):=by kernel_rfl
def Qp (m:MG):List Nat:=Qu m.lO++Qu m.dO++Qu m.sO
structure OT (base:Nat) (w:World) (p:Z0×MG):Prop where
 loc:XR Xh 1 Qb base w p.2.lO p.2.lC p.1.band.locals
 dry:XR Pj 1 Yp base w p.2.dO p.2.dC p.1.band.dry
 shl:XR OV 5 Ye base w p.2.sO p.2.sC p.1.shelves
theorem OT.ext {base:Nat} {w w':World} {p:Z0×MG} {bs:List Nat} (h:OT base w p) (hx:Q0 bs w w') (hd:∀b∈Qp p.2,b∉bs):OT base w' p:=
 ⟨h.loc.ext hx fun b hb=>hd b (by simp [Qp,hb]),h.dry.ext hx fun b hb=>hd b (by simp [Qp,hb]),h.shl.ext hx fun b hb=>hd b (by simp [Qp,hb])⟩
theorem OT.mono {base base':Nat} {w:World} {p:Z0×MG} (h:OT base w p) (hb:base'<=base):OT base' w p:=⟨h.loc.mono hb,h.dry.mono hb,h.shl.mono hb⟩
theorem OT.lt {base:Nat} {w:World} {p:Z0×MG} (h:OT base w p):∀b∈Qp p.2,base<=b/\b<w.heap.size:=by
 intro b hb;simp only [Qp,List.mem_append] at hb;rcases hb with (hb | hb) | hb
 ·exact h.loc.lt b hb
 ·exact h.dry.lt b hb
 ·exact h.shl.lt b hb
structure OS (base:Nat) (w:World) (o:OA) (cap:Nat) (ps:List (Z0×MG)):Prop where
 row:XR Tf 14 QH base w o cap ps
 each:∀i:Int,0<=i->i<(ps.length:Int)->OT base w (gi ps i)
 dj:∀i j:Int,0<=i->i<(ps.length:Int)->0<=j->j<(ps.length:Int)->i≠j->∀b∈Qp (gi ps i).2,b∉Qp (gi ps j).2
theorem OS.mono {base base':Nat} {w:World} {o:OA} {cap:Nat} {ps:List (Z0×MG)} (h:OS base w o cap ps) (hb:base'<=base):OS base' w o cap ps:=
 ⟨h.row.mono hb,fun i a b=>(h.each i a b).mono hb,h.dj⟩
theorem Xj {base:Nat} {w:World} {o:OA} {cap:Nat} {ps:List (Z0×MG)} (h:XR Tf 14 QH base w o cap ps) {base':Nat} {p:Z0×MG} (hp:OT base' w p):∀b∈Qp p.2,b∉Qu o:=by
 intro b hb hx;simp only [Qp,List.mem_append] at hb;rcases hb with (hb | hb) | hb
 ·exact hp.loc.ty_ne h (by decide) b hb hx
 ·exact hp.dry.ty_ne h (by decide) b hb hx
 ·exact hp.shl.ty_ne h (by decide) b hb hx
theorem OS.put {base:Nat} {w:World} {o:OA} {cap:Nat} {ps:List (Z0×MG)} (h:OS base w o cap ps) {i:Int} (h0:0<=i) (hi:i<(ps.length:Int)) {p:Z0×MG} (hp:OT base w p)
  (hd:∀j:Int,0<=j->j<(ps.length:Int)->i≠j->∀b∈Qp (gi ps j).2,b∉Qp p.2):OS base (sto w o (Int.toNat i*14) (Tf p)) o cap (ps.set i.toNat p):=by
 have hx:=h.row.stoX (Int.toNat i*14) (Tf p);have hlen:(ps.set i.toNat p).length=ps.length:=List.length_set;refine ⟨?_,fun j hj hjl => ?_,fun j k hj hjl hk hkl hjk b hb hb' => ?_⟩
 ·have:=h.row.sto Yy.len h0 hi (j:=0) (vs:=Tf p) (x:=p) (by rw [List.take_zero,List.nil_append,List.drop_eq_nil_iff.2 (by rw [Nat.zero_add,Yy.len,Yy.len]; exact Nat.le_refl _),List.append_nil]) (by rw [Nat.zero_add,Yy.len]; exact Nat.le_refl _);exact this
 ·rw [hlen] at hjl;rw [Qt _ _ h0 hi hj];split
  ·exact hp.ext hx (Xj h.row hp)
  ·exact (h.each j hj hjl).ext hx (Xj h.row (h.each j hj hjl))
 ·rw [hlen] at hjl hkl;rw [Qt _ _ h0 hi hj] at hb;rw [Qt _ _ h0 hi hk] at hb'
  by_cases e1:i=j
  ·rw [if_pos e1] at hb
   by_cases e2:i=k
   ·omega
   ·rw [if_neg e2] at hb';exact hd k hk hkl e2 b hb' hb
  ·rw [if_neg e1] at hb
   by_cases e2:i=k
   ·rw [if_pos e2] at hb';exact hd j hj hjl e1 b hb hb'
   ·rw [if_neg e2] at hb';exact h.dj j k hj hjl hk hkl hjk b hb hb'
theorem U7 {z:Int} (h1 : -9223372036854775808<=z) (h2:z<=9223372036854775807):Qo .i64 z:=⟨h1,h2⟩
def zda (w:Int):Int:=Int.tdiv 232792560 w
def X3 (n a b:Int):Bool:=decide (n>=a)&&decide (n<=b)
theorem Qx {n a b:Int}:X3 n a b=true↔a<=n/\n<=b:=by simp [X3]
theorem zmt {n a b:Int}:X3 n a b=false↔¬(a<=n/\n<=b):=by rw [<-Qx]; simp
def Z4 (n w:Int):Int:=if X3 n 0 100000000&&X3 w 1 20 then n*zda w else 0
def Zs (w:Int):Int:=Z4 149 w
theorem zmc:∀k:Fin 20,zda ((k.val:Int)+1)*((k.val:Int)+1)=232792560:=by decide
theorem zmd {w:Int} (h1:1<=w) (h2:w<=20):zda w*w=232792560:=by
 have:=zmc ⟨(w - 1).toNat,by omega⟩;have e:(((w - 1).toNat:Nat):Int)+1=w:=by omega
 simp only [e] at this;exact this
theorem CF {w:Int} (h1:1<=w) (h2:w<=20):11639628<=zda w/\zda w<=232792560:=by
 have h:=zmd h1 h2
 have hp:0<=zda w:=by
  rcases Int.lt_or_le (zda w) 0 with hn | hn
  ·have:=Int.mul_neg_of_neg_of_pos hn (show 0<w by omega);omega
  ·exact hn
 constructor
 ·have:=Int.mul_le_mul_of_nonneg_left h2 hp;omega
 ·have:=Int.mul_le_mul_of_nonneg_left h1 hp;omega
theorem TL {n w:Int} (h1:0<=n) (h2:n<=100000000) (h3:1<=w) (h4:w<=20):Z4 n w=n*zda w:=by
 unfold Z4;rw [if_pos];rw [Bool.and_eq_true,Qx,Qx]; exact ⟨⟨h1,h2⟩,h3,h4⟩
theorem Mp {n w:Int} (h:¬(0<=n/\n<=100000000/\1<=w/\w<=20)):Z4 n w=0:=by
 unfold Z4;rw [if_neg];rw [Bool.and_eq_true,Qx,Qx]; omega
theorem zei {n w:Int} (h1:0<=n) (h2:n<=100000000) (h3:1<=w) (h4:w<=20):0<=n*zda w/\n*zda w<=23279256000000000:=by
 have hs:=CF h3 h4;refine ⟨Int.mul_nonneg h1 (by omega),?_⟩
 calc n*zda w<=100000000*zda w:=Int.mul_le_mul_of_nonneg_right h2 (by omega)
  _<=100000000*232792560:=Int.mul_le_mul_of_nonneg_left hs.2 (by decide)
  _=23279256000000000:=rfl
theorem M0 (n w:Int):0<=Z4 n w/\Z4 n w<=23279256000000000:=by
 by_cases h:0<=n/\n<=100000000/\1<=w/\w<=20
 ·rw [TL h.1 h.2.1 h.2.2.1 h.2.2.2]; exact zei h.1 h.2.1 h.2.2.1 h.2.2.2
 ·rw [Mp h]; omega
theorem PA {n a b:Int} {w:World} {bs:List Nat}:PX bs JA #[.int .i64 n,.int .i64 a,.int .i64 b] w (.bool (X3 n a b)):=
 FE n a b fun wr hx=>by unfold Pn; rfl
theorem Qi {n a b:Int} {w:World} {bs:List Nat}:PX bs Qe #[.int .i64 n,.int .i64 a,.int .i64 b] w (.bool (X3 n a b)):=
 zao n a b fun wr hx=>by unfold Hn; rfl
theorem Xz {n:Int} {w:World} {bs:List Nat}:PX bs Y1 #[.int .i64 n] w (.bool (X3 n 1 20)):=
 DW n fun wr hx=>⟨_,Qi,rfl⟩
def TW (s:ByteArray):Bool:=(((((QX s (⟨[119,101,105,103,104,116].toArray⟩))||(QX s (⟨[109,97,120].toArray⟩)))||(QX s (⟨[99,112,117,115].toArray⟩)))||(QX s (⟨[112,114,111,99,115].toArray⟩)))||(QX s (⟨[115,116,97,116].toArray⟩)))
def zj7 (x:Int):Bool:=(((decide (x>=97))&&(decide (x<=122)))||((decide (x>=48))&&(decide (x<=57))))
def J2 (s:ByteArray):Bool:=X3 (s.size:Int) 1 8 && !TW s&&(List.range s.size).all fun i=>zj7 (Xl s (i:Int))
theorem Vc {s:ByteArray}:J2 s=true↔(1<=s.size/\s.size<=8)/\TW s=false/\∀i:Nat,i<s.size->zj7 (Xl s (i:Int))=true:=by
 unfold J2;simp only [Bool.and_eq_true,Qx,Bool.not_eq_true',List.all_eq_true,List.mem_range];constructor
 ·rintro ⟨⟨h1,h2⟩,h3⟩; exact ⟨⟨by omega,by omega⟩,h2,h3⟩
 ·rintro ⟨⟨h0,h1⟩,h2,h3⟩; exact ⟨⟨⟨by omega,by omega⟩,h2⟩,h3⟩
theorem OC {s:ByteArray} (h:¬((1<=s.size/\s.size<=8)/\TW s=false/\∀i:Nat,i<s.size->zj7 (Xl s (i:Int))=true)):J2 s=false:=by
 cases hn:J2 s with
 | false=>rfl
 | true=>exact absurd (Vc.1 hn) h
theorem N4 {s:ByteArray} {w:World} {bs:List Nat}:PX bs Tj #[.string s] w (.bool (TW s)):=
 Nm s fun wr hx=>rfl
theorem MR {s:ByteArray} {w:World} {bs:List Nat}:PX bs Ul #[.string s] w (.bool (J2 s)):=
 Ni s fun wr hx=>by
  refine ⟨_,Qi,TW s,fun _=>N4,fun h => ?_,fun h => ?_⟩
  ·rw [OC];rintro ⟨h1,h2,_⟩;rw [h2,Qx.2 (by omega)] at h;cases h
  ·have h:X3 (s.size:Int) 1 8=true/\TW s=false:=by simpa using h
   have h1:=Qx.1 h.1;refine Uv s.size 0 rfl (fun k=>k<=s.size/\∀j:Nat,j<k->zj7 (Xl s (j:Int))=true) ⟨Nat.zero_le _,fun j hj=>absurd hj (Nat.not_lt_zero j)⟩ fun k ⟨hk,hI⟩=>⟨fun hlt => ?_,fun hge => ?_⟩
   ·have hlt:=of_decide_eq_true hlt;have hr:0<=(k:Int)/\(k:Int)<(s.size:Int):=⟨by omega,hlt⟩;refine ⟨hr,fun _=>hr,fun _=>hr,fun _ _=>hr,fun hno => ?_,fun hyes=>⟨⟨by omega,by omega⟩,QY (by omega) ⟨by omega,fun j hj => ?_⟩⟩⟩
    ·rw [OC];rintro ⟨_,_,h3⟩;have:=h3 k (by omega);unfold zj7 at this;rw [this] at hno;cases hno
    ·by_cases hjk:j<k
     ·exact hI j hjk
     ·have:j=k:=by omega
      subst this;unfold zj7;rw [Bool.not_eq_false'] at hyes;exact hyes
   ·have hge:=of_decide_eq_false hge;have hk:k=s.size:=by omega
    subst hk;rw [Vc.2 ⟨⟨by omega,by omega⟩,h.2,hI⟩]
def Q6 (gs:List Z0) (g:Int):Bool:=(decide (g>=0)&&decide (g<(gs.length:Int)))&&(gi gs g).used
theorem Q4 {gs:List Z0} {g:Int}:Q6 gs g=true↔0<=g/\g<(gs.length:Int)/\(gi gs g).used=true:=by
 unfold Q6;simp [and_assoc]
def dep:Nat->List Z0->Int->Int
 | 0,_,g=>if g=0 then 0 else -1
 | f+1,gs,g=>if g=0 then 0 else if dep f gs (gi gs g).parent<0 then -1 else dep f gs (gi gs g).parent+1
def Vz:Nat->List Z0->Int->Int->Int
 | 0,_,_,_ => -1
 | f+1,gs,g,n=>if Q6 gs g=false then -1 else if g=0 then n else Vz f gs (gi gs g).parent (n+1)
theorem UN (gs:List Z0):∀(f:Nat) (g:Int),-1<=dep f gs g/\dep f gs g<=f
 | 0,g=>by simp only [dep]; split <;> omega
 | f+1,g=>by
  have:=UN gs f (gi gs g).parent;simp only [dep];split
  ·omega
  ·split <;> omega
theorem Pt (gs:List Z0):∀(f f':Nat) (g:Int),0<=dep f gs g->dep f gs g<=f'->dep f' gs g=dep f gs g
 | 0,f',g,h,_=>by
  simp only [dep] at h ⊢
  split at h
  ·rename_i hg
   cases f' <;> simp [dep,hg]
  ·omega
 | f+1,f',g,h,hle=>by
  simp only [dep] at h hle ⊢
  by_cases hg:g=0
  ·rw [if_pos hg]
   cases f' <;> simp [dep,hg]
  ·rw [if_neg hg] at h hle ⊢
   by_cases hd:dep f gs (gi gs g).parent<0
   ·rw [if_pos hd] at h; omega
   ·rw [if_neg hd] at hle ⊢
    cases f' with
    | zero=>omega
    | succ f'=>
     have:=Pt gs f f' (gi gs g).parent (by omega) (by omega);simp only [dep];rw [if_neg hg,this,if_neg hd]
theorem ZN (gs:List Z0) (f:Nat):dep f gs 0=0:=by cases f <;> simp [dep]
theorem zhq {gs:List Z0} {f:Nat} {g:Int} (h:dep f gs g=0):g=0:=by
 cases f with
 | zero=>simp only [dep] at h; split at h <;> first | assumption | omega
 | succ f=>
  simp only [dep] at h
  split at h
  ·assumption
  ·split at h <;> omega
structure Z6 (gs:List Z0):Prop where
 len:gs.length=8
 ru:(gi gs 0).used=true
 rp:(gi gs 0).parent = -1
 rn:(gi gs 0).name=⟨[].toArray⟩
 nm:∀g:Int,1<=g->g<8->(gi gs g).used=true->J2 (gi gs g).name=true
 par:∀g:Int,1<=g->g<8->(gi gs g).used=true->Q6 gs (gi gs g).parent=true
 dp:∀g:Int,1<=g->g<8->(gi gs g).used=true->0<=dep 3 gs g
 uniq:∀g h:Int,1<=h->h<g->g<8->(gi gs g).used=true->(gi gs h).used=true->¬((gi gs h).parent=(gi gs g).parent/\(gi gs h).name=(gi gs g).name)
noncomputable def Yu (gs:List Z0):Bool := @decide (Z6 gs) (Classical.propDecidable _)
theorem Y5 {gs:List Z0}:Yu gs=true↔Z6 gs := @decide_eq_true_iff _ (Classical.propDecidable _)
theorem LQ {gs:List Z0} (h:¬Z6 gs):Yu gs=false:=by
 cases hb:Yu gs with
 | false=>rfl
 | true=>exact absurd (Y5.1 hb) h
theorem Lw {gs:List Z0} (hp:∀g:Int,g≠0->Q6 gs g=true->Q6 gs (gi gs g).parent=true):∀(f:Nat) (g n:Int),Q6 gs g=true->Vz (f+1) gs g n=if dep f gs g<0 then -1 else n+dep f gs g
 | 0,g,n,hu=>by
  simp only [Vz,dep,hu]
  by_cases hg:g=0 <;> simp [hg]
 | f+1,g,n,hu=>by
  rw [Vz];simp only [hu]
  by_cases hg:g=0
  ·simp [hg,dep]
  ·have ih:=Lw hp f (gi gs g).parent (n+1) (hp g hg hu);have hr:=UN gs f (gi gs g).parent;simp only [dep,if_neg hg];rw [ih]
   by_cases hd:dep f gs (gi gs g).parent<0
   ·simp [hd]
   ·have h2:¬(dep f gs (gi gs g).parent+1<0):=by omega
    simp [hd,h2]; omega
theorem zf2 {gs:List Z0} {f:Nat} {g n:Int} (hg:g≠0) (h:Vz (f+1) gs g n≠-1):f≠0/\Q6 gs (gi gs g).parent=true:=by
 rw [Vz] at h
 by_cases hu:Q6 gs g=false
 ·rw [if_pos hu] at h; exact absurd rfl h
 ·rw [if_neg hu,if_neg hg] at h
  cases f with
  | zero=>exact absurd rfl h
  | succ f=>
   rw [Vz] at h
   by_cases hp:Q6 gs (gi gs g).parent=false
   ·rw [if_pos hp] at h; exact absurd rfl h
   ·exact ⟨by omega,by simpa using hp⟩
structure zdm (gs:List Z0) (k:Int):Prop where
 each:∀g:Int,1<=g->g<k->(gi gs g).used=true->J2 (gi gs g).name=true/\X3 (Vz 9 gs g 0) 1 3=true/\∀h:Int,1<=h->h<g->(gi gs h).used=true->¬((gi gs h).parent=(gi gs g).parent/\(gi gs h).name=(gi gs g).name)
theorem zgx {gs:List Z0} (hl:gs.length=8) (ru:(gi gs 0).used=true) (rp:(gi gs 0).parent = -1) (rn:(gi gs 0).name=⟨[].toArray⟩) (h:zdm gs 8):Z6 gs:=by
 have par:∀g:Int,1<=g->g<8->(gi gs g).used=true->Q6 gs (gi gs g).parent=true:=fun g h1 h2 hu=>by
  have:=Qx.1 (h.each g h1 h2 hu).2.1;exact (zf2 (f:=8) (n:=0) (by omega) (by show Vz 9 gs g 0≠-1; omega)).2
 have hp:∀g:Int,g≠0->Q6 gs g=true->Q6 gs (gi gs g).parent=true:=fun g hg hu=>by
  obtain ⟨a,b,c⟩:=Q4.1 hu;exact par g (by omega) (by omega) c
 refine ⟨hl,ru,rp,rn,fun g h1 h2 hu=>(h.each g h1 h2 hu).1,par,fun g h1 h2 hu => ?_,fun g k h1 h2 h3 hu hk=>(h.each g (by omega) h3 hu).2.2 k h1 h2 hk⟩;have h9:=Qx.1 (h.each g h1 h2 hu).2.1;rw [Lw hp 8 g 0 (Q4.2 ⟨by omega,by omega,hu⟩)] at h9
 split at h9
 ·omega
 ·rename_i hd;have:=Pt gs 8 3 g (by omega) (by omega);omega
theorem zfc {gs:List Z0} (h:Z6 gs):zdm gs 8:=by
 have hp:∀g:Int,g≠0->Q6 gs g=true->Q6 gs (gi gs g).parent=true:=fun g hg hu=>by
  obtain ⟨a,b,c⟩:=Q4.1 hu;have:=h.len;exact h.par g (by omega) (by omega) c
 refine ⟨fun g h1 h2 hu=>⟨h.nm g h1 h2 hu,?_,fun k h3 h4 hk=>h.uniq g k h3 h4 h2 hu hk⟩⟩;have hl:=h.len;rw [Lw hp 8 g 0 (Q4.2 ⟨by omega,by omega,hu⟩)];have h3:=h.dp g h1 h2 hu;have hr:=UN gs 3 g;have:=Pt gs 3 8 g h3 (by omega);rw [this,if_neg (by omega)];have hz:dep 3 gs g≠0:=fun e=>by have:=zhq e; omega
 exact Qx.2 (by omega)
section
variable {gs:List Z0} {ms:Nat->MG} {o:OA} {c:Nat} {w:World} {bs:List Nat}
theorem TS.used (h:TS bs w o gs ms) {i:Int} (h0:0<=i) (h1:i<(gs.length:Int)):Q2 bs w o (Int.toNat i*14+0) [.bool (gi gs i).used]:=(h.cells i h0 h1).get 0 _ rfl
theorem TS.parent (h:TS bs w o gs ms) {i:Int} (h0:0<=i) (h1:i<(gs.length:Int)):Q2 bs w o (Int.toNat i*14+1) [.int .i64 (gi gs i).parent]:=(h.cells i h0 h1).get 1 _ rfl
theorem TS.name (h:TS bs w o gs ms) {i:Int} (h0:0<=i) (h1:i<(gs.length:Int)):Q2 bs w o (Int.toNat i*14+2) [.string (gi gs i).name]:=(h.cells i h0 h1).get 2 _ rfl
theorem Yx {g:Int} (h:TS bs w o gs ms):PX bs ZB #[.slice o gs.length c,.int .i64 g] w (.bool (Q6 gs g)):=
 Nn o gs.length c g fun wr hx=>by
  have h:=(h.ext hx).less (cs:=[]) (by simp);refine ⟨fun q => ?_,(gi gs g).used,fun q => ?_,rfl⟩
  ·have q:0<=g/\g<(gs.length:Int):=by simpa using q
   exact h.ix q.1 q.2
  ·have q:0<=g/\g<(gs.length:Int):=by simpa using q
   exact h.used q.1 q.2
theorem Tw {g:Int} (h:TS bs w o gs ms) (hl:gs.length<maxLen):PX bs Xy #[.slice o gs.length c,.int .i64 g] w (.int .i64 (Vz (gs.length+1) gs g 0)):=
 FM o gs.length c g fun wr hx=>by
  have h:=(h.ext hx).less (cs:=[]) (by simp);refine Tx (gs.length+1) 0 rfl (fun x k=>k<=gs.length+1/\Vz (gs.length+1 - k) gs x k=Vz (gs.length+1) gs g 0) ⟨by omega,rfl⟩ fun x k ⟨hk,he⟩=>⟨fun hlt => ?_,fun hge => ?_⟩
  ·have hlt:=of_decide_eq_true hlt;have hf:gs.length+1 - k=(gs.length - k)+1:=by omega
   rw [hf,Vz] at he;refine ⟨_,Yx h,fun hu => ?_,fun hu => ?_⟩
   ·have hu:Q6 gs x=false:=by simpa using hu
    rw [if_pos hu] at he;rw [<-he]
   ·have hu:Q6 gs x=true:=by simpa using hu
    rw [if_neg (by simp [hu])] at he;obtain ⟨u1,u2,u3⟩:=Q4.1 hu;refine ⟨fun hz => ?_,fun hz => ?_⟩
    ·rw [if_pos (by simpa using hz)] at he;rw [<-he]
    ·rw [if_neg (by simpa using hz)] at he;have hm:=Je;refine ⟨h.ix u1 u2,_,h.parent u1 u2,⟨by omega,by omega⟩,QA (by omega) ⟨by omega,?_⟩⟩;rw [<-he,show gs.length+1 - (k+1)=gs.length - k by omega];rfl
  ·have hge:=of_decide_eq_false hge;have:gs.length+1 - k=0:=by omega
   rw [this] at he;rw [<-he]; rfl
theorem Vm (h:TS bs w o gs ms) (hl:gs.length<=maxLen):PX bs X5 #[.slice o gs.length c] w (.bool (Yu gs)):=
 Nj o gs.length c fun wr hx=>by
  have h:=(h.ext hx).less (cs:=[]) (by simp);have l8:((((gs.length:Nat):Int) != 8)=false)->gs.length=8:=fun q=>by have:=(bne_eq_false_iff_eq).1 q; omega
  have i0:∀q:(((gs.length:Nat):Int) != 8)=false,(0:Int)<(gs.length:Int):=fun q=>by have:=l8 q; omega
  refine ⟨fun q=>h.ix (Int.le_refl _) (i0 q),(gi gs 0).used,fun q=>h.used (Int.le_refl _) (i0 q),fun q => ?_,(gi gs 0).parent,fun q => ?_,fun q => ?_,(gi gs 0).name,fun q => ?_,fun q => ?_,fun q => ?_⟩
  ·simp only [Bool.or_eq_false_iff] at q; exact h.ix (Int.le_refl _) (i0 q.1)
  ·simp only [Bool.or_eq_false_iff] at q; exact h.parent (Int.le_refl _) (i0 q.1)
  ·simp only [Bool.or_eq_false_iff] at q; exact h.ix (Int.le_refl _) (i0 q.1.1)
  ·simp only [Bool.or_eq_false_iff] at q; exact h.name (Int.le_refl _) (i0 q.1.1)
  ·rw [LQ];intro ht;have e:((gs.length:Nat):Int)=8:=by have:=ht.len; omega
   rw [e,ht.ru,ht.rp,ht.rn,LN] at q;simp at q
  ·simp only [Bool.or_eq_false_iff,Bool.not_eq_false',bne_eq_false_iff_eq,Xe] at q;obtain ⟨⟨⟨q1,ru⟩,rp⟩,rn⟩:=q;have hl8:gs.length=8:=by omega
   refine Uv 8 1 rfl (fun k=>1<=k/\k<=8/\zdm gs k) ⟨Nat.le_refl _,by omega,⟨fun g h1 h2=>by omega⟩⟩ fun k ⟨hk1,hk,hS⟩=>⟨fun hlt => ?_,fun hge => ?_⟩
   ·have hlt:=of_decide_eq_true hlt;have hk0:(0:Int)<=(k:Int):=by omega
    have step:((gi gs (k:Int)).used=true->J2 (gi gs (k:Int)).name=true/\X3 (Vz 9 gs (k:Int) 0) 1 3=true/\∀h:Int,1<=h->h<(k:Int)->(gi gs h).used=true->¬((gi gs h).parent=(gi gs (k:Int)).parent/\(gi gs h).name=(gi gs (k:Int)).name))->zdm gs ((k+1:Nat):Int):=fun hst=>⟨fun g h1 h2 hu=>by
     by_cases hgk:g<(k:Int)
     ·exact hS.each g h1 hgk hu
     ·have:g=(k:Int):=by omega
      subst this; exact hst hu⟩
    refine ⟨h.ix hk0 hlt,_,h.used hk0 hlt,fun hu=>⟨⟨by omega,by omega⟩,QY (by omega) ⟨by omega,by omega,step fun hu'=>by rw [hu'] at hu; cases hu⟩⟩,fun hu => ?_⟩;have hu:(gi gs (k:Int)).used=true:=by simpa using hu
    refine ⟨h.ix hk0 hlt,_,h.name hk0 hlt,_,MR,Vz 9 gs (k:Int) 0,fun _ => ?_,X3 (Vz 9 gs (k:Int) 0) 1 3,fun _=>Qi,fun q => ?_,fun q => ?_⟩
    ·have:=Tw (c:=c) (g:=(k:Int)) h (by rw [hl8]; simp [maxLen])
     rwa [hl8] at this ⊢
    ·rw [LQ];intro ht;have:=(zfc ht).each (k:Int) (by omega) (by omega) hu;rw [this.1,this.2.1] at q;cases q
    ·simp only [Bool.or_eq_false_iff,Bool.not_eq_false'] at q;refine Uv k 1 rfl (fun j=>1<=j/\j<=k/\∀h:Int,1<=h->h<(j:Int)->(gi gs h).used=true->¬((gi gs h).parent=(gi gs (k:Int)).parent/\(gi gs h).name=(gi gs (k:Int)).name)) ⟨Nat.le_refl _,hk1,fun g h1 h2=>by omega⟩ fun j ⟨hj1,hjk,hJ⟩=>⟨fun hlt2 => ?_,fun hge2 => ?_⟩
     ·have hlt2:=of_decide_eq_true hlt2;have hj0:(0:Int)<=(j:Int):=by omega
      have hjl:(j:Int)<(gs.length:Int):=by omega
      refine ⟨h.ix hj0 hjl,_,h.used hj0 hjl,fun _=>h.ix hj0 hjl,_,fun _=>h.parent hj0 hjl,fun _=>h.ix hk0 hlt,_,fun _=>h.parent hk0 hlt,fun _=>h.ix hj0 hjl,_,fun _=>h.name hj0 hjl,fun _=>h.ix hk0 hlt,_,fun _=>h.name hk0 hlt,fun hs => ?_,fun hs=>⟨⟨by omega,by omega⟩,QY (by omega) ⟨by omega,by omega,fun g h1 h2 hg => ?_⟩⟩⟩
      ·rw [LQ];intro ht;simp only [Bool.and_eq_true,beq_iff_eq,Xe] at hs;exact ht.uniq (k:Int) (j:Int) (by omega) hlt2 (by omega) hu hs.1.1 ⟨hs.1.2,hs.2⟩
      ·by_cases hgj:g<(j:Int)
       ·exact hJ g h1 hgj hg
       ·have:g=(j:Int):=by omega
        subst this;rintro ⟨e1,e2⟩;rw [hg,e1,e2,LN] at hs;simp at hs
     ·have hge2:=of_decide_eq_false hge2;have:j=k:=by omega
      subst this;exact ⟨⟨by omega,by omega⟩,QY (by omega) ⟨by omega,by omega,step fun _=>⟨q.1,q.2,hJ⟩⟩⟩
   ·have hge:=of_decide_eq_false hge;have:k=8:=by omega
    subst this;rw [Y5.2 (zgx hl8 ru rp rn hS)]
def YJ:Nat->List Z0->Int->Int->Bool
 | 0,_,g,h=>h==g
 | f+1,gs,g,h=>h==g||(h != 0&&YJ f gs g (gi gs h).parent)
noncomputable def UB (gs:List Z0) (g h:Int):Bool:=Yu gs&&Q6 gs g&&Q6 gs h&&YJ 3 gs g h
theorem Zl {gs:List Z0} (ht:Z6 gs) {h:Int} (hu:Q6 gs h=true) (hz:h≠0):Q6 gs (gi gs h).parent=true/\0<=h/\h<(gs.length:Int)/\∃d:Nat,dep 3 gs h=(d:Int)+1/\dep 3 gs (gi gs h).parent=(d:Int)/\d<3:=by
 obtain ⟨a,b,u⟩:=Q4.1 hu;have hl:=ht.len;have h1:1<=h:=by omega
 have hd:=ht.dp h h1 (by omega) u;refine ⟨ht.par h h1 (by omega) u,a,b,?_⟩;have hr:=UN gs 2 (gi gs h).parent;have e:dep 3 gs h=if dep 2 gs (gi gs h).parent<0 then -1 else dep 2 gs (gi gs h).parent+1:=by simp only [dep,if_neg hz]
 rw [e] at hd ⊢
 split at hd
 ·omega
 ·rename_i hn;rw [if_neg hn];have:=Pt gs 2 3 (gi gs h).parent (by omega) (by omega);exact ⟨(dep 2 gs (gi gs h).parent).toNat,by omega,by omega,by omega⟩
theorem zfv {gs:List Z0} (ht:Z6 gs) (g:Int):∀(f f':Nat) (h:Int),Q6 gs h=true->dep 3 gs h<=f->dep 3 gs h<=f'->YJ f gs g h=YJ f' gs g h:=by
 intro f
 induction f with
 | zero=>
  intro f' h hu h1 h2
  have hz:h=0:=Decidable.byContradiction fun hz=>by
   obtain ⟨_,_,_,d,e,_⟩:=Zl ht hu hz;omega
  subst hz
  cases f' <;> simp [YJ]
 | succ f ih=>
  intro f' h hu h1 h2
  by_cases hz:h=0
  ·subst hz
   cases f' <;> simp [YJ]
  ·obtain ⟨hp,_,_,d,e,e2,_⟩:=Zl ht hu hz
   cases f' with
   | zero=>omega
   | succ f'=>
    simp only [YJ];rw [ih f' (gi gs h).parent hp (by omega) (by omega)]
theorem T4 {gs:List Z0} (ht:Z6 gs) {g h:Int} (hu:Q6 gs h=true) (hz:h≠0) (hg:h≠g):YJ 3 gs g h=YJ 3 gs g (gi gs h).parent:=by
 obtain ⟨hp,_,_,d,e,e2,hd⟩:=Zl ht hu hz;rw [<-zfv ht g 2 3 (gi gs h).parent hp (by omega) (by omega)];have e3:YJ 3 gs g h=(h==g||(h != 0&&YJ 2 gs g (gi gs h).parent)):=rfl;rw [e3];have e4:(h==g)=false:=by simpa using hg
 have e5:(h != 0)=true:=by simpa using hz
 rw [e4,e5,Bool.false_or,Bool.true_and]
theorem V8 {g h:Int} (hr:TS bs w o gs ms) (hl:gs.length<=maxLen):PX bs YQ #[.slice o gs.length c,.int .i64 g,.int .i64 h] w (.bool (UB gs g h)):=
 GZ o gs.length c g h fun wr hx=>by
  have hr:=(hr.ext hx).less (cs:=[]) (by simp);refine ⟨_,Vm hr hl,_,fun _=>Yx hr,_,fun _=>Yx hr,fun q => ?_,fun q => ?_⟩
  ·have:UB gs g h=false:=by
    unfold UB
    cases h1:Yu gs <;> cases h2:Q6 gs g <;> cases h3:Q6 gs h <;> simp_all
   rw [this]
  ·simp only [Bool.or_eq_false_iff,Bool.not_eq_false'] at q;obtain ⟨⟨q1,q2⟩,q3⟩:=q;have ht:=Y5.1 q1;have hU:UB gs g h=YJ 3 gs g h:=by unfold UB; rw [q1,q2,q3]; rfl
   refine ⟨fun vs=>∃x:Int,vs=[.int .i64 x]/\Q6 gs x=true/\YJ 3 gs g x=YJ 3 gs g h,fun vs=>(dep 3 gs (Yf 0 vs)).toNat,⟨h,rfl,q3,rfl⟩,?_⟩;rintro x ⟨x',he,hu,hI⟩;simp only [List.cons.injEq,Value.int.injEq,true_and,and_true] at he;subst he;refine ⟨fun hne=>⟨fun hz => ?_,fun hz => ?_⟩,fun heq => ?_⟩
   ·have hz:x=0:=by simpa using hz
    subst hz
    have:YJ 3 gs g 0=false:=by
     have:¬(0=g):=by simpa using hne
     simp [YJ,this]
    rw [hU,<-hI,this]
   ·have hz:x≠0:=by simpa using hz
    have hne:x≠g:=by simpa using hne
    obtain ⟨hp,a,b,d,e,e2,hd⟩:=Zl ht hu hz;refine ⟨hr.ix a b,_,hr.parent a b,⟨_,rfl,hp,by rw [<-T4 ht hu hz hne]; exact hI⟩,?_⟩;show (dep 3 gs (gi gs x).parent).toNat<(dep 3 gs x).toNat;omega
   ·have heq:x=g:=by simpa using heq
    subst heq;rw [hU,<-hI];simp [YJ]
end
theorem zfs {s:ByteArray} {i:Nat} (h:i<s.size):((s.get! i).toNat:Int)=Xl s (i:Int):=by
 have hi:i<s.data.size:=h;unfold Xl;rw [Int.toNat_natCast];simp [ByteArray.get!,getElem!_pos s.data i hi,Array.getD,h]
theorem NH {s:ByteArray} {i:Nat} (h:(s.get! i).toNat<128):Utf8.decode s i=((s.get! i).toNat,1):=by
 simp only [Utf8.decode,Nat.add_zero];rw [if_pos h]
theorem zfj {s:ByteArray} {i:Nat} (h:¬(s.get! i).toNat<128):128<=(Utf8.decode s i).1/\1<=(Utf8.decode s i).2:=by
 simp only [Utf8.decode,Nat.add_zero,Utf8.runeError];rw [if_neg h];split
 ·split
  ·rename_i h1; exact ⟨h1,by show 1<=2; omega⟩
  ·exact ⟨by decide,by decide⟩
 ·split
  ·split
   ·rename_i h1;simp only [ge_iff_le,Bool.and_eq_true,decide_eq_true_eq] at h1;exact ⟨by show 128<=_; omega,by show 1<=3; omega⟩
   ·exact ⟨by decide,by decide⟩
  ·split
   ·split
    ·rename_i h1;simp only [ge_iff_le,Bool.and_eq_true,decide_eq_true_eq] at h1;exact ⟨by show 128<=_; omega,by show 1<=4; omega⟩
    ·exact ⟨by decide,by decide⟩
   ·exact ⟨by decide,by decide⟩
theorem zfy (w:World) (b:Nat) (s:ByteArray) (p:Nat):Q0 [b] w (Tt w b s p):=
 ⟨rfl,rfl,rfl,by simp [Tt],fun k _ hk=>by
  have:b≠k:=fun e=>hk (by simp [e])
  simp only [Tt];rw [Array.getElem?_setIfInBounds_ne this]⟩
theorem zih {w:World} {b:Nat} {s:ByteArray} {p:Nat} (h:b<w.heap.size):(Tt w b s p).heap[b]? = some (.stringIter s p):=by
 simp [Tt,h]
def zmy (b:Nat) (w:World):Nat:=match w.heap[b]? with
 | some (.stringIter s p)=>s.size+1 - p
 | _=>0
theorem k9 {s:ByteArray} (h1:QX s (⟨[119,101,105,103,104,116].toArray⟩)=false) (h2:QX s (⟨[109,97,120].toArray⟩)=false) (h3:QX s (⟨[99,112,117,115].toArray⟩)=false) (h4:QX s (⟨[112,114,111,99,115].toArray⟩)=false) (h5:QX s (⟨[115,116,97,116].toArray⟩)=false):TW s=false:=by
 unfold TW; rw [h1,h2,h3,h4,h5]; rfl
theorem VA {s:ByteArray} (h:TW s=true):J2 s=false:=OC fun ⟨_,h2,_⟩=>by rw [h] at h2; cases h2
theorem N0 {s:ByteArray} {w:World} {bs:List Nat}:PX bs Tg #[.string s] w (.bool (J2 s)):=by
 refine OJ fun wr hx=>BQ s (R:=fun v w'=>v = .bool (J2 s)/\Q0 [] wr w') ?_
 refine ⟨fun h => ?_,fun h1=>⟨fun h => ?_,fun h2=>⟨fun h => ?_,fun h3=>⟨fun h => ?_,fun h4=>⟨fun h => ?_,fun h5 => ?_⟩⟩⟩⟩⟩
 ·intro w1 hx1; rw [VA (by unfold TW; rw [h]; rfl)]; exact ⟨rfl,hx1⟩
 ·intro w1 hx1; rw [VA (by unfold TW; rw [h]; simp)]; exact ⟨rfl,hx1⟩
 ·intro w1 hx1; rw [VA (by unfold TW; rw [h]; simp)]; exact ⟨rfl,hx1⟩
 ·intro w1 hx1; rw [VA (by unfold TW; rw [h]; simp)]; exact ⟨rfl,hx1⟩
 ·intro w1 hx1; rw [VA (by unfold TW; rw [h]; simp)]; exact ⟨rfl,hx1⟩
 ·have hf:=k9 h1 h2 h3 h4 h5;refine ⟨_,PA,fun h => ?_,fun h => ?_⟩
  ·intro w1 hx1;have h:X3 (s.size:Int) 1 8=false:=by simpa using h
   have h:=zmt.1 h;rw [OC fun ⟨h6,_⟩=>h (by omega)];exact ⟨rfl,hx1⟩
  ·have h:X3 (s.size:Int) 1 8=true:=by simpa using h
   have h:=Qx.1 h;intro w1 hx1 _;refine ⟨some ⟨w1.heap.size,0,none⟩,w1.alloc (.stringIter s 0),by simp [Instr.range,run_underlying Bb],YT,?_⟩;have hb0:(w1.alloc (.stringIter s 0)).heap[w1.heap.size]? = some (.stringIter s 0):=Array.getElem?_push_size ..;have hX0:Q0 [] wr (w1.alloc (.stringIter s 0)):=hx1.trans (Z8 w1 _);have hbr:wr.heap.size<=w1.heap.size:=hx1.size;generalize w1.heap.size=b at hb0 hbr;generalize w1.alloc (.stringIter s 0)=w2 at hb0 hX0;refine ⟨fun vs w'=>vs=[]/\Q0 [] wr w'/\∃p:Nat,p<=s.size/\w'.heap[b]? = some (.stringIter s p)/\∀j:Nat,j<p->zj7 (Xl s (j:Int))=true,fun _ w'=>zmy b w',fun w3 hx3 _=>⟨rfl,hX0.trans hx3,0,Nat.zero_le _,TT hb0 hx3 (by simp),fun j hj=>absurd hj (Nat.not_lt_zero j)⟩,?_⟩;intro w3 _ ⟨_,hX,p,hp,hb,hI⟩ w4 hx4 _;have hb4:=TT hb hx4 (by simp);refine ⟨b,s,p,rfl,by simp,hb4,fun hge=>⟨(by intro q; cases q),fun _ w5 hx5 => ?_⟩,fun hlt=>⟨fun _ => ?_,by intro q; cases q⟩⟩
   ·have:p=s.size:=by omega
    subst this;rw [Vc.2 ⟨⟨by omega,by omega⟩,hf,hI⟩];exact ⟨rfl,(hX.trans hx4).trans hx5⟩
   ·have hX5:Q0 [] wr (Tt w4 b s (p+(Utf8.decode s p).2)):=(hX.trans hx4).fresh (zfy w4 b s _) fun x hm=>.inl (by rw [List.mem_singleton.1 hm]; exact hbr)
    have hg:=zfs hlt;refine ⟨fun hno => ?_,fun hyes => ?_⟩
    ·intro w5 hx5
     have hno':J2 s=false:=OC fun ⟨_,_,h3⟩=>by
      have h3:=h3 p hlt
      by_cases hlo:(s.get! p).toNat<128
      ·rw [NH hlo] at hno;simp only [hg] at hno;unfold zj7 at h3;rw [h3] at hno;cases hno
      ·unfold zj7 at h3;simp only [Bool.or_eq_true,Bool.and_eq_true,decide_eq_true_eq] at h3;omega
     rw [hno'];exact ⟨rfl,hX5.trans hx5⟩
    ·intro w5 hx5 _
     by_cases hlo:(s.get! p).toNat<128
     ·rw [NH hlo] at hyes hX5 hx5;simp only [hg] at hyes;have hat:=TT (zih (s:=s) (p:=p+1) (T9 hb4)) hx5 (by simp);refine ⟨⟨rfl,hX5.trans hx5,p+1,by omega,hat,fun j hj => ?_⟩,?_⟩
      ·by_cases hjp:j<p
       ·exact hI j hjp
       ·have:j=p:=by omega
        subst this;unfold zj7;rw [Bool.not_eq_false'] at hyes;exact hyes
      ·simp only [zmy,hat,hb];omega
     ·exfalso
      have:=zfj hlo;rw [Bool.not_eq_false'] at hyes;simp only [Bool.or_eq_true,Bool.and_eq_true,decide_eq_true_eq] at hyes;omega
end Go.Proofs.YtclpmgfpjeaibaaGreat
