/- Part 7 of what the law FnEither needs. -/
import Derived.Test.YtjinkcmkgnofjaaGreatDoorFnEitherPf
set_option linter.all false
set_option maxRecDepth 100000
set_option maxHeartbeats 8000000
namespace Go.Proofs.YtjinkcmkgnofjaaGreatDoor
open Go.RowKit
def GL(e:OA)(E:Bool)(x:Int)(B:ByteArray)(D C f j y p n r:Int)(m:OA)(b o:Nat)(s:OA)(k l:Nat)(z:OA)(A F:Nat)(w:Wo)(R:RT):=NB w λv=>∃g,PX [] UE #[.agg #[I p,I n,I r,S m b o,S s k l]] w (.bool g)/\Bf g (R (.bool ((f==0)&&(j==0))) w) (∃a,PX [] M6 #[.agg #[I p,I n,I r,S m b o,S s k l]] w (.bool a)/\(a->e.isSome)/\∃t c u,(a->Q1 [] w e (0+1) [S t c u])/\∃d,((a&&((b:Int)==(c:Int)))->PX [] QA #[I f,I 1,I 1000] w (.bool d))/\(((a&&((b:Int)==(c:Int)))&&d)->e.isSome)/\∃h,(((a&&((b:Int)==(c:Int)))&&d)->Q1 [] w e (0+0) [I h])/\(((a&&((b:Int)==(c:Int)))&&d)->Qz (h+1))/\(((a&&((b:Int)==(c:Int)))&&d)->e.isSome)/\∃i,(((a&&((b:Int)==(c:Int)))&&d)->Q1 [] w e (0+0) [I i])/\(((a&&((b:Int)==(c:Int)))&&d)->Qz (i+f))/\∃q,(((a&&((b:Int)==(c:Int)))&&d)->PX [] QA #[I j,I (h+1),I (i+f)] w (.bool q))/\R (.bool (((a&&((b:Int)==(c:Int)))&&d)&&q)) w)
def Hn(a b c d e f g h i j k l m n o p q r s t u):YG (GL a b c d e f g h i j k l m n o p q r s t u) XI #[.pointer a,.agg #[.bool b,I c,.string d,I e,I f,I g,I h,I i,I j,I k,I l,S m n o,S p q r,S s t u]]:=pV [] false [] Tryz.func159 Qk Qk
def Gi(b:OA)(w:Wo)(R:RT):=b.isSome/\∃H y b0,Q1 [] w b (0+3) [S H y b0]/\∃(i:LP) (g:LN),i [I 0]/\∀(a:Int),i [I a]->Bf (decide (a<(y:Int))) (Ix H y a/\∃(h:Bool) (v:Int) (q:ByteArray) (k j z r l D B t:Int) (A:OA) (p n:Nat) (o:OA) (C x:Nat) (m:OA) (c u:Nat),Q1 [] w H (a.toNat*14) [.bool h,I v,.string q,I k,I j,I z,I r,I l,I D,I B,I t,S A p n,S o C x,S m c u]/\NB w λa7=>Bf (!h) (∃L,PX [] Tc #[.agg #[.bool h,I v,.string q,I k,I j,I z,I r,I l,I D,I B,I t,S A p n,S o C x,S m c u]] w (.bool L)/\Bf (!L) (R (.bool false) w) (Qz (a+1)/\i [I (a+1)]/\g [I (a+1)]<g [I a])) (∃d,PX [] Jc #[I k] w (.bool d)/\∃e,((!d)=false->PX [] UG #[I j] w (.bool e))/\(((!d)||(!e))=false->NB w λJ=>∃f,(((!d)||(!e))=false->∀K,Q0 [] w K->K.heap[J]? = some (Obj.cells ([I l]:LV).toArray Qc (0,0))->PX [] ZT #[S (some (Addr.mk J 0 none)) 1 1] K (.bool f))/\((((!d)||(!e))||(!f))=false->b.isSome)/\∃T s X,((((!d)||(!e))||(!f))=false->Q1 [] w b (0+1) [S T s X])/\∃F,(((((!d)||(!e))||(!f))||((c:Int) != (s:Int)))=false->PX [] XI #[.pointer b,.agg #[.bool h,I v,.string q,I k,I j,I z,I r,I l,I D,I B,I t,S A p n,S o C x,S m c u]] w (.bool F))/\Bf (((((!d)||(!e))||(!f))||((c:Int) != (s:Int)))||(!F)) (R (.bool false) w) (Qz (a+1)/\i [I (a+1)]/\g [I (a+1)]<g [I a]))/\((((!d)||(!e))=false->False)->(true=false->b.isSome)/\∃a3 E a5,(true=false->Q1 [] w b (0+1) [S a3 E a5])/\∃G,((true||((c:Int) != (E:Int)))=false->PX [] XI #[.pointer b,.agg #[.bool h,I v,.string q,I k,I j,I z,I r,I l,I D,I B,I t,S A p n,S o C x,S m c u]] w (.bool G))/\Bf ((true||((c:Int) != (E:Int)))||(!G)) (R (.bool false) w) (Qz (a+1)/\i [I (a+1)]/\g [I (a+1)]<g [I a])))) (b.isSome/\∃M Q b6,Q1 [] w b (0+3) [S M Q b6]/\Ix M Q 0/\∃(b7:Bool) (b8:Int) (b2:ByteArray) (P O V b1 Z N a6 a1:Int) (a2:OA) (b5 a8:Nat) (b3:OA) (U a4:Nat) (a9:OA) (a0 Y:Nat),Q1 [] w M (Int.toNat 0*14) [.bool b7,I b8,.string b2,I P,I O,I V,I b1,I Z,I N,I a6,I a1,S a2 b5 a8,S b3 U a4,S a9 a0 Y]/\NB w λb4=>R (.bool (((P==10)&&(O==15))&&(N==0))) w)
def Gv(a):YG (Gi a) Xl #[.pointer a]:=pV [] false [(2,⟨[(11,Ri)],[],[0,9,10],[],[]⟩)] Tryz.func120 Qk Qk
def ER(b:OA)(a:Int)(w:Wo)(R:RT):=NB w λc=>R (.agg #[.pointer b,I a]) w
def FX(a b):YG (ER a b) ZA #[.pointer a,I b]:=pV [] false [] Tryz.func51 Qk Qk
def zf5(b:Int)(w:Wo)(R:RT):=∃a,PX [] QA #[I b,I (-10),I 9] w (.bool a)/\R (.bool a) w
def zhv(a):YG (zf5 a) Tf #[I a]:=pV [] false [] Tryz.func161 Qk Qk
def AD(b:Int)(w:Wo)(R:RT):=∃a,PX [] Tf #[I b] w (.bool a)/\Bf (!a) (R (I 0) w) (Qz (10-b)/\R (I (10-b)) w)
def z6(a):YG (AD a) J9 #[I a]:=pV [] false [] Tryz.func140 Qk Qk
def EY(g:OA)(d f:Int)(w:Wo)(R:RT):=NB w λj=>g.isSome/\∃b e h,Q1 [] w g (0+3) [S b e h]/\Ix b e f/\∃a c i,Q1 [] w b (f.toNat*14+13) [S a c i]/\Ix a c d/\R (.pointer (a.map (·.add (d.toNat*5)))) w
def B2(a b c):YG (EY a b c) QC #[.agg #[.pointer a,I b],I c]:=pV [] false [] Tryz.func141 Qk Qk
def zf4(b:Int)(w:Wo)(R:RT):=∃a,PX [] QA #[I b,I 0,I 8000000] w (.bool a)/\R (.bool a) w
def zhu(a):YG (zf4 a) Ma #[I a]:=pV [] false [] Tryz.func162 Qk Qk
def EU(d c:Int)(w:Wo)(R:RT):=∃a,PX [] U0 #[I d] w (.bool a)/\∃b,(a->PX [] QA #[I c,I 0,I 3] w (.bool b))/\((a&&b)->0<=c)/\R (.bool ((a&&b)&&((TQ .and .i64 (Int.fdiv d (2 ^ (min (c.toNat) 64))) 1)==1))) w
def B0(a b):YG (EU a b) VH #[I a,I b]:=pV [] false [] Tryz.func191 Qk Qk
def zbo(c b:Int)(w:Wo)(R:RT):=∃a,PX [] VH #[I c,I b] w (.bool a)/\R (.bool a) w
def zeo(a b):YG (zbo a b) Pj #[I a,I b]:=pV [] false [] Tryz.func163 Qk Qk
def zbn(c d:Int)(w:Wo)(R:RT):=∃a,PX [] Uj #[I c] w (.bool a)/\∃b,((!a)=false->PX [] Uj #[I d] w (.bool b))/\Bf ((!a)||(!b)) (R (I 0) w) (R (I (TQ .and .i64 c d)) w)
def zen(a b):YG (zbn a b) JI #[I a,I b]:=pV [] false [] Tryz.func200 Qk Qk
def ES(b:OA)(t:Int)(w:Wo)(R:RT):=∃j,PX [] X0 #[.pointer b] w (I j)/\∃(f:LP) (o:LN),f [I t,I j]/\∀(a c:Int),f [I a,I c]->Bf (a != 0) (b.isSome/\∃h m r,Q1 [] w b (0+3) [S h m r]/\Ix h m a/\∃k,Q1 [] w h (a.toNat*14+4) [I k]/\∃e,PX [] JI #[I c,I k] w (I e)/\b.isSome/\∃i p u,Q1 [] w b (0+3) [S i p u]/\Ix i p a/\∃g,Q1 [] w i (a.toNat*14+1) [I g]/\f [I g,I e]/\o [I g,I e]<o [I a,I c]) (b.isSome/\∃d q s,Q1 [] w b (0+3) [S d q s]/\Ix d q 0/\∃n,Q1 [] w d (Int.toNat 0*14+4) [I n]/\∃l,PX [] JI #[I c,I n] w (I l)/\R (I l) w)
def FY(a b):YG (ES a b) VF #[.pointer a,I b]:=pV [] false [(2,⟨[(1,Ri),(5,Ri)],[],[0],[],[]⟩)] Tryz.func199 Qk Qk
def Lp(d:OA)(e f:Int)(w:Wo)(R:RT):=∃a,PX [] VF #[.pointer d,I f] w (I a)/\∃b,PX [] JI #[I e,I a] w (I b)/\Bf (b != 0) (R (I b) w) (Bf (a != 0) (R (I a) w) (∃c,PX [] X0 #[.pointer d] w (I c)/\R (I c) w))
def LI(a b c):YG (Lp a b c) Ja #[.pointer a,I b,I c]:=pV [] false [] Tryz.func192 Qk Qk
def GK(a:OA)(b:Int)(w:Wo)(R:RT):=a.isSome/\∃d f j,Q1 [] w a (0+2) [S d f j]/\Ix d f b/\∃e,Q1 [] w d (b.toNat*9+4) [I e]/\a.isSome/\∃c i k,Q1 [] w a (0+2) [S c i k]/\Ix c i b/\∃g,Q1 [] w c (b.toNat*9+1) [I g]/\∃h,PX [] Ja #[.pointer a,I e,I g] w (I h)/\R (I h) w
def Hm(a b):YG (GK a b) JX #[.pointer a,I b]:=pV [] false [] Tryz.func164 Qk Qk
def DZ(w:Wo)(R:RT):=NB w λY=>NB w λZ=>∃(y:LP) (X:LN),y [I 1,I 0,I 0,I 0,I 0,I 0,I 0,I 0,I 0,I 0,I 0,I 0,I 0,I 0,I 0,I 0,I 0,I 0,I 0,I 0,I 0,I 0]/\∀(a f j q g e s u p t m o k n c d b h i v r l:Int),y [I a,I f,I j,I q,I g,I e,I s,I u,I p,I t,I m,I o,I k,I n,I c,I d,I b,I h,I i,I v,I r,I l]->Bf (decide (a<=20)) ((a≠0/\Qz (Int.tdiv 232792560 a))/\(0<=a/\a<(21:Int))/\(a.toNat+0<21)/\∃B H E U N O L P V T K x z A Q G F J C M D,([I f,I j,I q,I g,I e,I s,I u,I p,I t,I m,I o,I k,I n,I c,I d,I b,I h,I i,I v,I r,I l]:LV).set (a.toNat+0) (I (Int.tdiv 232792560 a))=[I B,I H,I E,I U,I N,I O,I L,I P,I V,I T,I K,I x,I z,I A,I Q,I G,I F,I J,I C,I M,I D]/\Qz (a+1)/\y [I (a+1),I B,I H,I E,I U,I N,I O,I L,I P,I V,I T,I K,I x,I z,I A,I Q,I G,I F,I J,I C,I M,I D]/\X [I (a+1),I B,I H,I E,I U,I N,I O,I L,I P,I V,I T,I K,I x,I z,I A,I Q,I G,I F,I J,I C,I M,I D]<X [I a,I f,I j,I q,I g,I e,I s,I u,I p,I t,I m,I o,I k,I n,I c,I d,I b,I h,I i,I v,I r,I l]) (R (.agg #[I f,I j,I q,I g,I e,I s,I u,I p,I t,I m,I o,I k,I n,I c,I d,I b,I h,I i,I v,I r,I l]) w)
def Ey:YG DZ V2 #[]:=pV [] false [(3,⟨[(2,.int .i64)],[(1,[.int .i64,.int .i64,.int .i64,.int .i64,.int .i64,.int .i64,.int .i64,.int .i64,.int .i64,.int .i64,.int .i64,.int .i64,.int .i64,.int .i64,.int .i64,.int .i64,.int .i64,.int .i64,.int .i64,.int .i64,.int .i64])],[0,1],[],[]⟩)] Tryz.func180 Qk Qk
def DT(d b:Int)(w:Wo)(R:RT):=∃a,PX [] QA #[I d,I 0,I 100000000] w (.bool a)/\∃c,((!a)=false->PX [] Jc #[I b] w (.bool c))/\Bf ((!a)||(!c)) (R (I 0) w) (∃t h v n s k r i p o g f m q z y A u l j x,PX [] V2 #[] w (.agg #[I t,I h,I v,I n,I s,I k,I r,I i,I p,I o,I g,I f,I m,I q,I z,I y,I A,I u,I l,I j,I x])/\∃e,(0<=b/\b<(21:Int)/\(#[I t,I h,I v,I n,I s,I k,I r,I i,I p,I o,I g,I f,I m,I q,I z,I y,I A,I u,I l,I j,I x]:Array Va)[Int.toNat b]? = some (I e))/\Qz (d*e)/\R (I (d*e)) w)
def Et(a b):YG (DT a b) Ya #[I a,I b]:=pV [] false [] Tryz.func139 Qk Qk
def zbm(b:Int)(w:Wo)(R:RT):=∃a,PX [] Ya #[I 149,I b] w (I a)/\R (I a) w
def zem(a):YG (zbm a) Vk #[I a]:=pV [] false [] Tryz.func193 Qk Qk
def zf6(b a d:Int)(w:Wo)(R:RT):=((decide (b>=a))->Qz (b-a))/\∃c,((decide (b>=a))->PX [] Vk #[I d] w (I c))/\R (.bool ((decide (b>=a))&&(decide (b-a<=c)))) w
def zhw(a b c):YG (zf6 a b c) Tg #[I a,I b,I c]:=pV [] false [] Tryz.func165 Qk Qk
def GN(c:OA)(w:Wo)(R:RT):=c.isSome/\∃v q O,Q1 [] w c (0+2) [S v q O]/\∃(h:LP) (e:LN),h [I 0]/\∀(b:Int),h [I b]->Bf (decide (b<(q:Int))) (Ix v q b/\∃a j g i o k n p s,Q1 [] w v (b.toNat*9) [I a,I j,I g,I i,I o,I k,I n,I p,I s]/\NB w λP=>∃t,(∀L,((do eqGuard .eql QS (.tmp 16) (.tmp 17) (.agg #[I a,I j,I g,I i,I o,I k,I n,I p,I s]) (.agg #[I 0,I 0,I 0,I 0,I 0,I 0,I 0,I 0,I 0]);binOp .eql QS (.agg #[I a,I j,I g,I i,I o,I k,I n,I p,I s]) (.agg #[I 0,I 0,I 0,I 0,I 0,I 0,I 0,I 0,I 0])):Sem Va).run Tryz.prog L=.ok (.bool t) L)/\Bf t (Qz (b+1)/\h [I (b+1)]/\e [I (b+1)]<e [I b]) ((((a != 1)&&(a != 2))=false->c.isSome)/\∃K M N,(((a != 1)&&(a != 2))=false->Q1 [] w c (0+3) [S K M N])/\∃m,(((a != 1)&&(a != 2))=false->PX [] U1 #[S K M N,I j] w (.bool m))/\∃r,((((a != 1)&&(a != 2))||(!m))=false->PX [] Tf #[I i] w (.bool r))/\∃B,(((((a != 1)&&(a != 2))||(!m))||(!r))=false->PX [] UG #[I o] w (.bool B))/\Bf (((((a != 1)&&(a != 2))||(!m))||(!r))||(!B)) (R (.bool false) w) (NB w λz=>∃d,(∀C,Q0 [] w C->C.heap[z]? = some (Obj.cells ([I k,I n,I p]:LV).toArray Qc (0,0))->PX [] ZT #[S (some (Addr.mk z 0 none)) 3 3] C (.bool d))/\∃l,((!d)=false->PX [] Ma #[I s] w (.bool l))/\∃J,(((!d)||(!l))=false->PX [] JX #[.pointer c,I b] w (I J))/\∃y,(((!d)||(!l))=false->PX [] Pj #[I J,I g] w (.bool y))/\Bf (((!d)||(!l))||(!y)) (R (.bool false) w) (∃H F,PX [] ZA #[.pointer c,I g] w (.agg #[.pointer H,I F])/\∃x,PX [] QC #[.agg #[.pointer H,I F],I j] w (.pointer x)/\x.isSome/\∃A,Q1 [] w x (0+0) [I A]/\((a==1)->NB w λD=>∃f,((a==1)->∀u,Q0 [] w u->u.heap[D]? = some (Obj.cells ([I A]:LV).toArray Qc (0,0))->PX [] ZT #[S (some (Addr.mk D 0 none)) 1 1] u (.bool f))/\∃G,((!f)=false->(a==1)->PX [] J9 #[I i] w (I G))/\∃E,((!f)=false->(a==1)->PX [] Tg #[I k,I A,I G] w (.bool E))/\Bf ((a==1)&&((!f)||(!E))) (R (.bool false) w) (Qz (b+1)/\h [I (b+1)]/\e [I (b+1)]<e [I b]))/\(((a==1)->False)->Bf false (R (.bool false) w) (Qz (b+1)/\h [I (b+1)]/\e [I (b+1)]<e [I b])))))) (R (.bool true) w)
def Hp(a):YG (GN a) XK #[.pointer a]:=pV [] false [(2,⟨[(11,Ri)],[],[0,9,10],[],[]⟩)] Tryz.func121 Qk Qk
def DY(e:OA)(q d j:Int)(w:Wo)(R:RT):=NB w λr=>e.isSome/\∃a b k,Q1 [] w e (0+2) [S a b k]/\Ix a b d/\∃g c f h p n i l o,Q1 [] w a (d.toNat*9) [I g,I c,I f,I h,I p,I n,I i,I l,I o]/\NB w λm=>R (.bool (((g==1)&&(c==j))&&(f==q))) w
def Ex(a b c d):YG (DY a b c d) Xi #[.agg #[.pointer a,I b],I c,I d]:=pV [] false [] Tryz.func171 Qk Qk
def EX(c:OA)(l a e:Int)(w:Wo)(R:RT):=NB w λo=>((a != 0)->c.isSome)/\∃f i m,((a != 0)->Q1 [] w c (0+3) [S f i m])/\((a != 0)->Ix f i a)/\∃b,((a != 0)->Q1 [] w f (a.toNat*14+0) [.bool b])/\(((a != 0)&&b)->c.isSome)/\∃g j n,(((a != 0)&&b)->Q1 [] w c (0+3) [S g j n])/\(((a != 0)&&b)->Ix g j a)/\∃d,(((a != 0)&&b)->Q1 [] w g (a.toNat*14+1) [I d])/\∃h,((((a != 0)&&b)&&(d==e))->PX [] QC #[.agg #[.pointer c,I l],I a] w (.pointer h))/\((((a != 0)&&b)&&(d==e))->h.isSome)/\∃k,((((a != 0)&&b)&&(d==e))->Q1 [] w h (0+1) [.bool k])/\R (.bool ((((a != 0)&&b)&&(d==e))&&k)) w
def B1(a b c d):YG (EX a b c d) Xx #[.agg #[.pointer a,I b],I c,I d]:=pV [] false [] Tryz.func172 Qk Qk
def DV(c:OA)(k l:Int)(w:Wo)(R:RT):=NB w λr=>c.isSome/\∃n e p,Q1 [] w c (0+2) [S n e p]/\∃(h:LP) (m:LN),h [I 0]/\∀(b:Int),h [I b]->Bf (decide (b<(e:Int))) (∃i,PX [] Xi #[.agg #[.pointer c,I k],I b,I l] w (.bool i)/\Bf i (R (.bool true) w) (Qz (b+1)/\h [I (b+1)]/\m [I (b+1)]<m [I b])) (c.isSome/\∃q f o,Q1 [] w c (0+3) [S q f o]/\∃(g:LP) (j:LN),g [I 0]/\∀(a:Int),g [I a]->Bf (decide (a<(f:Int))) (∃d,PX [] Xx #[.agg #[.pointer c,I k],I a,I l] w (.bool d)/\Bf d (R (.bool true) w) (Qz (a+1)/\g [I (a+1)]/\j [I (a+1)]<j [I a])) (R (.bool false) w))
def Ev(a b c):YG (DV a b c) Xh #[.agg #[.pointer a,I b],I c]:=pV [] false [(2,⟨[(13,Ri)],[],[1,2,12],[],[]⟩),(8,⟨[(27,Ri)],[],[1,2,26],[],[]⟩)] Tryz.func136 Qk Qk
def AI(h:OA)(e i:Int)(w:Wo)(R:RT):=NB w λq=>h.isSome/\∃c f m,Q1 [] w h (0+3) [S c f m]/\Ix c f i/\∃a j k l o n b g p,Q1 [] w c (i.toNat*14+8) [I a,I j,I k,S l o n,S b g p]/\NB w λr=>((decide (a>0))->Ix b g e)/\∃d,((decide (a>0))->Q1 [] w b (e.toNat*1) [.bool d])/\R (.bool ((decide (a>0))&&d)) w
def z9(a b c):YG (AI a b c) UF #[.agg #[.pointer a,I b],I c]:=pV [] false [] Tryz.func166 Qk Qk
def Lq(n:OA)(w:Wo)(R:RT):=n.isSome/\∃B t b7,Q1 [] w n (0+3) [S B t b7]/\∃(A:LP) (U:LN),A [I 0]/\∀(g:Int),A [I g]->Bf (decide (g<(t:Int))) (Ix B t g/\∃(c7:Bool) (b5:Int) (a6:ByteArray) (b2 b0 b9 a7 c1 c6 c2 a9:Int) (c0:OA) (a5 a3:Nat) (a4:OA) (c3 b6:Nat) (u:OA) (r b3:Nat),Q1 [] w B (g.toNat*14) [.bool c7,I b5,.string a6,I b2,I b0,I b9,I a7,I c1,I c6,I c2,I a9,S c0 a5 a3,S a4 c3 b6,S u r b3]/\NB w λb1=>∃(x:LP) (M:LN),x [I 0]/\∀(i:Int),x [I i]->Bf (decide (i<(r:Int))) (Ix u r i/\∃Z a8 T N L,Q1 [] w u (i.toNat*5) [I Z,.bool a8,I T,I N,I L]/\NB w λb4=>NB w λG=>∃s,(∀F,Q0 [] w F->F.heap[G]? = some (Obj.cells ([I Z,I T,I L]:LV).toArray Qc (0,0))->PX [] ZT #[S (some (Addr.mk G 0 none)) 3 3] F (.bool s))/\∃D,((!s)=false->PX [] Jc #[I N] w (.bool D))/\Bf ((!s)||(!D)) (R (.bool false) w) (Qz (i+1)/\x [I (i+1)]/\M [I (i+1)]<M [I i])) (Qz (g+1)/\A [I (g+1)]/\U [I (g+1)]<U [I g])) (n.isSome/\∃a1 z a2,Q1 [] w n (0+1) [S a1 z a2]/\∃(y:LP) (a0:LN),y [I 0]/\∀(j:Int),y [I j]->Bf (decide (j<(z:Int))) (∃f m,PX [] ZA #[.pointer n,I j] w (.agg #[.pointer f,I m])/\NB w λc4=>∃l,PX [] QC #[.agg #[.pointer f,I m],I 0] w (.pointer l)/\l.isSome/\∃k,Q1 [] w l (0+1) [.bool k]/\(k=false->l.isSome)/\∃o,(k=false->Q1 [] w l (0+2) [I o])/\((k||(o != 0))=false->l.isSome)/\∃K,((k||(o != 0))=false->Q1 [] w l (0+3) [I K])/\Bf ((k||(o != 0))||(K != 10)) (R (.bool false) w) (∃(p:LP) (q:LN),p [I 1]/\∀(b:Int),p [I b]->Bf (decide (b<8)) (f.isSome/\∃H X c5,Q1 [] w f (0+3) [S H X c5]/\Ix H X b/\∃C,Q1 [] w H (b.toNat*14+0) [.bool C]/\Bf (!C) (Qz (b+1)/\p [I (b+1)]/\q [I (b+1)]<q [I b]) (∃h,PX [] QC #[.agg #[.pointer f,I m],I b] w (.pointer h)/\h.isSome/\∃d,Q1 [] w h (0+1) [.bool d]/\∃a,PX [] Xh #[.agg #[.pointer f,I m],I b] w (.bool a)/\∃c,(a->PX [] UF #[.agg #[.pointer f,I m],I b] w (.bool c))/\((!(d==(a&&(!c))))=false->h.isSome)/\∃e,((!(d==(a&&(!c))))=false->Q1 [] w h (0+1) [.bool e])/\(e->(!(d==(a&&(!c))))=false->h.isSome)/\∃V,(e->(!(d==(a&&(!c))))=false->Q1 [] w h (0+2) [I V])/\(e->(!(d==(a&&(!c))))=false->f.isSome)/\∃v O b8,(e->(!(d==(a&&(!c))))=false->Q1 [] w f (0+3) [S v O b8])/\(e->(!(d==(a&&(!c))))=false->Ix v O b)/\∃P,(e->(!(d==(a&&(!c))))=false->Q1 [] w v (b.toNat*14+1) [I P])/\∃E,(e->(!(d==(a&&(!c))))=false->PX [] QC #[.agg #[.pointer f,I m],I P] w (.pointer E))/\(e->(!(d==(a&&(!c))))=false->E.isSome)/\∃Q,(e->(!(d==(a&&(!c))))=false->Q1 [] w E (0+0) [I Q])/\(e->(!(d==(a&&(!c))))=false->h.isSome)/\∃Y,(e->(!(d==(a&&(!c))))=false->Q1 [] w h (0+3) [I Y])/\∃J,(e->(!(d==(a&&(!c))))=false->PX [] Tg #[I V,I Q,I Y] w (.bool J))/\Bf ((!(d==(a&&(!c))))||(e&&(!J))) (R (.bool false) w) (Qz (b+1)/\p [I (b+1)]/\q [I (b+1)]<q [I b]))) (Qz (j+1)/\y [I (j+1)]/\a0 [I (j+1)]<a0 [I j]))) (R (.bool true) w))
def LJ(a):YG (Lq a) X7 #[.pointer a]:=pV [] false [(2,⟨[(17,Ri)],[],[0,15,16],[],[]⟩),(5,⟨[(24,Ri)],[],[0,15,16,17,22,23],[],[]⟩),(12,⟨[(50,Ri)],[],[0,49],[],[]⟩),(19,⟨[(10,Ri)],[],[0,8,49,50],[],[]⟩)] Tryz.func122 Qk Qk
def DW(b:OA)(j o:Int)(w:Wo)(R:RT):=NB w λt=>b.isSome/\∃e p r,Q1 [] w b (0+2) [S e p r]/\Ix e p o/\∃k l d v s y q z A,Q1 [] w e (o.toNat*9) [I k,I l,I d,I v,I s,I y,I q,I z,I A]/\NB w λu=>Bf ((k != 1)||(d != j)) (R (.bool false) w) (∃(g:LP) (n:LN),g [I l]/\∀(a:Int),g [I a]->Bf (a != 0) (∃f,PX [] QC #[.agg #[.pointer b,I j],I a] w (.pointer f)/\f.isSome/\∃c,Q1 [] w f (0+1) [.bool c]/\Bf (!c) (R (.bool false) w) (b.isSome/\∃i m x,Q1 [] w b (0+3) [S i m x]/\Ix i m a/\∃h,Q1 [] w i (a.toNat*14+1) [I h]/\g [I h]/\n [I h]<n [I a])) (R (.bool true) w))
def Ew(a b c):YG (DW a b c) J7 #[.agg #[.pointer a,I b],I c]:=pV [] false [(5,⟨[(6,Ri)],[],[2],[],[]⟩)] Tryz.func138 Qk Qk
def Lr(b:OA)(e:Int)(w:Wo)(R:RT):=b.isSome/\∃h c i,Q1 [] w b (0+2) [S h c i]/\Qz ((c:Int)-1)/\∃a,PX [] QA #[I e,I 0,I ((c:Int)-1)] w (.bool a)/\(a->b.isSome)/\∃d g j,(a->Q1 [] w b (0+2) [S d g j])/\(a->Ix d g e)/\∃f,(a->Q1 [] w d (e.toNat*9+0) [I f])/\R (.bool (a&&(f != 0))) w
def LK(a b):YG (Lr a b) Jb #[.pointer a,I b]:=pV [] false [] Tryz.func167 Qk Qk
def D8(b:OA)(w:Wo)(R:RT):=b.isSome/\∃x o a3,Q1 [] w b (0+1) [S x o a3]/\∃(p:LP) (u:LN),p [I 0]/\∀(a:Int),p [I a]->Bf (decide (a<(o:Int))) (Ix x o a/\∃f c e s q,Q1 [] w x (a.toNat*5) [.bool f,I c,I e,I s,I q]/\NB w λa4=>NB w λE=>∃D,(∀J,Q0 [] w J->J.heap[E]? = some (Obj.cells ([I s,I q]:LV).toArray Qc (0,0))->PX [] ZT #[S (some (Addr.mk E 0 none)) 2 2] J (.bool D))/\Bf (!D) (R (.bool false) w) (Bf ((c==(-1))&&(e==0)) (Qz (a+1)/\p [I (a+1)]/\u [I (a+1)]<u [I a]) (∃h g,PX [] ZA #[.pointer b,I a] w (.agg #[.pointer h,I g])/\NB w λa6=>∃j,((!f)=false->PX [] Jb #[.pointer b,I c] w (.bool j))/\∃v,(((!f)||(!j))=false->PX [] J7 #[.agg #[.pointer h,I g],I c] w (.bool v))/\∃y,((((!f)||(!j))||(!v))=false->PX [] QA #[I e,I 1,I 149] w (.bool y))/\Bf ((((!f)||(!j))||(!v))||(!y)) (R (.bool false) w) (b.isSome/\∃i K T,Q1 [] w b (0+2) [S i K T]/\Ix i K c/\∃a0 m X A N k P Y a1,Q1 [] w i (Int.toNat c*9) [I a0,I m,I X,I A,I N,I k,I P,I Y,I a1]/\NB w λa7=>Q1 [] w i (Int.toNat c*9) [I a0,I m,I X,I A,I N,I k,I P,I Y,I a1]/\(some (Zd,([.bool f,I c,I e,I s,I q]:LV))=some (Zd,([.bool f,I c,I e,I s,I q]:LV)))/\Q1 [] w b (0+2) [S i K T]/\∃C,PX [] QC #[.agg #[.pointer h,I g],I m] w (.pointer C)/\C.isSome/\∃r,Q1 [] w C (0+0) [I r]/\Qz (k-r)/\∃O,PX [] J9 #[I A] w (I O)/\∃L,PX [] Ya #[I e,I O] w (I L)/\Bf (decide (k-r>L)) (R (.bool false) w) (∃(z:LP) (Q:LN),z [I m]/\∀(d:Int),z [I d]->Bf (d != 0) (∃l,PX [] QC #[.agg #[.pointer h,I g],I d] w (.pointer l)/\l.isSome/\∃t,Q1 [] w l (0+2) [I t]/\b.isSome/\∃F V a5,Q1 [] w b (0+3) [S F V a5]/\Ix F V d/\∃U,Q1 [] w F (d.toNat*14+1) [I U]/\∃H,PX [] QC #[.agg #[.pointer h,I g],I U] w (.pointer H)/\H.isSome/\∃n,Q1 [] w H (0+0) [I n]/\Qz (t-n)/\l.isSome/\∃a2,Q1 [] w l (0+3) [I a2]/\∃G,PX [] Ya #[I e,I a2] w (I G)/\Bf (decide (t-n>G)) (R (.bool false) w) (b.isSome/\∃M Z a8,Q1 [] w b (0+3) [S M Z a8]/\Ix M Z d/\∃B,Q1 [] w M (d.toNat*14+1) [I B]/\z [I B]/\Q [I B]<Q [I d])) (Qz (a+1)/\p [I (a+1)]/\u [I (a+1)]<u [I a])))))) (R (.bool true) w)
def Do(a):YG (D8 a) XY #[.pointer a]:=pV [] false [(2,⟨[(14,Ri)],[],[0,12,13],[],[]⟩),(14,⟨[(7,Ri)],[],[0,4,5,12,13,14],[],[]⟩)] Tryz.func123 Qk Qk
def zbp(p:Int)(r:OA)(s x:Nat)(t:OA)(A q:Nat)(B:OA)(z u:Nat)(w:Wo)(R:RT):=∀e f,Q0 [] w f->w.heap.size<=e->f.heap[e]? = some (Obj.cells ([I p,S r s x,S t A q,S B z u]:LV).toArray Q2 (0,0))->e∉([]:List Nat)->NB f λb=>∃(g:LQ) (o:LM),(AX [] [b] f λv=>g [.bool true,I 0] v)/\∀(d:Bool) (a:Int) c,(∀bq∈[b],bq<c.heap.size)->g [.bool d,I a] c->Bf (decide (a<5)) (∃(n:Fn) (m:Array Va) (j:Array Va),(0<=a/\a<(5:Int)/\(#[.func (.func XJ) #[] #[],.func (.func Xl) #[] #[],.func (.func XK) #[] #[],.func (.func X7) #[] #[],.func (.func XY) #[] #[]]:Array Va)[Int.toNat a]? = some (.func n m j))/\AY [b] c λk=>O1 Tryz.prog (.func n m j) [.pointer ((some (Addr.mk e 0 none)).map (·.add 0))] k λy i=>∃h,y=.returned (.bool h)/\Q9 [b] k i/\Bf (!h) (AR [b] i R (.bool false)) (Qz (a+1)/\AY [b] i λl=>g [.bool d,I (a+1)] l/\o [.bool d,I (a+1)] l<o [.bool d,I a] c)) (AR [b] c R (.bool d))
def zcr(a b c d e f g h i j):JD (zbp a b c d e f g h i j) Pk #[Wv a b c d e f g h i j]:=eV [1] false [(4,⟨[(4,.bool),(9,Ri)],[],[1,8],[],[]⟩)] Tryz.func82 Qk Qk
def AF(A x y:Int)(B:OA)(k u:Nat)(t:OA)(j z:Nat)(w:Wo)(R:RT):=NB w λa=>NB w λb=>AX [] [a,b] w λq=>∃c f h,∃i,((Instr.makeSlice YR (I (k:Int)) (I (k:Int))):Sem Va).run Tryz.prog q=.ok (S c f h) i/\Q9 [a,b] q i/\AY [a,b] i λo=>∃v,∃n,(builtin .copy #[YR,YR] Qc #[false,false] #[S c f h,S B k u]).run Tryz.prog o=.ok (.value (I v)) n/\Q9 [a,b] o n/\AY [a,b] n λr=>∃l e d,∃m,((Instr.makeSlice J5 (I (j:Int)) (I (j:Int))):Sem Va).run Tryz.prog r=.ok (S l e d) m/\Q9 [a,b] r m/\AY [a,b] m λp=>∃s,∃g,(builtin .copy #[J5,J5] Qc #[false,false] #[S l e d,S t j z]).run Tryz.prog p=.ok (.value (I s)) g/\Q9 [a,b] p g/\AR [a,b] g R (.agg #[I A,I x,I y,S c f h,S l e d])
def Ct(a b c d e f g h i):JD (AF a b c d e f g h i) Ok #[.agg #[I a,I b,I c,S d e f,S g h i]]:=eV [] false [] Tryz.func124 Qk Qk
def By(p:Int)(b2:OA)(b3 b9:Nat)(b4:OA)(c4 a8:Nat)(x:OA)(a4 b7:Nat)(w:Wo)(R:RT):=NB w λa=>NB w λb=>NB w λc=>AX [] [a,b,c] w λP=>∃m l n,∃t,(builtin .append #[Zu,Zu] Zu #[false,false] #[S none 0 0,S b2 b3 b9]).run Tryz.prog P=.ok (.value (S m l n)) t/\Q9 [a,b,c] P t/\AY [a,b,c] t λD=>∃j o i,∃v,(builtin .append #[Z5,Z5] Z5 #[false,false] #[S none 0 0,S b4 c4 a8]).run Tryz.prog D=.ok (.value (S j o i)) v/\Q9 [a,b,c] D v/\AY [a,b,c] v λa7=>∃e f k,∃u,(builtin .append #[QH,QH] QH #[false,false] #[S none 0 0,S x a4 b7]).run Tryz.prog a7=.ok (.value (S e f k)) u/\Q9 [a,b,c] a7 u/\∃(s:LQ) (Y:LM),(AY [a,b,c] u λa9=>s [I 0] a9)/\∀(d:Int) h,(∀bq∈[a,b,c],bq<h.heap.size)->s [I d] h->Bf (decide (d<(f:Int))) (Ix x a4 d/\∃(c3:Bool) (b8:Int) (b0:ByteArray) (b6 b5 c0 b1 c1 a5 Z M:Int) (X:OA) (G E:Nat) (F:OA) (a1 Q:Nat) (B:OA) (N O:Nat),Q1 [a,b,c] h x (d.toNat*14) [.bool c3,I b8,.string b0,I b6,I b5,I c0,I b1,I c1,I a5,I Z,I M,S X G E,S F a1 Q,S B N O]/\NB h λg=>AX [a,b,c] [a,b,c,g] h λa6=>Cz Ok #[.agg #[I a5,I Z,I M,S X G E,S F a1 Q]] a6 λc2 r=>∃A y T C V J a2 a0 K,c2=.returned (.agg #[I A,I y,I T,S C V J,S a2 a0 K])/\Q9 [a,b,c,g] a6 r/\(some (Q2,([I p,S m l n,S j o i,S e f k]:LV))=some (Q2,([I p,S m l n,S j o i,S e f k]:LV)))/\Ix e f d/\Xd [a,b,c,g] r e (d.toNat*14+8) 5/\AY [a,b,c,g] (Rx r e (d.toNat*14+8) [I A,I y,I T,S C V J,S a2 a0 K]) λH=>∃z U a3,∃q,(builtin .append #[Za,Za] Za #[true,false] #[S none 0 0,S B N O]).run Tryz.prog H=.ok (.value (S z U a3)) q/\Q9 [a,b,c,g] H q/\(some (Q2,([I p,S m l n,S j o i,S e f k]:LV))=some (Q2,([I p,S m l n,S j o i,S e f k]:LV)))/\Ix e f d/\Xd [a,b,c,g] q e (d.toNat*14+13) 1/\Qz (d+1)/\AY [a,b,c,g] (Rx q e (d.toNat*14+13) [S z U a3]) λL=>s [I (d+1)] L/\Y [I (d+1)] L<Y [I d] h) (AR [a,b,c] h R (Wv p m l n j o i e f k))
def N0(a b c d e f g h i j):JD (By a b c d e f g h i j) U2 #[Wv a b c d e f g h i j]:=eV [] false [(6,⟨[(30,Ri)],[],[1,2,3,29],[],[]⟩)] Tryz.func83 Qk Qk
def zbq(h:Int)(m:OA)(n q:Nat)(o:OA)(i j:Nat)(u:OA)(s p:Nat)(a3:Fn)(a9:Array Va)(a6:Array Va)(w:Wo)(R:RT):=NB w λa=>NB w λb=>∃l,PX [] Pk #[Wv h m n q o i j u s p] w (.bool l)/\Bf (!l) (AR [] w R (.tuple #[Wv 0 none 0 0 none 0 0 none 0 0,I 1])) (CWx [] [a,b] U2 #[Wv h m n q o i j u s p] w λy M A v H L F D N T G=>∀c f,Q0 [a,b] G f->G.heap.size<=c->f.heap[c]? = some (Obj.cells ([I 0,S none 0 0,S none 0 0,S none 0 0]:LV).toArray Q2 (0,0))->c∉([a,b]:List Nat)->Xd [a,b] f (some (Addr.mk c 0 none)) 0 4/\∀d r,Q0 [a,b] (Rx f (some (Addr.mk c 0 none)) 0 [I y,S M A v,S H L F,S D N T]) r->(Rx f (some (Addr.mk c 0 none)) 0 [I y,S M A v,S H L F,S D N T]).heap.size<=d->r.heap[d]? = some (Obj.cells ([I 0]:LV).toArray Y2 (0,0))->d∉([a,b]:List Nat)->AY [a,b] r λY=>O1 Tryz.prog (.func a3 a9 a6) [.pointer ((some (Addr.mk c 0 none)).map (·.add 0))] Y λb1 U=>∃(O:Va),b1=.returned O/\Q9 [a,b] Y U/\AY [a,b] U λB=>Cz Lx #[O,.iface J2 (.pointer ((some (Addr.mk d 0 none)).map (·.add 0)))] B λZ e=>∃t,Z=.returned (.bool t)/\Q9 [a,b] B e/\Bf t (∃g,Q1 [a,b] e (some (Addr.mk d 0 none)) (0+0) [I g]/\CW [a,b] U2 #[Wv h m n q o i j u s p] e λa0 b2 a4 a2 a1 a5 b3 a8 b0 a7 k=>Q1 [a,b] k (some (Addr.mk d 0 none)) (0+0) [I g]/\Q1 [a,b] k (some (Addr.mk d 0 none)) (0+0) [I g]/\AR [a,b] k R (.tuple #[Wv a0 b2 a4 a2 a1 a5 b3 a8 b0 a7,I g])) (∃P X V z Q E x C K J,Q1 [a,b] e (some (Addr.mk c 0 none)) 0 [I P,S X V z,S Q E x,S C K J]/\AR [a,b] e R (.tuple #[Wv P X V z Q E x C K J,I 0])))
def zcs(a b c d e f g h i j k l m):JD (zbq a b c d e f g h i j k l m) Vl #[Wv a b c d e f g h i j,.func k l m]:=eV [6,7] false [] Tryz.func46 Qk Qk
def AM(j:Int)(t:OA)(u z:Nat)(v:OA)(H p:Nat)(J:OA)(G y:Nat)(s r:Int)(m:Fn)(k:Array Va)(K:Array Va)(w:Wo)(R:RT):=NB w λa=>∀b g,Q0 [] w g->w.heap.size<=b->g.heap[b]? = some (Obj.cells ([I s]:LV).toArray Qc (0,0))->b∉([a]:List Nat)->∀e d,Q0 [a] g d->g.heap.size<=e->d.heap[e]? = some (Obj.cells ([I r]:LV).toArray Qc (0,0))->e∉([a]:List Nat)->∀f c,Q0 [a] d c->d.heap.size<=f->c.heap[f]? = some (Obj.cells ([.func m k K]:LV).toArray 55 (0,0))->f∉([a]:List Nat)->NB c λh=>CVx [a] [a,h] Vl #[Wv j t u z v H p J G y,.func (.func Jy) #[] #[.pointer ((some (Addr.mk e 0 none)).map (·.add 0)),.pointer ((some (Addr.mk b 0 none)).map (·.add 0)),.pointer ((some (Addr.mk f 0 none)).map (·.add 0))]] c λq i o F D B n l C E A x=>AR [a,h] x R (.tuple #[Wv q i o F D B n l C E,I A])
def Cv(a b c d e f g h i j k l m n o):JD (AM a b c d e f g h i j k l m n o) Om #[Wv a b c d e f g h i j,I k,I l,.func m n o]:=eV [5,6,7] false [] Tryz.func19 Qk Qk
def EQ(b a:Int)(w:Wo)(R:RT):=R (.tuple #[]) w
def FW(a b):YG (EQ a b) Xw #[I a,I b]:=pV [] false [] Tryz.func20 Qk Qk
def AE(d:Int)(j:OA)(k r:Nat)(m:OA)(f g:Nat)(A:OA)(y q:Nat)(i h:Int)(w:Wo)(R:RT):=NB w λa=>NB w λb=>CVx [] [a,b] Om #[Wv d j k r m f g A y q,I i,I h,.func (.func Xw) #[] #[]] w λo u p s x e v l t c z n=>AR [a,b] n R (.tuple #[Wv o u p s x e v l t c,I z])
def Cs(a b c d e f g h i j k l):JD (AE a b c d e f g h i j k l) Xq #[Wv a b c d e f g h i j,I k,I l]:=eV [] false [] Tryz.func9 Qk Qk
def zf8(o u n:Int)(t:OA)(d y:Nat)(l:OA)(e A:Nat)(r m q:Int)(s:OA)(j z:Nat)(k:OA)(h B:Nat)(w:Wo)(R:RT):=NB w λv=>NB w λx=>Bf (((((o != r)||(u != m))||(n != q))||((d:Int) != (j:Int)))||((e:Int) != (h:Int))) (R (.bool false) w) (∃(g:LP) (p:LN),g [I 0]/\∀(a:Int),g [I a]->Bf (decide (a<(d:Int))) (Ix t d a/\∃c,Q1 [] w t (a.toNat*1) [I c]/\Ix s j a/\∃b,Q1 [] w s (a.toNat*1) [I b]/\((c != b)=false->Ix l e a)/\∃f,((c != b)=false->Q1 [] w l (a.toNat*1) [.bool f])/\((c != b)=false->Ix k h a)/\∃i,((c != b)=false->Q1 [] w k (a.toNat*1) [.bool i])/\Bf ((c != b)||(!(f==i))) (R (.bool false) w) (Qz (a+1)/\g [I (a+1)]/\p [I (a+1)]<p [I a])) (R (.bool true) w))
def zhy(a b c d e f g h i j k l m n o p q r):YG (zf8 a b c d e f g h i j k l m n o p q r) Mb #[.agg #[I a,I b,I c,S d e f,S g h i],.agg #[I j,I k,I l,S m n o,S p q r]]:=pV [] false [(4,⟨[(5,Ri)],[],[2,3],[],[]⟩)] Tryz.func69 Qk Qk
def zbr(y:Bool)(F:Int)(q:ByteArray)(m D g e c a2 N X:Int)(a3:OA)(O M:Nat)(T:OA)(a5 P:Nat)(J:OA)(b b0:Nat)(A:Bool)(p:Int)(z:ByteArray)(C n r x t a4 a8 Z:Int)(Q:OA)(a1 U:Nat)(V:OA)(a0 a7:Nat)(H:OA)(v a9:Nat)(w:Wo)(R:RT):=NB w λY=>NB w λa6=>∃j,(((((((((!(y==A))||(F != p))||(!Zy q z))||(m != C))||(D != n))||(g != r))||(e != x))||(c != t))=false->PX [] Mb #[.agg #[I a2,I N,I X,S a3 O M,S T a5 P],.agg #[I a4,I a8,I Z,S Q a1 U,S V a0 a7]] w (.bool j))/\Bf ((((((((((!(y==A))||(F != p))||(!Zy q z))||(m != C))||(D != n))||(g != r))||(e != x))||(c != t))||(!j))||((b:Int) != (v:Int))) (R (.bool false) w) (∃(k:LP) (L:LN),k [I 0]/\∀(a:Int),k [I a]->Bf (decide (a<(b:Int))) (Ix J b a/\∃B s i o l,Q1 [] w J (a.toNat*5) [I B,.bool s,I i,I o,I l]/\Ix H v a/\∃E h u G f,Q1 [] w H (a.toNat*5) [I E,.bool h,I u,I G,I f]/\∃d,(∀K,((do eqGuard .neq ZI (.tmp 88) (.tmp 93) (.agg #[I B,.bool s,I i,I o,I l]) (.agg #[I E,.bool h,I u,I G,I f]);binOp .neq ZI (.agg #[I B,.bool s,I i,I o,I l]) (.agg #[I E,.bool h,I u,I G,I f])):Sem Va).run Tryz.prog K=.ok (.bool d) K)/\Bf d (R (.bool false) w) (Qz (a+1)/\k [I (a+1)]/\L [I (a+1)]<L [I a])) (R (.bool true) w))
def zeq(a b c d e f g h i j k l m n o p q r s t u v w x y z A B C D E F G H J K L M N O):YG (zbr a b c d e f g h i j k l m n o p q r s t u v w x y z A B C D E F G H J K L M N O) Pl #[.agg #[.bool a,I b,.string c,I d,I e,I f,I g,I h,I i,I j,I k,S l m n,S o p q,S r s t],.agg #[.bool u,I v,.string w,I x,I y,I z,I A,I B,I C,I D,I E,S F G H,S J K L,S M N O]]:=pV [] false [(4,⟨[(5,Ri)],[],[2,3],[],[]⟩)] Tryz.func32 Qk Qk
def zga(b0:Int)(a6:OA)(e f6:Nat)(a5:OA)(f f3:Nat)(e5:OA)(d f5:Nat)(d6:Int)(c5:OA)(U f1:Nat)(a8:OA)(r f4:Nat)(c4:OA)(x f2:Nat)(w:Wo)(R:RT):=NB w λe9=>NB w λf0=>Bf ((((b0 != d6)||((e:Int) != (U:Int)))||((f:Int) != (r:Int)))||((d:Int) != (x:Int))) (R (.bool false) w) (∃(u:LP) (d4:LN),u [I 0]/\∀(a:Int),u [I a]->Bf (decide (a<(e:Int))) (Ix a6 e a/\∃H l j N v,Q1 [] w a6 (a.toNat*5) [.bool H,I l,I j,I N,I v]/\Ix c5 U a/\∃y B Q p s,Q1 [] w c5 (a.toNat*5) [.bool y,I B,I Q,I p,I s]/\∃g,(∀e1,((do eqGuard .neq Zd (.tmp 51) (.tmp 56) (.agg #[.bool H,I l,I j,I N,I v]) (.agg #[.bool y,I B,I Q,I p,I s]);binOp .neq Zd (.agg #[.bool H,I l,I j,I N,I v]) (.agg #[.bool y,I B,I Q,I p,I s])):Sem Va).run Tryz.prog e1=.ok (.bool g) e1)/\Bf g (R (.bool false) w) (Qz (a+1)/\u [I (a+1)]/\d4 [I (a+1)]<d4 [I a])) (∃(L:LP) (a0:LN),L [I 0]/\∀(c:Int),L [I c]->Bf (decide (c<(f:Int))) (Ix a5 f c/\∃G k T J K P D F o,Q1 [] w a5 (c.toNat*9) [I G,I k,I T,I J,I K,I P,I D,I F,I o]/\Ix a8 r c/\∃i z t h m q n C A,Q1 [] w a8 (c.toNat*9) [I i,I z,I t,I h,I m,I q,I n,I C,I A]/\∃O,(∀d3,((do eqGuard .neq QS (.tmp 69) (.tmp 74) (.agg #[I G,I k,I T,I J,I K,I P,I D,I F,I o]) (.agg #[I i,I z,I t,I h,I m,I q,I n,I C,I A]);binOp .neq QS (.agg #[I G,I k,I T,I J,I K,I P,I D,I F,I o]) (.agg #[I i,I z,I t,I h,I m,I q,I n,I C,I A])):Sem Va).run Tryz.prog d3=.ok (.bool O) d3)/\Bf O (R (.bool false) w) (Qz (c+1)/\L [I (c+1)]/\a0 [I (c+1)]<a0 [I c])) (∃(M:LP) (c7:LN),M [I 0]/\∀(b:Int),M [I b]->Bf (decide (b<(d:Int))) (Ix e5 d b/\∃(e6:Bool) (b3:Int) (d0:ByteArray) (e8 Y b7 b2 a9 e0 e3 a4:Int) (c6:OA) (d8 e2:Nat) (d5:OA) (c8 a2:Nat) (a7:OA) (d9 X:Nat),Q1 [] w e5 (b.toNat*14) [.bool e6,I b3,.string d0,I e8,I Y,I b7,I b2,I a9,I e0,I e3,I a4,S c6 d8 e2,S d5 c8 a2,S a7 d9 X]/\Ix c4 x b/\∃(b6:Bool) (e7:Int) (Z:ByteArray) (c0 a1 c9 d2 e4 c1 b8 d1:Int) (d7:OA) (b5 b9:Nat) (c3:OA) (b4 b1:Nat) (V:OA) (c2 a3:Nat),Q1 [] w c4 (b.toNat*14) [.bool b6,I e7,.string Z,I c0,I a1,I c9,I d2,I e4,I c1,I b8,I d1,S d7 b5 b9,S c3 b4 b1,S V c2 a3]/\∃E,PX [] Pl #[.agg #[.bool e6,I b3,.string d0,I e8,I Y,I b7,I b2,I a9,I e0,I e3,I a4,S c6 d8 e2,S d5 c8 a2,S a7 d9 X],.agg #[.bool b6,I e7,.string Z,I c0,I a1,I c9,I d2,I e4,I c1,I b8,I d1,S d7 b5 b9,S c3 b4 b1,S V c2 a3]] w (.bool E)/\Bf (!E) (R (.bool false) w) (Qz (b+1)/\M [I (b+1)]/\c7 [I (b+1)]<c7 [I b])) (R (.bool true) w))))
def zh0(a b c d e f g h i j k l m n o p q r s t):YG (zga a b c d e f g h i j k l m n o p q r s t) Th #[Wv a b c d e f g h i j,Wv k l m n o p q r s t]:=pV [] false [(4,⟨[(5,Ri)],[],[2,3],[],[]⟩),(9,⟨[(6,Ri)],[],[2,3],[],[]⟩),(14,⟨[(7,Ri)],[],[2,3],[],[]⟩)] Tryz.func11 Qk Qk
def AN(a1:OA)(q L:Nat)(A:OA)(h C:Nat)(w:Wo)(R:RT):=Bf ((decide ((q:Int)>1048576))||(decide ((h:Int)>1048576))) (AR [] w R (.bool true)) (CW [] Tk #[S a1 q L] w λa4 Q u b1 Y a2 X N M J o=>NB o λb=>∃(z:List Va->List Nat->Wo->Prop),(∃F,PX [] On #[Wv a4 Q u b1 Y a2 X N M J] o (.bool F)/\Bf (F||(decide ((u:Int)<2))) (CWx [] [b] Pn #[S a1 q L] o λf4 e8 c8 g6 d5 b6 f9 c3 b5 d8 h4=>AY [b] h4 λb7=>z [I f4,S e8 c8 g6,S d5 b6 f9,S c3 b5 d8] [] b7) (AX [] [b] o λe5=>z [I a4,S Q u b1,S Y a2 X,S N M J] [] e5))/\∀(t:Int) (p:OA) (a n:Nat) (r:OA) (x s:Nat) (v:OA) (l m:Nat) (f:Wo),(∀bq∈[b],bq<f.heap.size)->z [I t,S p a n,S r x s,S v l m] [] f->∃d,PX [b] Ul #[S A h C,I 0] f (I d)/\(a:Int)≠0/\Qz ((Int.tmod d (a:Int))+1)/\(a:Int)≠0/\∃i,PX [b] Ul #[S A h C,I 1] f (I i)/\(100:Int)≠0/\Qz (1+(Int.tmod i 100))/\∃k,PX [b] Ul #[S A h C,I 2] f (I k)/\(100:Int)≠0/\Qz (1+(Int.tmod k 100))/\CV [b] Xq #[Wv t p a n r x s v l m,I (Int.tmod d (a:Int)),I (1+(Int.tmod i 100))] f λe3 b4 e7 c0 g1 c7 h2 c1 d4 d9 g a7=>NB a7 λc=>CVx [b] [b,c] Xq #[Wv e3 b4 e7 c0 g1 c7 h2 c1 d4 d9,I (Int.tmod ((Int.tmod d (a:Int))+1) (a:Int)),I (1+(Int.tmod k 100))] a7 λa0 T a9 a3 Z b0 a8 P V b2 E b9=>CV [b,c] Xq #[Wv t p a n r x s v l m,I (Int.tmod ((Int.tmod d (a:Int))+1) (a:Int)),I (1+(Int.tmod k 100))] b9 λc9 g4 c5 f5 d6 g0 g7 e0 f1 h3 D a5=>NB a5 λe=>CVx [b,c] [b,c,e] Xq #[Wv c9 g4 c5 f5 d6 g0 g7 e0 f1 h3,I (Int.tmod d (a:Int)),I (1+(Int.tmod i 100))] a5 λg8 g2 c4 h5 d0 d2 f6 g3 h6 e6 H K=>Bf ((Int.tmod d (a:Int))==(Int.tmod ((Int.tmod d (a:Int))+1) (a:Int))) (AR [b,c,e] K R (.bool true)) (CV [b,c,e] YN #[Wv t p a n r x s v l m,I (Int.tmod d (a:Int)),I (1+(Int.tmod i 100))] K λf8 d7 g9 d3 e1 h0 e4 f2 c2 b3 G a6=>NB a6 λj=>CVx [b,c,e] [b,c,e,j] YN #[Wv f8 d7 g9 d3 e1 h0 e4 f2 c2 b3,I (Int.tmod ((Int.tmod d (a:Int))+1) (a:Int)),I (1+(Int.tmod k 100))] a6 λc6 e2 e9 h1 g5 f3 f0 d1 f7 b8 h7 y=>∃B,((((g==G)&&(g==H))&&(E==D))->PX [b,c,e,j] Th #[Wv a0 T a9 a3 Z b0 a8 P V b2,Wv g8 g2 c4 h5 d0 d2 f6 g3 h6 e6] y (.bool B))/\∃U,(((((g==G)&&(g==H))&&(E==D))&&B)->PX [b,c,e,j] Th #[Wv a0 T a9 a3 Z b0 a8 P V b2,Wv c6 e2 e9 h1 g5 f3 f0 d1 f7 b8] y (.bool U))/\∀O,Q0 [b,c,e,j] y O->R (.bool (((((g==G)&&(g==H))&&(E==D))&&B)&&U)) O))
def Cw(a b c d e f):JD (AN a b c d e f) KK #[S a b c,S d e f]:=eV [] false [(1000006,⟨[],[(0,[Ri,Rs,Rs,Rs])],[1,5],[],[]⟩)] Tryz.func3 Qk Qk
def Gh(c:OA)(e:Int)(w:Wo)(R:RT):=c.isSome/\∃d a f,Q1 [] w c (0+1) [S d a f]/\Qz ((a:Int)-1)/\∃b,PX [] QA #[I e,I 0,I ((a:Int)-1)] w (.bool b)/\R (.bool b) w
def Gu(a b):YG (Gh a b) Jw #[.pointer a,I b]:=pV [] false [] Tryz.func49 Qk Qk
def zj7(e:OA)(b g:Nat)(w:Wo)(R:RT):=∃(d:LP) (f:LN),d [I 0]/\∀(a:Int),d [I a]->Bf (decide (a<(b:Int))) (Ix e b a/\∃c,Q1 [] w e (a.toNat*1) [I c]/\Bf (decide (c>50000000000000000)) (R (.bool false) w) (Qz (a+1)/\d [I (a+1)]/\f [I (a+1)]<f [I a])) (R (.bool true) w)
def zl4(a b c):YG (zj7 a b c) Y0 #[S a b c]:=pV [] false [(2,⟨[(7,Ri)],[],[5,6],[],[]⟩)] Tryz.func85 Qk Qk
def ET(j:OA)(w:Wo)(R:RT):=j.isSome/\∃a5,Q1 [] w j (0+0) [I a5]/\NB w λD=>∃Y,(∀M,Q0 [] w M->M.heap[D]? = some (Obj.cells ([I a5]:LV).toArray Qc (0,0))->PX [] Y0 #[S (some (Addr.mk D 0 none)) 1 1] M (.bool Y))/\j.isSome/\∃B t c2,Q1 [] w j (0+1) [S B t c2]/\∃(r:LP) (u:LN),r [.bool Y,I 0]/\∀(i:Bool) (b:Int),r [.bool i,I b]->Bf (decide (b<(t:Int))) (Ix B t b/\∃e0 b8 b4 b1 a4,Q1 [] w B (b.toNat*5) [.bool e0,I b8,I b4,I b1,I a4]/\NB w λd3=>(i->NB w λO=>∃N,(i->∀H,Q0 [] w H->H.heap[O]? = some (Obj.cells ([I b1,I a4]:LV).toArray Qc (0,0))->PX [] Y0 #[S (some (Addr.mk O 0 none)) 2 2] H (.bool N))/\Qz (b+1)/\r [.bool (i&&N),I (b+1)]/\u [.bool (i&&N),I (b+1)]<u [.bool i,I b])/\((i->False)->Qz (b+1)/\r [.bool false,I (b+1)]/\u [.bool false,I (b+1)]<u [.bool i,I b])) (j.isSome/\∃C z d2,Q1 [] w j (0+2) [S C z d2]/\∃(v:LP) (n:LN),v [.bool i,I 0]/\∀(h:Bool) (d:Int),v [.bool h,I d]->Bf (decide (d<(z:Int))) (Ix C z d/\∃c6 d1 e7 c1 c3 a2 a9 b0 c0,Q1 [] w C (d.toNat*9) [I c6,I d1,I e7,I c1,I c3,I a2,I a9,I b0,I c0]/\NB w λd7=>(h->NB w λL=>∃G,(h->∀P,Q0 [] w P->P.heap[L]? = some (Obj.cells ([I a2,I a9,I b0]:LV).toArray Qc (0,0))->PX [] Y0 #[S (some (Addr.mk L 0 none)) 3 3] P (.bool G))/\Qz (d+1)/\v [.bool (h&&G),I (d+1)]/\n [.bool (h&&G),I (d+1)]<n [.bool h,I d])/\((h->False)->Qz (d+1)/\v [.bool false,I (d+1)]/\n [.bool false,I (d+1)]<n [.bool h,I d])) (j.isSome/\∃X o d4,Q1 [] w j (0+3) [S X o d4]/\∃(y:LP) (s:LN),y [.bool h,I 0]/\∀(k:Bool) (e:Int),y [.bool k,I e]->Bf (decide (e<(o:Int))) (Ix X o e/\∃(d9:Bool) (b5:Int) (e8:ByteArray) (e1 e2 c4 b9 a7 d0 c5 b7:Int) (c8:OA) (d8 e3:Nat) (d6:OA) (c9 b6:Nat) (m:OA) (l e4:Nat),Q1 [] w X (e.toNat*14) [.bool d9,I b5,.string e8,I e1,I e2,I c4,I b9,I a7,I d0,I c5,I b7,S c8 d8 e3,S d6 c9 b6,S m l e4]/\NB w λe5=>(k->NB w λT=>∃a6,(k->∀J,Q0 [] w J->J.heap[T]? = some (Obj.cells ([I a7]:LV).toArray Qc (0,0))->PX [] Y0 #[S (some (Addr.mk T 0 none)) 1 1] J (.bool a6))/\∃(q:LP) (x:LN),q [.bool (k&&a6),I 0]/\∀(g:Bool) (a:Int),q [.bool g,I a]->Bf (decide (a<(l:Int))) (Ix m l a/\∃Z e9 a3 b3 a1,Q1 [] w m (a.toNat*5) [I Z,.bool e9,I a3,I b3,I a1]/\NB w λe6=>(g->NB w λU=>∃K,(g->∀E,Q0 [] w E->E.heap[U]? = some (Obj.cells ([I Z,I a3,I a1]:LV).toArray Qc (0,0))->PX [] Y0 #[S (some (Addr.mk U 0 none)) 3 3] E (.bool K))/\Qz (a+1)/\q [.bool (g&&K),I (a+1)]/\x [.bool (g&&K),I (a+1)]<x [.bool g,I a])/\((g->False)->Qz (a+1)/\q [.bool false,I (a+1)]/\x [.bool false,I (a+1)]<x [.bool g,I a])) (Qz (e+1)/\y [.bool g,I (e+1)]/\s [.bool g,I (e+1)]<s [.bool k,I e]))/\((k->False)->∃(A:LP) (p:LN),A [.bool false,I 0]/\∀(f:Bool) (c:Int),A [.bool f,I c]->Bf (decide (c<(l:Int))) (Ix m l c/\∃b2 d5 a8 f0 a0,Q1 [] w m (c.toNat*5) [I b2,.bool d5,I a8,I f0,I a0]/\NB w λc7=>(f->NB w λQ=>∃F,(f->∀V,Q0 [] w V->V.heap[Q]? = some (Obj.cells ([I b2,I a8,I a0]:LV).toArray Qc (0,0))->PX [] Y0 #[S (some (Addr.mk Q 0 none)) 3 3] V (.bool F))/\Qz (c+1)/\A [.bool (f&&F),I (c+1)]/\p [.bool (f&&F),I (c+1)]<p [.bool f,I c])/\((f->False)->Qz (c+1)/\A [.bool false,I (c+1)]/\p [.bool false,I (c+1)]<p [.bool f,I c])) (Qz (e+1)/\y [.bool f,I (e+1)]/\s [.bool f,I (e+1)]<s [.bool k,I e]))) (R (.bool k) w)))
def FZ(a):YG (ET a) VG #[.pointer a]:=pV [] false [(3,⟨[(3,.bool),(23,Ri)],[],[0,21,22],[],[]⟩),(8,⟨[(3,.bool),(42,Ri)],[],[0,40,41],[],[]⟩),(13,⟨[(3,.bool),(63,Ri)],[],[61,62],[],[]⟩),(17,⟨[(3,.bool),(77,Ri)],[],[61,62,63,75,76],[],[]⟩)] Tryz.func50 Qk Qk
def AH(b:OA)(d:Int)(w:Wo)(R:RT):=NB w λf=>b.isSome/\∃a c e,Q1 [] w b (0+1) [S a c e]/\Ix a c d/\R (.pointer (a.map (·.add (d.toNat*5)))) w
def z8(a b):YG (AH a b) ZG #[.agg #[.pointer a,I b]]:=pV [] false [] Tryz.func86 Qk Qk
def Db(l:OA)(E Z:Int)(w:Wo)(R:RT):=NB w λa=>l.isSome/\∃C t a8,Q1 [] w l (0+2) [S C t a8]/\∃(r:LQ) (s:LM),(AX [] [a] w λb0=>r [S none 0 0,I 0] b0)/\∀(f:OA) (i h:Nat) (b:Int) d,(∀bq∈[a],bq<d.heap.size)->r [S f i h,I b] d->Bf (decide (b<(t:Int))) (Ix C t b/\∃a7 Y O X V a0 Q a2 a4,Q1 [a] d C (b.toNat*9) [I a7,I Y,I O,I X,I V,I a0,I Q,I a2,I a4]/\NB d λo=>∃x,PX [a] Xi #[.agg #[.pointer l,I E],I b,I Z] d (.bool x)/\Bf x (NB d λm=>AX [a] [a,o,m] d λu=>u.heap[m]? = some (Obj.cells ([.iface XH (.agg #[I b,I a7,I Y,I O,I X,I V,I a0,I Q,I a2,I a4])]:LV).toArray Zt (0,0))->∃B A G,∃L,(builtin .append #[ZO,ZO] ZO #[false,false] #[S f i h,S (some (Addr.mk m 0 none)) 1 1]).run Tryz.prog u=.ok (.value (S B A G)) L/\Q9 [a,o,m] u L/\Qz (b+1)/\AY [a,o,m] L λa3=>r [S B A G,I (b+1)] a3/\s [S B A G,I (b+1)] a3<s [S f i h,I b] d) (Qz (b+1)/\AX [a] [a,o] d λP=>r [S f i h,I (b+1)] P/\s [S f i h,I (b+1)] P<s [S f i h,I b] d)) (l.isSome/\∃a9 F b1,Q1 [a] d l (0+3) [S a9 F b1]/\∃(p:LQ) (q:LM),(AY [a] d λb2=>p [S f i h,I 0] b2)/\∀(k:OA) (g j:Nat) (c:Int) e,(∀bq∈[a],bq<e.heap.size)->p [S k g j,I c] e->Bf (decide (c<(F:Int))) (∃H,PX [a] Xx #[.agg #[.pointer l,I E],I c,I Z] e (.bool H)/\Bf H (∃D,PX [a] QC #[.agg #[.pointer l,I E],I c] e (.pointer D)/\D.isSome/\∃a5 N a1 U M,Q1 [a] e D 0 [I a5,.bool N,I a1,I U,I M]/\NB e λn=>AX [a] [a,n] e λJ=>J.heap[n]? = some (Obj.cells ([.iface J8 (.agg #[I c,I a5,.bool N,I a1,I U,I M])]:LV).toArray Zt (0,0))->∃y K v,∃z,(builtin .append #[ZO,ZO] ZO #[false,false] #[S k g j,S (some (Addr.mk n 0 none)) 1 1]).run Tryz.prog J=.ok (.value (S y K v)) z/\Q9 [a,n] J z/\Qz (c+1)/\AY [a,n] z λT=>p [S y K v,I (c+1)] T/\q [S y K v,I (c+1)] T<q [S k g j,I c] e) (Qz (c+1)/\AY [a] e λa6=>p [S k g j,I (c+1)] a6/\q [S k g j,I (c+1)] a6<q [S k g j,I c] e)) (AR [a] e R (S k g j)))
def Di(a b c):JD (Db a b c) Uk #[.agg #[.pointer a,I b],I c]:=eV [] false [(3,⟨[(5,Rs),(15,Ri)],[],[1,2,13,14],[],[]⟩),(9,⟨[(5,Rs),(38,Ri)],[],[1,2,37],[],[]⟩)] Tryz.func129 Qk Qk
def JT(e:OA)(d u:Nat)(t:Fn)(r:Array Va)(p:Array Va)(w:Wo)(R:RT):=Bf (decide ((d:Int)<1)) (False) (Ix e d 0/\∃(n:Va),Q1 [] w e (Int.toNat 0*1) [n]/\∃(f:LQ) (g:LM),(AY [] w λq=>f [n,I 1] q)/\∀(b:Va) (a:Int) c,(∀bq∈([]:List Nat),bq<c.heap.size)->f [b,I a] c->Bf (decide (a<(d:Int))) (Ix e d a/\∃(m:Va),Q1 [] c e (a.toNat*1) [m]/\AY [] c λk=>O1 Tryz.prog (.func t r p) [m,b] k λs h=>∃j,s=.returned (I j)/\Q9 [] k h/\Bf (decide (j<0)) (Ix e d a/\∃(i:Va),Q1 [] h e (a.toNat*1) [i]/\Qz (a+1)/\AY [] h λo=>f [i,I (a+1)] o/\g [i,I (a+1)] o<g [b,I a] c) (Qz (a+1)/\AY [] h λl=>f [b,I (a+1)] l/\g [b,I (a+1)] l<g [b,I a] c)) (AR [] c R b))
def JV(a b c d e f):JD (JT a b c d e f) ZE #[S a b c,.func d e f]:=eV [] false [(5,⟨[(5,.other),(6,Ri)],[],[0,1],[],[]⟩)] Tryz.func130 Qk Qk
def AB(a:Int)(w:Wo)(R:RT):=R (.bool (a != a)) w
def v9(a):YG (AB a) UC #[I a]:=pV [] false [] Tryz.func173 Qk Qk
def EO(b c:Int)(w:Wo)(R:RT):=∃(d:Bool),PX [] UC #[I b] w (.bool d)/\∃a,PX [] UC #[I c] w (.bool a)/\Bf d (Bf a (R (I 0) w) (R (I (-1)) w)) (Bf a (R (I 1) w) (Bf (decide (b<c)) (R (I (-1)) w) (Bf (decide (b>c)) (R (I 1) w) (R (I 0) w))))
def FV(a b):YG (EO a b) VD #[I a,I b]:=pV [] false [] Tryz.func132 Qk Qk
def DX (m:Va) (o:Va) (w:Wo) (R:RT):= (AY [] w λa =>  (∃ (k : FuncId) (j : Array Value), (zck "loop.example/stint/impl.time" m []).run Tryz.prog a = .ok (.enter k j) a ∧ Cz k j a λl i=>(∃d,l=.returned (I d)/\Q9 [] a i/\(AY [] i λb =>  (∃ (e : FuncId) (h : Array Value), (zck "loop.example/stint/impl.time" o []).run Tryz.prog b = .ok (.enter e h) b ∧ Cz e h b λn c=>(∃g,n=.returned (I g)/\Q9 [] b c/\(∃(f:Int),PX [] VD #[I d,I g] c (I f)/\(AR [] c R (I f)))))))))
def Ea(a b):JD (DX a b) Yx #[a,b]:=eV [] false [] Tryz.func131 Qk Qk
def Bw(C:OA)(x:Int)(w:Wo)(R:RT):=NB w λa=>∃b,PX [] ZG #[.agg #[.pointer C,I x]] w (.pointer b)/\b.isSome/\∃n,Q1 [] w b (0+0) [.bool n]/\Bf (!n) (AR [] w R (I (-1))) (b.isSome/\∃f,Q1 [] w b (0+1) [I f]/\((f != (-1))->b.isSome)/\∃k,((f != (-1))->Q1 [] w b (0+2) [I k])/\Bf ((f != (-1))&&(decide (k<50))) (b.isSome/\∃y,Q1 [] w b (0+1) [I y]/\AR [] w R (I y)) (∃(g:LQ) (h:LM),(AX [] [a] w λZ=>g [I 0] Z)/\∀(c:Int) e,(∀bq∈[a],bq<e.heap.size)->g [I c] e->AY [a] e λs=>Cz Uk #[.agg #[.pointer C,I x],I c] s λU p=>∃q i r,U=.returned (S q i r)/\Q9 [a] s p/\Bf ((i:Int)==0) (AR [a] p R (I (-1))) (AY [a] p λA=>Cz ZE #[S q i r,.func (.func Yx) #[] #[]] A λV d=>∃(o:Va),V=.returned o/\Q9 [a] A d/\∃v X G J E H T O L Y m,(∀u,(Instr.typeAssert o Zt XH true).run Tryz.prog u=.ok (.tuple #[.agg #[I v,I X,I G,I J,I E,I H,I T,I O,I L,I Y],.bool m]) u)/\Bf m (NB d λN=>AR [a] d R (I v)) (∃j F Q M K P l,(∀z,(Instr.typeAssert o Zt J8 true).run Tryz.prog z=.ok (.tuple #[.agg #[I j,I F,.bool Q,I M,I K,I P],.bool l]) z)/\Bf l (NB d λB=>AX [a] [a,B] d λD=>g [I j] D/\h [I j] D<h [I c] e) (AY [a] d λt=>g [I c] t/\h [I c] t<h [I c] e)))))
def BY(a b):JD (Bw a b) Td #[.agg #[.pointer a,I b]]:=eV [] false [(7,⟨[(4,Ri)],[],[1],[],[]⟩)] Tryz.func87 Qk Qk
def GP(c:OA)(d:Int)(w:Wo)(R:RT):=NB w λe=>∃a,PX [] ZG #[.agg #[.pointer c,I d]] w (.pointer a)/\∃b,PX [] ZG #[.agg #[.pointer c,I d]] w (.pointer b)/\a.isSome/\Xd [] w a (0+1) 1/\b.isSome/\Xd [] (Rx w a (0+1) [I (-1)]) b (0+2) 1/\AR [] (Rx (Rx w a (0+1) [I (-1)]) b (0+2) [I 0]) R (.tuple #[])
def GW(a b):JD (GP a b) Yf #[.agg #[.pointer a,I b]]:=eV [] false [] Tryz.func88 Qk Qk
def AC(d:OA)(w:Wo)(R:RT):=d.isSome/\∃k e m,Q1 [] w d (0+4) [S k e m]/\∃(f:LQ) (i:LM),(AY [] w λj=>f [I 0] j)/\∀(a:Int) b,(∀bq∈([]:List Nat),bq<b.heap.size)->f [I a] b->Bf (decide (a<(e:Int))) (d.isSome/\∃c g l,Q1 [] b d (0+4) [S c g l]/\Ix c g a/\Xd [] b c (a.toNat*1) 1/\Qz (a+1)/\AY [] (Rx b c (a.toNat*1) [.bool false]) λh=>f [I (a+1)] h/\i [I (a+1)] h<i [I a] b) (AR [] b R (.tuple #[]))
def Cq(a):JD (AC a) UD #[.pointer a]:=eV [] false [(1,⟨[(8,Ri)],[],[0,7],[],[]⟩)] Tryz.func194 Qk Qk
def D6(a:OA)(w:Wo)(R:RT):=a.isSome/\∃d,Q1 [] w a (0+0) [I d]/\a.isSome/\Xd [] w a (0+1) 1/\a.isSome/\Xd [] (Rx w a (0+1) [I d]) a (0+2) 1/\a.isSome/\∃p f q,Q1 [] (Rx (Rx w a (0+1) [I d]) a (0+2) [I 0]) a (0+3) [S p f q]/\∃(g:LQ) (l:LM),(AY [] (Rx (Rx w a (0+1) [I d]) a (0+2) [I 0]) λn=>g [I 0] n)/\∀(b:Int) c,(∀bq∈([]:List Nat),bq<c.heap.size)->g [I b] c->Bf (decide (b<(f:Int))) (a.isSome/\∃e h o,Q1 [] c a (0+3) [S e h o]/\Ix e h b/\Xd [] c e (b.toNat*1) 1/\Qz (b+1)/\AY [] (Rx c e (b.toNat*1) [I 0]) λj=>g [I (b+1)] j/\l [I (b+1)] j<l [I b] c) (AY [] c λi=>Cz UD #[.pointer a] i λm k=>m=.returned (.tuple #[])/\Q9 [] i k/\AR [] k R (I 0))
def Df(a):JD (D6 a) Uh #[.pointer a]:=eV [] false [(3,⟨[(19,Ri)],[],[0,18],[],[]⟩)] Tryz.func174 Qk Qk
def EP(b:OA)(c:Int)(w:Wo)(R:RT):=b.isSome/\∃g j n,Q1 [] w b (0+3) [S g j n]/\Ix g j c/\∃h,Q1 [] w g (c.toNat*1) [I h]/\Bf (decide (h>0)) (AR [] w R (I 0)) (b.isSome/\∃a,Q1 [] w b (0+1) [I a]/\Bf ((if a<20 then a else 20)==0) (b.isSome/\∃e i m,Q1 [] w b (0+4) [S e i m]/\Ix e i c/\Xd [] w e (c.toNat*1) 1/\AR [] (Rx w e (c.toNat*1) [.bool true]) R (I 2)) (b.isSome/\∃d,Q1 [] w b (0+1) [I d]/\Qz (d-(if a<20 then a else 20))/\b.isSome/\Xd [] w b (0+1) 1/\b.isSome/\∃f k l,Q1 [] (Rx w b (0+1) [I (d-(if a<20 then a else 20))]) b (0+3) [S f k l]/\Ix f k c/\Xd [] (Rx w b (0+1) [I (d-(if a<20 then a else 20))]) f (c.toNat*1) 1/\AR [] (Rx (Rx w b (0+1) [I (d-(if a<20 then a else 20))]) f (c.toNat*1) [I (if a<20 then a else 20)]) R (I 0)))
def Fh(a b):JD (EP a b) VE #[.pointer a,I b]:=eV [] false [] Tryz.func175 Qk Qk
def DS(c:OA)(b a:Int)(w:Wo)(R:RT):=((decide (a<1))=false->c.isSome)/\∃g j l,((decide (a<1))=false->Q1 [] w c (0+3) [S g j l])/\((decide (a<1))=false->Ix g j b)/\∃i,((decide (a<1))=false->Q1 [] w g (b.toNat*1) [I i])/\Bf ((decide (a<1))||(decide (a>i))) (AR [] w R (I 3)) (c.isSome/\∃d h k,Q1 [] w c (0+3) [S d h k]/\Ix d h b/\∃e,Q1 [] w d (b.toNat*1) [I e]/\Qz (e-a)/\Ix d h b/\Xd [] w d (b.toNat*1) 1/\c.isSome/\∃f,Q1 [] (Rx w d (b.toNat*1) [I (e-a)]) c (0+2) [I f]/\Qz (f+a)/\c.isSome/\Xd [] (Rx w d (b.toNat*1) [I (e-a)]) c (0+2) 1/\AR [] (Rx (Rx w d (b.toNat*1) [I (e-a)]) c (0+2) [I (f+a)]) R (I 0))
def E9(a b c):JD (DS a b c) V0 #[.pointer a,I b,I c]:=eV [] false [] Tryz.func176 Qk Qk
def D7(a:OA)(c:Int)(w:Wo)(R:RT):=a.isSome/\∃b,Q1 [] w a (0+1) [I b]/\a.isSome/\∃g i n,Q1 [] w a (0+3) [S g i n]/\Ix g i c/\∃d,Q1 [] w g (c.toNat*1) [I d]/\Qz (b+d)/\a.isSome/\Xd [] w a (0+1) 1/\a.isSome/\∃e k m,Q1 [] (Rx w a (0+1) [I (b+d)]) a (0+3) [S e k m]/\Ix e k c/\Xd [] (Rx w a (0+1) [I (b+d)]) e (c.toNat*1) 1/\a.isSome/\∃f,Q1 [] (Rx (Rx w a (0+1) [I (b+d)]) e (c.toNat*1) [I 0]) a (0+1) [I f]/\Bf (decide (f>0)) (AY [] (Rx (Rx w a (0+1) [I (b+d)]) e (c.toNat*1) [I 0]) λh=>Cz UD #[.pointer a] h λl j=>l=.returned (.tuple #[])/\Q9 [] h j/\AR [] j R (I 0)) (AR [] (Rx (Rx w a (0+1) [I (b+d)]) e (c.toNat*1) [I 0]) R (I 0))
def Dg(a b):JD (D7 a b) Ui #[.pointer a,I b]:=eV [] false [] Tryz.func177 Qk Qk
def zbl(c:OA)(b d h:Int)(w:Wo)(R:RT):=NB w λa=>Bf (b==4) (CIx [] [a] Uh #[.pointer c] w λm p=>AR [a] p R (I m)) (c.isSome/\∃k f n,Q1 [] w c (0+3) [S k f n]/\Qz ((f:Int)-1)/\∃e,PX [] QA #[I d,I 0,I ((f:Int)-1)] w (.bool e)/\Bf (!e) (AR [] w R (I 1)) (Bf (b==1) (CIx [] [a] VE #[.pointer c,I d] w λi o=>AR [a] o R (I i)) (Bf (b==2) (CIx [] [a] V0 #[.pointer c,I d,I h] w λg l=>AR [a] l R (I g)) (Bf (b==3) (CIx [] [a] Ui #[.pointer c,I d] w λj q=>AR [a] q R (I j)) (AR [] w R (I 1))))))
def zcq(a b c d):JD (zbl a b c d) JH #[.pointer a,.agg #[I b,I c,I d]]:=eV [] false [] Tryz.func134 Qk Qk
def DU(g:OA)(j:Int)(w:Wo)(R:RT):=∃(c:LP) (h:LN),c [I j,I 0]/\∀(a b:Int),c [I a,I b]->Bf (a != 0) (Qz (b+1)/\g.isSome/\∃e f i,Q1 [] w g (0+3) [S e f i]/\Ix e f a/\∃d,Q1 [] w e (a.toNat*14+1) [I d]/\c [I d,I (b+1)]/\h [I d,I (b+1)]<h [I a,I b]) (R (I b) w)
def Eu(a b):YG (DU a b) V1 #[.pointer a,I b]:=pV [] false [(2,⟨[(1,Ri),(5,Ri)],[],[0],[],[]⟩)] Tryz.func178 Qk Qk
def zf0(b c:Int)(w:Wo)(R:RT):=∃a,PX [] Vk #[I c] w (I a)/\R (I (if (if a<b then a else b)>0 then (if a<b then a else b) else 0)) w
def zhs(a b):YG (zf0 a b) M7 #[I a,I b]:=pV [] false [] Tryz.func179 Qk Qk
def Ki(e:OA)(n:Int)(w:Wo)(R:RT):=NB w λa=>∃(s:LQ) (B:LM),(AX [] [a] w λK=>s [I 3] K)/\∀(f:Int) j,(∀bq∈[a],bq<j.heap.size)->s [I f] j->Bf (decide (f>=1)) (e.isSome/\∃J u L,Q1 [a] j e (0+3) [S J u L]/\∃(l:LQ) (i:LM),(AY [a] j λH=>l [I 0] H)/\∀(c:Int) b,(∀bq∈[a],bq<b.heap.size)->l [I c] b->Bf (decide (c<(u:Int))) (e.isSome/\∃x D N,Q1 [a] b e (0+3) [S x D N]/\Ix x D c/\∃m,Q1 [a] b x (c.toNat*14+0) [.bool m]/\∃r,((!m)=false->PX [a] V1 #[.pointer e,I c] b (I r))/\Bf ((!m)||(r != f)) (Qz (c+1)/\AY [a] b λG=>l [I (c+1)] G/\i [I (c+1)] G<i [I c] b) (∃d,PX [a] QC #[.agg #[.pointer e,I n],I c] b (.pointer d)/\∃g,PX [a] Xh #[.agg #[.pointer e,I n],I c] b (.bool g)/\∃h,(g->PX [a] UF #[.agg #[.pointer e,I n],I c] b (.bool h))/\((g&&(!h))->d.isSome)/\∃q,((g&&(!h))->Q1 [a] b d (0+1) [.bool q])/\Bf ((g&&(!h))&&(!q)) (e.isSome/\∃p z M,Q1 [a] b e (0+3) [S p z M]/\Ix p z c/\∃A,Q1 [a] b p (c.toNat*14+1) [I A]/\∃v,PX [a] QC #[.agg #[.pointer e,I n],I A] b (.pointer v)/\v.isSome/\∃k,Q1 [a] b v (0+0) [I k]/\d.isSome/\∃t,Q1 [a] b d (0+2) [I t]/\Qz (t-k)/\d.isSome/\∃E,Q1 [a] b d (0+3) [I E]/\∃o,PX [a] M7 #[I (t-k),I E] b (I o)/\Qz (k+o)/\d.isSome/\Xd [a] b d (0+2) 1/\d.isSome/\Xd [a] (Rx b d (0+2) [I (k+o)]) d (0+1) 1/\Qz (c+1)/\AY [a] (Rx (Rx b d (0+2) [I (k+o)]) d (0+1) [.bool (g&&(!h))]) λy=>l [I (c+1)] y/\i [I (c+1)] y<i [I c] b) (d.isSome/\Xd [a] b d (0+1) 1/\Qz (c+1)/\AY [a] (Rx b d (0+1) [.bool (g&&(!h))]) λF=>l [I (c+1)] F/\i [I (c+1)] F<i [I c] b))) (Qz (f-1)/\AY [a] b λC=>s [I (f-1)] C/\B [I (f-1)] C<B [I f] j)) (AR [a] j R (.tuple #[]))
def Km(a b):JD (Ki a b) YE #[.agg #[.pointer a,I b]]:=eV [] false [(2,⟨[(2,Ri)],[],[1],[],[]⟩),(5,⟨[(17,Ri)],[],[1,2,16],[],[]⟩)] Tryz.func135 Qk Qk
def Bx(g:OA)(n:Int)(w:Wo)(R:RT):=NB w λa=>g.isSome/\∃Z D a2,Q1 [] w g (0+3) [S Z D a2]/\∃(l:LQ) (k:LM),(AX [] [a] w λa1=>l [I 0] a1)/\∀(b:Int) h,(∀bq∈[a],bq<h.heap.size)->l [I b] h->Bf (decide (b<(D:Int))) (g.isSome/\∃G N a7,Q1 [a] h g (0+3) [S G N a7]/\Ix G N b/\∃A,Q1 [a] h G (b.toNat*14+0) [.bool A]/\Bf (!A) (Qz (b+1)/\AY [a] h λJ=>l [I (b+1)] J/\k [I (b+1)] J<k [I b] h) (g.isSome/\∃x t X,Q1 [a] h g (0+2) [S x t X]/\∃(p:LQ) (r:LM),(AY [a] h λa9=>p [I 100000000000000001,I 0] a9)/\∀(j d:Int) i,(∀bq∈[a],bq<i.heap.size)->p [I j,I d] i->Bf (decide (d<(t:Int))) (Ix x t d/\∃a6 T U a0 Y o V a4 a8,Q1 [a] i x (d.toNat*9) [I a6,I T,I U,I a0,I Y,I o,I V,I a4,I a8]/\NB i λB=>∃v,PX [a] Xi #[.agg #[.pointer g,I n],I d,I b] i (.bool v)/\Bf v (Qz (d+1)/\AX [a] [a,B] i λK=>p [I (if o<j then o else j),I (d+1)] K/\r [I (if o<j then o else j),I (d+1)] K<r [I j,I d] i) (Qz (d+1)/\AX [a] [a,B] i λP=>p [I j,I (d+1)] P/\r [I j,I (d+1)] P<r [I j,I d] i)) (g.isSome/\∃Q z a3,Q1 [a] i g (0+3) [S Q z a3]/\∃(q:LQ) (s:LM),(AY [a] i λa5=>q [I j,I 0] a5)/\∀(e f:Int) c,(∀bq∈[a],bq<c.heap.size)->q [I e,I f] c->Bf (decide (f<(z:Int))) (∃F,PX [a] Xx #[.agg #[.pointer g,I n],I f,I b] c (.bool F)/\Bf F (∃y,PX [a] QC #[.agg #[.pointer g,I n],I f] c (.pointer y)/\y.isSome/\∃m,Q1 [a] c y (0+2) [I m]/\Qz (f+1)/\AY [a] c λL=>q [I (if m<e then m else e),I (f+1)] L/\s [I (if m<e then m else e),I (f+1)] L<s [I e,I f] c) (Qz (f+1)/\AY [a] c λO=>q [I e,I (f+1)] O/\s [I e,I (f+1)] O<s [I e,I f] c)) (Bf (decide (e<=100000000000000000)) (∃u,PX [a] QC #[.agg #[.pointer g,I n],I b] c (.pointer u)/\∃E,PX [a] QC #[.agg #[.pointer g,I n],I b] c (.pointer E)/\E.isSome/\∃C,Q1 [a] c E (0+0) [I C]/\u.isSome/\Xd [a] c u (0+0) 1/\Qz (b+1)/\AY [a] (Rx c u (0+0) [I (if e>C then e else C)]) λH=>l [I (b+1)] H/\k [I (b+1)] H<k [I b] h) (Qz (b+1)/\AY [a] c λM=>l [I (b+1)] M/\k [I (b+1)] M<k [I b] h))))) (AR [a] h R (.tuple #[]))
def BZ(a b):JD (Bx a b) Te #[.agg #[.pointer a,I b]]:=eV [] false [(2,⟨[(13,Ri)],[],[1,12],[],[]⟩),(7,⟨[(3,Ri),(32,Ri)],[],[1,2,12,13,30,31],[],[]⟩),(13,⟨[(3,Ri),(52,Ri)],[],[1,2,12,13,51],[],[]⟩)] Tryz.func137 Qk Qk
def Da(d:OA)(w:Wo)(R:RT):=d.isSome/\∃a6 A a8,Q1 [] w d (0+1) [S a6 A a8]/\∃(B:LQ) (X:LM),(AY [] w λb5=>B [I 0] b5)/\∀(j:Int) m,(∀bq∈([]:List Nat),bq<m.heap.size)->B [I j] m->Bf (decide (j<(A:Int))) (∃N H,PX [] ZA #[.pointer d,I j] m (.agg #[.pointer N,I H])/\AY [] m λK=>Cz YE #[.agg #[.pointer N,I H]] K λb8 Z=>b8=.returned (.tuple #[])/\Q9 [] K Z/\Qz (j+1)/\AY [] Z λa4=>B [I (j+1)] a4/\X [I (j+1)] a4<X [I j] m) (d.isSome/\∃b4 C b6,Q1 [] m d (0+3) [S b4 C b6]/\∃(v:LQ) (P:LM),(AY [] m λb0=>v [I 0] b0)/\∀(e:Int) g,(∀bq∈([]:List Nat),bq<g.heap.size)->v [I e] g->Bf (decide (e<(C:Int))) (d.isSome/\∃s a0 c0,Q1 [] g d (0+3) [S s a0 c0]/\Ix s a0 e/\∃y t b7,Q1 [] g s (e.toNat*14+8+3) [S y t b7]/\∃(p:LQ) (u:LM),(AY [] g λb1=>p [I 0] b1)/\∀(a:Int) f,(∀bq∈([]:List Nat),bq<f.heap.size)->p [I a] f->Bf (decide (a<(t:Int))) (Ix y t a/\∃o,Q1 [] f y (a.toNat*1) [I o]/\∃J V,((decide (o>0))->PX [] ZA #[.pointer d,I a] f (.agg #[.pointer J,I V]))/\∃z,((decide (o>0))->PX [] Xh #[.agg #[.pointer J,I V],I e] f (.bool z))/\Bf ((decide (o>0))&&(!z)) (CI [] JH #[.pointer (s.map (·.add (e.toNat*14+8))),.agg #[I 3,I a,I 0]] f λc2 a7=>Qz (a+1)/\AY [] a7 λO=>p [I (a+1)] O/\u [I (a+1)] O<u [I a] f) (Qz (a+1)/\AY [] f λa2=>p [I (a+1)] a2/\u [I (a+1)] a2<u [I a] f)) (Qz (e+1)/\AY [] f λT=>v [I (e+1)] T/\P [I (e+1)] T<P [I e] g)) (d.isSome/\∃b2 E b3,Q1 [] g d (0+1) [S b2 E b3]/\∃(q:LQ) (r:LM),(AY [] g λb9=>q [I 0] b9)/\∀(c:Int) h,(∀bq∈([]:List Nat),bq<h.heap.size)->q [I c] h->Bf (decide (c<(E:Int))) (∃k n,PX [] ZA #[.pointer d,I c] h (.agg #[.pointer k,I n])/\NB h λb=>AX [] [b] h λa1=>Cz YE #[.agg #[.pointer k,I n]] a1 λa5 L=>a5=.returned (.tuple #[])/\Q9 [b] a1 L/\AY [b] L λY=>Cz Te #[.agg #[.pointer k,I n]] Y λc1 i=>c1=.returned (.tuple #[])/\Q9 [b] Y i/\∃x,PX [b] ZG #[.agg #[.pointer k,I n]] i (.pointer x)/\x.isSome/\∃l,Q1 [b] i x (0+1) [I l]/\∃D,((l != (-1))->PX [b] ZG #[.agg #[.pointer k,I n]] i (.pointer D))/\((l != (-1))->D.isSome)/\∃U,((l != (-1))->Q1 [b] i D (0+1) [I U])/\∃F,((l != (-1))->PX [b] J7 #[.agg #[.pointer k,I n],I U] i (.bool F))/\Bf ((l != (-1))&&(!F)) (AY [b] i λG=>Cz Yf #[.agg #[.pointer k,I n]] G λa9 M=>a9=.returned (.tuple #[])/\Q9 [b] G M/\Qz (c+1)/\AY [b] M λQ=>q [I (c+1)] Q/\r [I (c+1)] Q<r [I c] h) (Qz (c+1)/\AY [b] i λa3=>q [I (c+1)] a3/\r [I (c+1)] a3<r [I c] h)) (AR [] h R (.tuple #[]))))
def Dh(a):JD (Da a) Zx #[.pointer a]:=eV [] false [(1,⟨[(14,Ri)],[],[0,13],[],[]⟩),(6,⟨[(27,Ri)],[],[0,26],[],[]⟩),(10,⟨[(42,Ri)],[],[0,3,4,26,27,40,41],[],[]⟩),(17,⟨[(68,Ri)],[],[0,67],[],[]⟩)] Tryz.func90 Qk Qk
def EW(i:OA)(t g c4:Int)(w:Wo)(R:RT):=NB w λa=>i.isSome/\∃e b4 c6,Q1 [] w i (0+2) [S e b4 c6]/\Ix e b4 g/\∃a8,Q1 [] w e (g.toNat*9+1) [I a8]/\∃(z:LQ) (A:LM),(AX [] [a] w λc3=>z [I c4,I a8] c3)/\∀(b k:Int) c,(∀bq∈[a],bq<c.heap.size)->z [I b,I k] c->Bf (k != 0) (i.isSome/\∃Y a1 d1,Q1 [a] c i (0+3) [S Y a1 d1]/\Ix Y a1 k/\∃U d0 b7 H b2 c7 c9 d5 c0,Q1 [a] c Y (k.toNat*14+8) [I U,I d0,I b7,S H b2 c7,S c9 d5 c0]/\NB c λT=>Bf (decide (U>0)) (Ix H b2 t/\∃v,Q1 [a] c H (t.toNat*1) [I v]/\i.isSome/\∃O b5 c2,Q1 [a] c i (0+3) [S O b5 c2]/\Ix O b5 k/\∃Q,Q1 [a] c O (k.toNat*14+1) [I Q]/\AX [a] [a,T] c λa9=>z [I (if v<b then v else b),I Q] a9/\A [I (if v<b then v else b),I Q] a9<A [I b,I k] c) (i.isSome/\∃J b3 d2,Q1 [a] c i (0+3) [S J b3 d2]/\Ix J b3 k/\∃D,Q1 [a] c J (k.toNat*14+1) [I D]/\AX [a] [a,T] c λa6=>z [I b,I D] a6/\A [I b,I D] a6<A [I b,I k] c)) (∃q,Q1 [a] c e (g.toNat*9+5) [I q]/\∃b1,Q1 [a] c e (g.toNat*9+3) [I b1]/\∃a0,PX [a] J9 #[I b1] c (I a0)/\∃o,PX [a] Ya #[I b,I a0] c (I o)/\Qz (q+o)/\Xd [a] c e (g.toNat*9+5) 1/\∃r,Q1 [a] (Rx c e (g.toNat*9+5) [I (q+o)]) e (g.toNat*9+6) [I r]/\Qz (r+b)/\Xd [a] (Rx c e (g.toNat*9+5) [I (q+o)]) e (g.toNat*9+6) 1/\∃C,Q1 [a] (Rx (Rx c e (g.toNat*9+5) [I (q+o)]) e (g.toNat*9+6) [I (r+b)]) e (g.toNat*9+7) [I C]/\Qz (C+b)/\Xd [a] (Rx (Rx c e (g.toNat*9+5) [I (q+o)]) e (g.toNat*9+6) [I (r+b)]) e (g.toNat*9+7) 1/\∃b0,Q1 [a] (Rx (Rx (Rx c e (g.toNat*9+5) [I (q+o)]) e (g.toNat*9+6) [I (r+b)]) e (g.toNat*9+7) [I (C+b)]) e (g.toNat*9+1) [I b0]/\∃(B:LQ) (x:LM),(AY [a] (Rx (Rx (Rx c e (g.toNat*9+5) [I (q+o)]) e (g.toNat*9+6) [I (r+b)]) e (g.toNat*9+7) [I (C+b)]) λb8=>B [I b0] b8)/\∀(d:Int) f,(∀bq∈[a],bq<f.heap.size)->B [I d] f->Bf (d != (-1)) (∃h,PX [a] QC #[.agg #[.pointer i,I t],I d] f (.pointer h)/\h.isSome/\∃l,Q1 [a] f h (0+4) [I l]/\Qz (l+b)/\h.isSome/\Xd [a] f h (0+4) 1/\i.isSome/\∃j V b9,Q1 [a] (Rx f h (0+4) [I (l+b)]) i (0+3) [S j V b9]/\Ix j V d/\∃n,Q1 [a] (Rx f h (0+4) [I (l+b)]) j (d.toNat*14+7) [I n]/\Qz (n+b)/\Ix j V d/\Xd [a] (Rx f h (0+4) [I (l+b)]) j (d.toNat*14+7) 1/\∃(G:List Va->List Nat->Wo->Prop),(Bf (d != 0) (h.isSome/\∃M,Q1 [a] (Rx (Rx f h (0+4) [I (l+b)]) j (d.toNat*14+7) [I (n+b)]) h (0+2) [I M]/\h.isSome/\∃a4,Q1 [a] (Rx (Rx f h (0+4) [I (l+b)]) j (d.toNat*14+7) [I (n+b)]) h (0+3) [I a4]/\∃F,PX [a] Ya #[I b,I a4] (Rx (Rx f h (0+4) [I (l+b)]) j (d.toNat*14+7) [I (n+b)]) (I F)/\Qz (M+F)/\h.isSome/\Xd [a] (Rx (Rx f h (0+4) [I (l+b)]) j (d.toNat*14+7) [I (n+b)]) h (0+2) 1/\AY [a] (Rx (Rx (Rx f h (0+4) [I (l+b)]) j (d.toNat*14+7) [I (n+b)]) h (0+2) [I (M+F)]) λc5=>G [] [] c5) (AY [a] (Rx (Rx f h (0+4) [I (l+b)]) j (d.toNat*14+7) [I (n+b)]) λc1=>G [] [] c1))/\∀(p:Wo),(∀bq∈[a],bq<p.heap.size)->G [] [] p->i.isSome/\∃y b6 d3,Q1 [a] p i (0+3) [S y b6 d3]/\Ix y b6 d/\∃L,Q1 [a] p y (d.toNat*14+8+0) [I L]/\Bf (decide (L>0)) (CI [a] JH #[.pointer (y.map (·.add (d.toNat*14+8))),.agg #[I 2,I t,I b]] p λd6 E=>i.isSome/\∃P a2 d4,Q1 [a] E i (0+3) [S P a2 d4]/\Ix P a2 d/\∃N,Q1 [a] E P (d.toNat*14+1) [I N]/\AY [a] E λa5=>B [I N] a5/\x [I N] a5<x [I d] f) (i.isSome/\∃X a3 c8,Q1 [a] p i (0+3) [S X a3 c8]/\Ix X a3 d/\∃K,Q1 [a] p X (d.toNat*14+1) [I K]/\AY [a] p λa7=>B [I K] a7/\x [I K] a7<x [I d] f)) (∃m,PX [a] ZG #[.agg #[.pointer i,I t]] f (.pointer m)/\m.isSome/\∃u,Q1 [a] f m (0+3) [I u]/\Qz (u+b)/\m.isSome/\Xd [a] f m (0+3) 1/\∃s,PX [a] ZG #[.agg #[.pointer i,I t]] (Rx f m (0+3) [I (u+b)]) (.pointer s)/\s.isSome/\∃Z,Q1 [a] (Rx f m (0+3) [I (u+b)]) s (0+2) [I Z]/\Qz (Z+b)/\s.isSome/\Xd [a] (Rx f m (0+3) [I (u+b)]) s (0+2) 1/\AR [a] (Rx (Rx f m (0+3) [I (u+b)]) s (0+2) [I (Z+b)]) R (I b)))
def Fi(a b c d):JD (EW a b c d) Jx #[.agg #[.pointer a,I b],I c,I d]:=eV [] false [(3,⟨[(8,Ri),(9,Ri)],[],[3,7],[],[]⟩),(12,⟨[(11,Ri)],[],[3,8],[],[]⟩),(1000019,⟨[],[],[3,8,11],[],[]⟩)] Tryz.func91 Qk Qk
def AJ(f:OA)(g a7:Int)(v:Fn)(u:Array Va)(Z:Array Va)(w:Wo)(R:RT):=NB w λa=>∃c,PX [] ZG #[.agg #[.pointer f,I g]] w (.pointer c)/\∃(i:LQ) (h:LM),(AX [] [a] w λa9=>i [I a7] a9)/\∀(b:Int) d,(∀bq∈[a],bq<d.heap.size)->i [I b] d->Bf (decide (b>0)) (∃e,PX [a] Td #[.agg #[.pointer f,I g]] d (I e)/\Bf (decide (e<0)) (c.isSome/\∃r,Q1 [a] d c (0+4) [I r]/\Qz (r+b)/\c.isSome/\Xd [a] d c (0+4) 1/\AY [a] (Rx d c (0+4) [I (r+b)]) λx=>Cz Yf #[.agg #[.pointer f,I g]] x λb4 X=>b4=.returned (.tuple #[])/\Q9 [a] x X/\AY [a] X λa1=>Cz Zx #[.pointer f] a1 λb6 Q=>b6=.returned (.tuple #[])/\Q9 [a] a1 Q/\AR [a] Q R (.tuple #[])) (c.isSome/\∃j,Q1 [a] d c (0+1) [I j]/\((e != j)=false->c.isSome)/\∃p,((e != j)=false->Q1 [a] d c (0+2) [I p])/\Bf ((e != j)||(decide (p>=50))) (c.isSome/\Xd [a] d c (0+1) 1/\c.isSome/\Xd [a] (Rx d c (0+1) [I e]) c (0+2) 1/\AY [a] (Rx (Rx d c (0+1) [I e]) c (0+2) [I 0]) λa0=>Cz VI #[.agg #[.pointer f,I g],I e] a0 λa2 m=>∃o,a2=.returned (.bool o)/\Q9 [a] a0 m/\Bf o (AY [a] m λK=>Cz Yf #[.agg #[.pointer f,I g]] K λb7 H=>b7=.returned (.tuple #[])/\Q9 [a] K H/\AY [a] H λD=>Cz Zx #[.pointer f] D λb8 t=>b8=.returned (.tuple #[])/\Q9 [a] D t/\AY [a] t λY=>i [I b] Y/\h [I b] Y<h [I b] d) (CI [a] Jx #[.agg #[.pointer f,I g],I e,I b] m λl a4=>AY [a] a4 λL=>O1 Tryz.prog (.func v u Z) [I e,I l] L λb3 z=>b3=.returned (.tuple #[])/\Q9 [a] L z/\AY [a] z λT=>Cz Zx #[.pointer f] T λa8 G=>a8=.returned (.tuple #[])/\Q9 [a] T G/\Qz (b-l)/\AY [a] G λN=>i [I (b-l)] N/\h [I (b-l)] N<h [I b] d)) (AY [a] d λs=>Cz VI #[.agg #[.pointer f,I g],I e] s λa3 n=>∃q,a3=.returned (.bool q)/\Q9 [a] s n/\Bf q (AY [a] n λF=>Cz Yf #[.agg #[.pointer f,I g]] F λa6 B=>a6=.returned (.tuple #[])/\Q9 [a] F B/\AY [a] B λU=>Cz Zx #[.pointer f] U λb2 E=>b2=.returned (.tuple #[])/\Q9 [a] U E/\AY [a] E λC=>i [I b] C/\h [I b] C<h [I b] d) (CI [a] Jx #[.agg #[.pointer f,I g],I e,I b] n λk b0=>AY [a] b0 λy=>O1 Tryz.prog (.func v u Z) [I e,I k] y λa5 J=>a5=.returned (.tuple #[])/\Q9 [a] y J/\AY [a] J λP=>Cz Zx #[.pointer f] P λb1 O=>b1=.returned (.tuple #[])/\Q9 [a] P O/\Qz (b-k)/\AY [a] O λV=>i [I (b-k)] V/\h [I (b-k)] V<h [I b] d)))) (AY [a] d λM=>Cz Zx #[.pointer f] M λb5 A=>b5=.returned (.tuple #[])/\Q9 [a] M A/\AR [a] A R (.tuple #[]))
def Cu(a b c d e f):JD (AJ a b c d e f) Ol #[.agg #[.pointer a,I b],I c,.func d e f]:=eV [] false [(3,⟨[(7,Ri)],[],[2,3,6],[],[]⟩)] Tryz.func52 Qk Qk
def F0(b k h x:OA)(w:Wo)(R:RT):=∃s,Q1 [] w k 0 [I s]/\∃a,PX [] QA #[I s,I 1,I 100] w (.bool a)/\∃r,((!a)=false->Q1 [] w h 0 [I r])/\∃d,((!a)=false->PX [] Jw #[.pointer b,I r] w (.bool d))/\Bf ((!a)||(!d)) (AR [] w R (.iface Y2 (.agg #[I 1]))) (b.isSome/\∃c o v,Q1 [] w b (0+1) [S c o v]/\∃e,Q1 [] w h 0 [I e]/\Ix c o e/\∃g,Q1 [] w c (Int.toNat e*5+0) [.bool g]/\Bf (!g) (AR [] w R (.iface Y2 (.agg #[I 6]))) (∃f,PX [] VG #[.pointer b] w (.bool f)/\Bf (!f) (AR [] w R (.iface Y2 (.agg #[I 10]))) (∃q,Q1 [] w h 0 [I q]/\∃m i,PX [] ZA #[.pointer b,I q] w (.agg #[.pointer m,I i])/\∃p,Q1 [] w k 0 [I p]/\∃(n:Fn) (j:Array Va) (u:Array Va),Q1 [] w x 0 [.func n j u]/\AY [] w λl=>Cz Ol #[.agg #[.pointer m,I i],I p,.func n j u] l λy t=>y=.returned (.tuple #[])/\Q9 [] l t/\AR [] t R .nilIface)))
def Fj(a b c d):JD (F0 a b c d) Jy #[.pointer a,.pointer b,.pointer c,.pointer d]:=eV [] false [] Tryz.func47 Qk Qk
def Ls(k f c g d e a i h j:Int)(w:Wo)(R:RT):=NB w λb=>R (I a) w
def LL(a b c d e f g h i j):YG (Ls a b c d e f g h i j) Xa #[.agg #[I a,I b,I c,I d,I e,I f,I g,I h,I i,I j]]:=pV [] false [] Tryz.func232 Qk Qk
def KE(g f:Int)(c:Bool)(a d e:Int)(w:Wo)(R:RT):=NB w λb=>R (I a) w
def L5(a b c d e f):YG (KE a b c d e f) YV #[.agg #[I a,I b,.bool c,I d,I e,I f]]:=pV [] false [] Tryz.func235 Qk Qk
def PR:zph Tryz.prog T4 5 ZI 40 (⟨0,false,0,0,0⟩:KD):=GX Qk λ_=>rfl
def Pz:Tryz.prog.underlying Za=some (.slice ZI):=Qk
def ZD(b:Ue)(m:MG):List Va:=[I b.I',I b.RU,I b.SB,.slice m.lO b.locals.length m.lC,.slice m.dO b.RE.length m.dC]
def JS{a b:ByteArray}:Zy a b=true↔a=b:=by
 unfold Zy;rw[Is];constructor
 ·intro h
  have h1:∀x:ByteArray,x.toList=x.data.toList:=λx=>by
   have key:∀(n i:Nat) (r:List UInt8),n=x.size-i->ByteArray.toList.loop x i r=r.reverse++x.data.toList.drop i:=by
    intro n
    induction n with
    |zero=>
     intro i r hn;unfold ByteArray.toList.loop;rw[B' Qo,List.drop_eq_nil_iff.2 (by simp only[Array.length_toList];show x.size<=i;omega),List.append_nil]
    |succ n ih=>
     intro i r hn;unfold ByteArray.toList.loop;have hi:i<x.data.toList.length:=by simp only[Array.length_toList];show i<x.size;omega
     rw[C' Qo,ih (i+1) _ Qo,List.reverse_cons,List.append_assoc,List.singleton_append,List.drop_eq_getElem_cons hi]
     have:x.get! i=x.data.toList[i]:=by
      have hi':i<x.data.size:=by simpa using hi
      simp[ByteArray.get!,getElem!_pos x.data i hi']
     rw[this]
   have:=key _ 0 [] rfl
   simpa[ByteArray.toList] using this
  rw[h1,h1] at h
  cases a;cases b
  simp only at h
  congr 1
  exact Array.ext' h
 ·rintro rfl;rfl
def Bd(a b:ByteArray):Zy a b=decide (a=b):=by
 cases h:Zy a b with
 |true=>rw[Ih (JS.1 h)]
 |false=>rw[decide_eq_false λe=>by rw[JS.2 e] at h;cases h]
def Oi(p:Zb×MG):List Va:=Yq p.1 p.2
def Pg:Zb×MG:=(⟨false,0,ByteArray.empty,0,0,0,0,0,⟨0,0,0,[],[]⟩,[]⟩,⟨none,0,none,0,none,0⟩)
def Yw:zph Tryz.prog Oi 14 QX 168 Pg:=GX Qk λ_=>rfl
def Py:Tryz.prog.underlying QH=some (.slice QX):=Qk
def Qu(m:MG):List Nat:=QL m.lO++QL m.dO++QL m.sO
structure PF (base:Nat) (w:Wo) (p:Zb×MG):Prop where
 loc:Uy JW 1 Qc base w p.2.lO p.2.lC p.1.IM.locals
 RE:Uy MT 1 Zw base w p.2.dO p.2.dC p.1.IM.RE
 shl:Uy T4 5 ZI base w p.2.sO p.2.sC p.1.IH
def PF.ext{base:Nat}{w w':Wo}{p:Zb×MG}{bs:List Nat}(h:PF base w p)(hx:Q0 bs w w')(hd:∀b∈Qu p.2,b∉bs):PF base w' p:=
 ⟨h.loc.ext hx λb hb=>hd b (by simp[Qu,hb]),h.RE.ext hx λb hb=>hd b (by simp[Qu,hb]),h.shl.ext hx λb hb=>hd b (by simp[Qu,hb])⟩
def PF.WR{base:Nat}{w w':Wo}{p:Zb×MG}(h:PF base w p)(hx:Q0 [] w w'):PF base w' p:=h.ext hx Qs
def PF.mono{base bA:Nat}{w:Wo}{p:Zb×MG}(h:PF base w p)(hb:bA<=base):PF bA w p:=⟨h.loc.mono hb,h.RE.mono hb,h.shl.mono hb⟩
def PF.lt{base:Nat}{w:Wo}{p:Zb×MG}(h:PF base w p):∀b∈Qu p.2,base<=b/\b<w.heap.size:=by
 intro b hb;simp only[Qu,Im] at hb;rcases hb with (hb|hb)|hb
 ·exact h.loc.lt b hb
 ·exact h.RE.lt b hb
 ·exact h.shl.lt b hb
structure Lo (base:Nat) (w:Wo) (o:OA) (cap:Nat) (ps:List (Zb×MG)):Prop where
 row:Uy Oi 14 QX base w o cap ps
 each:∀i:Int,0<=i->i<(ps.length:Int)->PF base w (gi ps i)
 dj:∀i j:Int,0<=i->i<(ps.length:Int)->0<=j->j<(ps.length:Int)->i≠j->∀b∈Qu (gi ps i).2,b∉Qu (gi ps j).2
def Lo.mono{base bA:Nat}{w:Wo}{o:OA}{cap:Nat}{ps:List (Zb×MG)}(h:Lo base w o cap ps)(hb:bA<=base):Lo bA w o cap ps:=
 ⟨h.row.mono hb,λi a b=>(h.each i a b).mono hb,h.dj⟩
def Jr{base:Nat}{w:Wo}{o:OA}{cap:Nat}{ps:List (Zb×MG)}(h:Uy Oi 14 QX base w o cap ps){bA:Nat}{p:Zb×MG}(hp:PF bA w p):∀b∈Qu p.2,b∉QL o:=by
 intro b hb hx;simp only[Qu,Im] at hb;rcases hb with (hb|hb)|hb
 ·exact hp.loc.Wl h Qd b hb hx
 ·exact hp.RE.Wl h Qd b hb hx
 ·exact hp.shl.Wl h Qd b hb hx
def Lo.put{base:Nat}{w:Wo}{o:OA}{cap:Nat}{ps:List (Zb×MG)}(h:Lo base w o cap ps){i:Int}(h0:0<=i)(hi:i<(ps.length:Int)){p:Zb×MG}(hp:PF base w p)(hd:∀j:Int,0<=j->j<(ps.length:Int)->i≠j->∀b∈Qu (gi ps j).2,b∉Qu p.2):Lo base (Rx w o (Int.toNat i*14) (Oi p)) o cap (ps.set i.toNat p):=by
 have hx:=h.row.zS (Int.toNat i*14) (Oi p);have hlen:(ps.set i.toNat p).length=ps.length:=E';refine⟨?_,λj hj hjl=>?_,λj k hj hjl hk vE jD b hb jR=>?_⟩
 ·have:=h.row.Rx Yw.len h0 hi (j:=0) (vs:=Oi p) (x:=p) (by rw[List.take_zero,List.nil_append,List.drop_eq_nil_iff.2 (by rw[Nat.zero_add,Yw.len,Yw.len];exact I7 _),List.append_nil]) (by rw[Nat.zero_add,Yw.len];exact I7 _);exact this
 ·rw[hlen] at hjl;rw[QE _ _ h0 hi hj];split
  ·exact hp.ext hx (Jr h.row hp)
  ·exact(h.each j hj hjl).ext hx (Jr h.row (h.each j hj hjl))
 ·rw[hlen] at hjl vE;rw[QE _ _ h0 hi hj] at hb;rw[QE _ _ h0 hi hk] at jR
  by_cases e1:i=j
  ·rw[C' e1] at hb
   by_cases e2:i=k
   ·omega
   ·rw[B' e2] at jR;exact hd k hk vE e2 b jR hb
  ·rw[B' e1] at hb
   by_cases e2:i=k
   ·rw[C' e2] at jR;exact hd j hj hjl e1 b hb jR
   ·rw[B' e2] at jR;exact h.dj j k hj hjl hk vE jD b hb jR
def U7{z:Int}(h1 : -9223372036854775808<=z)(h2:z<=9223372036854775807):Qq .i64 z:=⟨h1,h2⟩
def zjy(w:Int):Int:=Int.tdiv 232792560 w
def YT(n a b:Int):Bool:=decide (n>=a)&&decide (n<=b)
def Qv{n a b:Int}:YT n a b=true↔a<=n/\n<=b:=by simp[YT]
def z20{n a b:Int}:YT n a b=false↔¬(a<=n/\n<=b):=by rw[<-Qv];simp
def Z2(n w:Int):Int:=if YT n 0 100000000&&YT w 1 20 then n*zjy w else 0
def ZN(w:Int):Int:=Z2 149 w
def z2h:∀k:Fin 20,zjy ((k.val:Int)+1)*((k.val:Int)+1)=232792560:=Qd
def z2i{w:Int}(h1:1<=w)(h2:w<=20):zjy w*w=232792560:=by
 have:=z2h ⟨(w-1).toNat,Qo⟩;have e:(((w-1).toNat:Nat):Int)+1=w:=Qo;simp only[e] at this;exact this
def zfo{w:Int}(h1:1<=w)(h2:w<=20):11639628<=zjy w/\zjy w<=232792560:=by
 have h:=z2i h1 h2
 have hp:0<=zjy w:=by
  rcases Int.lt_or_le (zjy w) 0 with hn|hn
  ·have:=Int.mul_neg_of_neg_of_pos hn (show 0<w by omega);omega
  ·exact hn
 constructor
 ·have:=Int.mul_le_mul_of_nonneg_left h2 hp;omega
 ·have:=Int.mul_le_mul_of_nonneg_left h1 hp;omega
def Pf{n w:Int}(h1:0<=n)(h2:n<=100000000)(h3:1<=w)(h4:w<=20):Z2 n w=n*zjy w:=by
 unfold Z2;rw[C'];rw[A',Qv,Qv];exact⟨⟨h1,h2⟩,h3,h4⟩
def D0{n w:Int}(h:¬(0<=n/\n<=100000000/\1<=w/\w<=20)):Z2 n w=0:=by
 unfold Z2;rw[B'];rw[A',Qv,Qv];omega
def zlz{n w:Int}(h1:0<=n)(h2:n<=100000000)(h3:1<=w)(h4:w<=20):0<=n*zjy w/\n*zjy w<=23279256000000000:=by
 have hs:=zfo h3 h4;refine⟨Int.mul_nonneg h1 Qo,?_⟩
 calc n*zjy w<=100000000*zjy w:=Int.mul_le_mul_of_nonneg_right h2 Qo
  _<=100000000*232792560:=Int.mul_le_mul_of_nonneg_left hs.2 Qd
  _=23279256000000000:=rfl
def HD(n w:Int):0<=Z2 n w/\Z2 n w<=23279256000000000:=by
 by_cases h:0<=n/\n<=100000000/\1<=w/\w<=20
 ·rw[Pf h.1 h.2.1 h.2.2.1 h.2.2.2];exact zlz h.1 h.2.1 h.2.2.1 h.2.2.2
 ·rw[D0 h];omega
def QK{n a b:Int}{w:Wo}{bs:List Nat}:PX bs QA #[I n,I a,I b] w (.bool (YT n a b)):=
 zep n a b λwr hx=>by unfold GO;rfl
def Qt{n a b:Int}{w:Wo}{bs:List Nat}:PX bs Ql #[I n,I a,I b] w (.bool (YT n a b)):=
 zof n a b λwr hx=>by unfold Ad;rfl
def Pt{n:Int}{w:Wo}{bs:List Nat}:PX bs Jc #[I n] w (.bool (YT n 1 20)):=
 zab n λwr hx=>⟨_,QK,rfl⟩
def JM{n:Int}{w:Wo}{bs:List Nat}:PX bs YO #[I n] w (.bool (YT n 1 20)):=
 zaj n λwr hx=>⟨_,Qt,rfl⟩
def DE{n:Int}{w:Wo}{bs:List Nat}:PX bs Tf #[I n] w (.bool (YT n (-10) 9)):=
 zhv n λwr hx=>⟨_,QK,rfl⟩
def T6(k j:Nat):Int:=if j<=k then zjy (j:Int) else 0
def z7c(k:Nat):List Va:=[I ((k:Int)+1),I 0,I (T6 k 1),I (T6 k 2),I (T6 k 3),I (T6 k 4),I (T6 k 5),I (T6 k 6),I (T6 k 7),
 I (T6 k 8),I (T6 k 9),I (T6 k 10),I (T6 k 11),I (T6 k 12),I (T6 k 13),I (T6 k 14),I (T6 k 15),I (T6 k 16),I (T6 k 17),I (T6 k 18),I (T6 k 19),I (T6 k 20)]
def El{w:Wo}{bs:List Nat}:PX bs V2 #[] w (.agg #[I 0,I (T6 20 1),I (T6 20 2),I (T6 20 3),I (T6 20 4),I (T6 20 5),I (T6 20 6),I (T6 20 7),
 I (T6 20 8),I (T6 20 9),I (T6 20 10),I (T6 20 11),I (T6 20 12),I (T6 20 13),I (T6 20 14),I (T6 20 15),I (T6 20 16),I (T6 20 17),I (T6 20 18),I (T6 20 19),I (T6 20 20)]):=
 Ey λwr hx=>by
  intro _ _ _ _
  refine⟨λvs=>∃k:Nat,k<=20/\vs=z7c k,λvs=>match vs with
   |.int _ i::_=>(21-i).toNat
   |_=>0,⟨0,Qo,rfl⟩,?_⟩
  rintro i l l1 l2 l3 l4 l5 l6 l7 l8 l9 l10 l11 l12 l13 l14 l15 l16 l17 l18 l19 l20 ⟨k,hk,he⟩;simp only[z7c,I4,I5,true_and,and_true] at he;obtain⟨rfl,rfl,rfl,rfl,rfl,rfl,rfl,rfl,rfl,rfl,rfl,rfl,rfl,rfl,rfl,rfl,rfl,rfl,rfl,rfl,rfl,rfl⟩:=he;constructor
  ·intro h;have h:=Ot h;refine⟨⟨Qo,?_⟩,⟨Qo,Qo⟩,Qo,?_⟩
   ·have:=zfo (w:=(k:Int)+1) Qo Qo;exact U7 (by unfold zjy at this;omega) (by unfold zjy at this;omega)
   ·refine⟨_,_,_,_,_,_,_,_,_,_,_,_,_,_,_,_,_,_,_,_,_,?_,U7 Qo Qo,⟨k+1,Qo,rfl⟩,?_⟩
    ·have:k=0\/k=1\/k=2\/k=3\/k=4\/k=5\/k=6\/k=7\/k=8\/k=9\/k=10\/k=11\/k=12\/k=13\/k=14\/k=15\/k=16\/k=17\/k=18\/k=19:=Qo;rcases this with rfl|rfl|rfl|rfl|rfl|rfl|rfl|rfl|rfl|rfl|rfl|rfl|rfl|rfl|rfl|rfl|rfl|rfl|rfl|rfl <;> rfl
    ·show (21-(((k:Int)+1)+1)).toNat<(21-((k:Int)+1)).toNat;omega
  ·intro h;have h:=Ou h;have hk:k=20:=Qo;subst hk;rfl
def z5a{k:Int}(h1:1<=k)(h2:k<=20):(#[I 0,I (T6 20 1),I (T6 20 2),I (T6 20 3),I (T6 20 4),I (T6 20 5),I (T6 20 6),I (T6 20 7),
 I (T6 20 8),I (T6 20 9),I (T6 20 10),I (T6 20 11),I (T6 20 12),I (T6 20 13),I (T6 20 14),I (T6 20 15),I (T6 20 16),I (T6 20 17),I (T6 20 18),I (T6 20 19),I (T6 20 20)]:Array Va)[Int.toNat k]? = some (I (zjy k)):=by
 have:k=1\/k=2\/k=3\/k=4\/k=5\/k=6\/k=7\/k=8\/k=9\/k=10\/k=11\/k=12\/k=13\/k=14\/k=15\/k=16\/k=17\/k=18\/k=19\/k=20:=Qo;rcases this with rfl|rfl|rfl|rfl|rfl|rfl|rfl|rfl|rfl|rfl|rfl|rfl|rfl|rfl|rfl|rfl|rfl|rfl|rfl|rfl <;> rfl
def XB{n k:Int}{w:Wo}{bs:List Nat}:PX bs Ya #[I n,I k] w (I (Z2 n k)):=
 Et n k λwr hx=>by
  refine⟨_,QK,_,λ_=>Pt,λh=>?_,λh=>?_⟩
  ·congr 1;unfold Z2;rw[B'];intro h2;simp only[A'] at h2;simp[h2] at h
  ·have h2:YT n 0 100000000/\YT k 1 20:=by simpa using h
   rw[Qv,Qv] at h2;have hm:=zlz h2.1.1 h2.1.2 h2.2.1 h2.2.2;refine⟨_,_,_,_,_,_,_,_,_,_,_,_,_,_,_,_,_,_,_,_,_,El,zjy k,⟨Qo,Qo,z5a h2.2.1 h2.2.2⟩,U7 Qo Qo,?_⟩;rw[Pf h2.1.1 h2.1.2 h2.2.1 h2.2.2]
def H4{k:Int}{w:Wo}{bs:List Nat}:PX bs Vk #[I k] w (I (ZN k)):=
 zem k λwr hx=>⟨_,XB,rfl⟩
def K4(s:ByteArray):Bool:=(((((Zy s (⟨[119,101,105,103,104,116].toArray⟩))||(Zy s (⟨[109,97,120].toArray⟩)))||(Zy s (⟨[99,112,117,115].toArray⟩)))||(Zy s (⟨[112,114,111,99,115].toArray⟩)))||(Zy s (⟨[115,116,97,116].toArray⟩)))
def z0e(x:Int):Bool:=(((decide (x>=97))&&(decide (x<=122)))||((decide (x>=48))&&(decide (x<=57))))
def Uw(s:ByteArray):Bool:=YT (s.size:Int) 1 8 && !K4 s&&(List.range s.size).all λi=>z0e (Ua s (i:Int))
def LH{s:ByteArray}:Uw s=true↔(1<=s.size/\s.size<=8)/\K4 s=false/\∀i:Nat,i<s.size->z0e (Ua s (i:Int)):=by
 unfold Uw;simp only[A',Qv,ID,List.all_eq_true,List.mem_range];constructor
 ·rintro⟨⟨h1,h2⟩,h3⟩;exact⟨⟨Qo,Qo⟩,h2,h3⟩
 ·rintro⟨⟨h0,h1⟩,h2,h3⟩;exact⟨⟨⟨Qo,Qo⟩,h2⟩,h3⟩
def KZ{s:ByteArray}(h:¬((1<=s.size/\s.size<=8)/\K4 s=false/\∀i:Nat,i<s.size->z0e (Ua s (i:Int)))):Uw s=false:=by
 cases hn:Uw s with
 |false=>rfl
 |true=>exact Ir (LH.1 hn) h
def zhj{s:ByteArray}{w:Wo}{bs:List Nat}:PX bs Md #[.string s] w (.bool (K4 s)):=
 zh8 s λwr hx=>rfl
def DH{s:ByteArray}{w:Wo}{bs:List Nat}:PX bs Tp #[.string s] w (.bool (Uw s)):=
 zh4 s λwr hx=>by
  refine⟨_,Qt,K4 s,λ_=>zhj,λh=>?_,λh=>?_⟩
  ·rw[KZ];rintro⟨h1,h2,_⟩;rw[h2,Qv.2 Qo] at h;cases h
  ·have h:YT (s.size:Int) 1 8/\K4 s=false:=by simpa using h
   have h1:=Qv.1 h.1;refine YU s.size 0 rfl (λk=>k<=s.size/\∀j:Nat,j<k->z0e (Ua s (j:Int))) ⟨Ic _,λj hj=>Ir hj (Nat.not_lt_zero j)⟩ λk ⟨hk,hI⟩=>⟨λIV=>?_,λRW=>?_⟩
   ·have IV:=Ot IV;have hr:0<=(k:Int)/\(k:Int)<(s.size:Int):=⟨Qo,IV⟩;refine⟨hr,λ_=>hr,λ_=>hr,λ_ _=>hr,λrF=>?_,λAY6=>⟨⟨Qo,Qo⟩,Qy Qo ⟨Qo,λj hj=>?_⟩⟩⟩
    ·rw[KZ];rintro⟨_,_,h3⟩;have:=h3 k Qo;unfold z0e at this;rw[this] at rF;cases rF
    ·by_cases jD:j<k
     ·exact hI j jD
     ·have:j=k:=Qo;subst this;unfold z0e;rw[I6] at AY6;exact AY6
   ·have RW:=Ou RW;have hk:k=s.size:=Qo;subst hk;rw[LH.2 ⟨⟨Qo,Qo⟩,h.2,hI⟩]
def Q6(gs:List Zb)(g:Int):Bool:=(decide (g>=0)&&decide (g<(gs.length:Int)))&&(gi gs g).IW
def Q5{gs:List Zb}{g:Int}:Q6 gs g=true↔0<=g/\g<(gs.length:Int)/\(gi gs g).IW:=by
 unfold Q6;simp[and_assoc]
def dep:Nat->List Zb->Int->Int
 |0,_,g=>if g=0 then 0 else -1
 |f+1,gs,g=>if g=0 then 0 else if dep f gs (gi gs g).IG<0 then -1 else dep f gs (gi gs g).IG+1
def P7:Nat->List Zb->Int->Int->Int
 |0,_,_,_ => -1
 |f+1,gs,g,n=>if Q6 gs g=false then -1 else if g=0 then n else P7 f gs (gi gs g).IG (n+1)
def Oh(gs:List Zb):∀(f:Nat) (g:Int),-1<=dep f gs g/\dep f gs g<=f
 |0,g=>by simp only[dep];split <;> omega
 |f+1,g=>by
  have:=Oh gs f (gi gs g).IG;simp only[dep];split
  ·omega
  ·split <;> omega
def GT(gs:List Zb):∀(f f':Nat) (g:Int),0<=dep f gs g->dep f gs g<=f'->dep f' gs g=dep f gs g
 |0,f',g,h,_=>by
  simp only[dep] at h ⊢
  split at h
  ·rename_i hg
   cases f' <;> simp[dep,hg]
  ·omega
 |f+1,f',g,h,hle=>by
  simp only[dep] at h hle ⊢
  by_cases hg:g=0
  ·rw[C' hg]
   cases f' <;> simp[dep,hg]
  ·rw[B' hg] at h hle ⊢
   by_cases hd:dep f gs (gi gs g).IG<0
   ·rw[C' hd] at h;omega
   ·rw[B' hd] at hle ⊢
    cases f' with
    |zero=>omega
    |succ f'=>
     have:=GT gs f f' (gi gs g).IG Qo Qo;simp only[dep];rw[B' hg,this,B' hd]
def ZS(gs:List Zb)(f:Nat):dep f gs 0=0:=by cases f <;> simp[dep]
def zxa{gs:List Zb}{f:Nat}{g:Int}(h:dep f gs g=0):g=0:=by
 cases f with
 |zero=>simp only[dep] at h;split at h <;> first|assumption|omega
 |succ f=>
  simp only[dep] at h
  split at h
  ·assumption
  ·split at h <;> omega
structure Yh (gs:List Zb):Prop where
 len:gs.length=8
 ru:(gi gs 0).IW=true
 rp:(gi gs 0).IG = -1
 rn:(gi gs 0).name=⟨[].toArray⟩
 nm:∀g:Int,1<=g->g<8->(gi gs g).IW->Uw (gi gs g).name=true
 par:∀g:Int,1<=g->g<8->(gi gs g).IW->Q6 gs (gi gs g).IG=true
 dp:∀g:Int,1<=g->g<8->(gi gs g).IW->0<=dep 3 gs g
 uniq:∀g h:Int,1<=h->h<g->g<8->(gi gs g).IW->(gi gs h).IW->¬((gi gs h).IG=(gi gs g).IG/\(gi gs h).name=(gi gs g).name)
noncomputable def Kc(gs:List Zb):Bool:=@decide (Yh gs) (Classical.propDecidable _)
def T1{gs:List Zb}:Kc gs=true↔Yh gs:=@decide_eq_true_iff _ (Classical.propDecidable _)
def Bh{gs:List Zb}(h:¬Yh gs):Kc gs=false:=by
 cases hb:Kc gs with
 |false=>rfl
 |true=>exact Ir (T1.1 hb) h
def FM{gs:List Zb}(hp:∀g:Int,g≠0->Q6 gs g->Q6 gs (gi gs g).IG):∀(f:Nat) (g n:Int),Q6 gs g->P7 (f+1) gs g n=if dep f gs g<0 then -1 else n+dep f gs g
 |0,g,n,hu=>by
  simp only[P7,dep,hu]
  by_cases hg:g=0 <;> simp[hg]
 |f+1,g,n,hu=>by
  rw[P7];simp only[hu]
  by_cases hg:g=0
  ·simp[hg,dep]
  ·have ih:=FM hp f (gi gs g).IG (n+1) (hp g hg hu);have hr:=Oh gs f (gi gs g).IG;simp only[dep,B' hg];rw[ih]
   by_cases hd:dep f gs (gi gs g).IG<0
   ·simp[hd]
   ·have h2:¬(dep f gs (gi gs g).IG+1<0):=Qo;simp[hd,h2];omega
def zuu{gs:List Zb}{f:Nat}{g n:Int}(hg:g≠0)(h:P7 (f+1) gs g n≠-1):f≠0/\Q6 gs (gi gs g).IG:=by
 rw[P7] at h
 by_cases hu:Q6 gs g=false
 ·rw[C' hu] at h;exact Ir rfl h
 ·rw[B' hu,B' hg] at h
  cases f with
  |zero=>exact Ir rfl h
  |succ f=>
   rw[P7] at h
   by_cases hp:Q6 gs (gi gs g).IG=false
   ·rw[C' hp] at h;exact Ir rfl h
   ·exact⟨Qo,by simpa using hp⟩
structure zrz (gs:List Zb) (k:Int):Prop where
 each:∀g:Int,1<=g->g<k->(gi gs g).IW->Uw (gi gs g).name/\YT (P7 9 gs g 0) 1 3/\∀h:Int,1<=h->h<g->(gi gs h).IW->¬((gi gs h).IG=(gi gs g).IG/\(gi gs h).name=(gi gs g).name)
def zvv{gs:List Zb}(hl:gs.length=8)(ru:(gi gs 0).IW)(rp:(gi gs 0).IG = -1)(rn:(gi gs 0).name=⟨[].toArray⟩)(h:zrz gs 8):Yh gs:=by
 have par:∀g:Int,1<=g->g<8->(gi gs g).IW->Q6 gs (gi gs g).IG:=λg h1 h2 hu=>by
  have:=Qv.1 (h.each g h1 h2 hu).2.1;exact(zuu (f:=8) (n:=0) Qo (by show P7 9 gs g 0≠-1;omega)).2
 have hp:∀g:Int,g≠0->Q6 gs g->Q6 gs (gi gs g).IG:=λg hg hu=>by
  obtain⟨a,b,c⟩:=Q5.1 hu;exact par g Qo Qo c
 refine⟨hl,ru,rp,rn,λg h1 h2 hu=>(h.each g h1 h2 hu).1,par,λg h1 h2 hu=>?_,λg k h1 h2 h3 hu hk=>(h.each g Qo h3 hu).2.2 k h1 h2 hk⟩;have h9:=Qv.1 (h.each g h1 h2 hu).2.1;rw[FM hp 8 g 0 (Q5.2 ⟨Qo,Qo,hu⟩)] at h9
 split at h9
 ·omega
 ·rename_i hd;have:=GT gs 8 3 g Qo Qo;omega
def ztw{gs:List Zb}(h:Yh gs):zrz gs 8:=by
 have hp:∀g:Int,g≠0->Q6 gs g->Q6 gs (gi gs g).IG:=λg hg hu=>by
  obtain⟨a,b,c⟩:=Q5.1 hu;have:=h.len;exact h.par g Qo Qo c
 refine⟨λg h1 h2 hu=>⟨h.nm g h1 h2 hu,?_,λk h3 h4 hk=>h.uniq g k h3 h4 h2 hu hk⟩⟩;have hl:=h.len;rw[FM hp 8 g 0 (Q5.2 ⟨Qo,Qo,hu⟩)];have h3:=h.dp g h1 h2 hu;have hr:=Oh gs 3 g;have:=GT gs 3 8 g h3 Qo;rw[this,B' Qo];have hz:dep 3 gs g≠0:=λe=>by have:=zxa e;omega
 exact Qv.2 Qo
section
variable {gs:List Zb}{ms:Nat->MG}{o:OA}{c:Nat}{w:Wo}{bs:List Nat}
def G6.IW(h:G6 bs w o gs ms){i:Int}(h0:0<=i)(h1:i<(gs.length:Int)):Q1 bs w o (Int.toNat i*14+0) [.bool (gi gs i).IW]:=(h.cells i h0 h1).get 0 _ rfl
def G6.IG(h:G6 bs w o gs ms){i:Int}(h0:0<=i)(h1:i<(gs.length:Int)):Q1 bs w o (Int.toNat i*14+1) [I (gi gs i).IG]:=(h.cells i h0 h1).get 1 _ rfl
def G6.name(h:G6 bs w o gs ms){i:Int}(h0:0<=i)(h1:i<(gs.length:Int)):Q1 bs w o (Int.toNat i*14+2) [.string (gi gs i).name]:=(h.cells i h0 h1).get 2 _ rfl
def Xo{g:Int}(h:G6 bs w o gs ms):PX bs Yj #[.slice o gs.length c,I g] w (.bool (Q6 gs g)):=
 zh9 o gs.length c g λwr hx=>by
  have h:=(h.ext hx).less (cs:=[]) Qs;refine⟨λq=>?_,(gi gs g).IW,λq=>?_,rfl⟩
  ·have q:0<=g/\g<(gs.length:Int):=by simpa using q
   exact h.ix q.1 q.2
  ·have q:0<=g/\g<(gs.length:Int):=by simpa using q
   exact h.IW q.1 q.2
def Ms{g:Int}(h:G6 bs w o gs ms)(hl:gs.length<maxLen):PX bs JL #[.slice o gs.length c,I g] w (I (P7 (gs.length+1) gs g 0)):=
 zey o gs.length c g λwr hx=>by
  have h:=(h.ext hx).less (cs:=[]) Qs;refine P9 (gs.length+1) 0 rfl (λx k=>k<=gs.length+1/\P7 (gs.length+1-k) gs x k=P7 (gs.length+1) gs g 0) ⟨Qo,rfl⟩ λx k ⟨hk,he⟩=>⟨λIV=>?_,λRW=>?_⟩
  ·have IV:=Ot IV;have hf:gs.length+1-k=(gs.length-k)+1:=Qo;rw[hf,P7] at he;refine⟨_,Xo h,λhu=>?_,λhu=>?_⟩
   ·have hu:Q6 gs x=false:=by simpa using hu
    rw[C' hu] at he;rw[<-he]
   ·have hu:Q6 gs x:=by simpa using hu
    rw[B' (by simp[hu])] at he;obtain⟨u1,u2,u3⟩:=Q5.1 hu;refine⟨λhz=>?_,λhz=>?_⟩
    ·rw[C' (by simpa using hz)] at he;rw[<-he]
    ·rw[B' (by simpa using hz)] at he;have hm:=Xu;refine⟨h.ix u1 u2,_,h.IG u1 u2,⟨Qo,Qo⟩,QP Qo ⟨Qo,?_⟩⟩;rw[<-he,show gs.length+1-(k+1)=gs.length-k by omega];rfl
  ·have RW:=Ou RW;have:gs.length+1-k=0:=Qo;rw[this] at he;rw[<-he];rfl
def DI(h:G6 bs w o gs ms)(hl:gs.length<=maxLen):PX bs Tr #[.slice o gs.length c] w (.bool (Kc gs)):=
 zh5 o gs.length c λwr hx=>by
  have h:=(h.ext hx).less (cs:=[]) Qs;have l8:((((gs.length:Nat):Int) != 8)=false)->gs.length=8:=λq=>by have:=(bne_eq_false_iff_eq).1 q;omega
  have i0:∀q:(((gs.length:Nat):Int) != 8)=false,(0:Int)<(gs.length:Int):=λq=>by have:=l8 q;omega
  refine⟨λq=>h.ix (I2 _) (i0 q),(gi gs 0).IW,λq=>h.IW (I2 _) (i0 q),λq=>?_,(gi gs 0).IG,λq=>?_,λq=>?_,(gi gs 0).name,λq=>?_,λq=>?_,λq=>?_⟩
  ·simp only[H'] at q;exact h.ix (I2 _) (i0 q.1)
  ·simp only[H'] at q;exact h.IG (I2 _) (i0 q.1)
  ·simp only[H'] at q;exact h.ix (I2 _) (i0 q.1.1)
  ·simp only[H'] at q;exact h.name (I2 _) (i0 q.1.1)
  ·rw[Bh];intro ht;have e:((gs.length:Nat):Int)=8:=by have:=ht.len;omega
   rw[e,ht.ru,ht.rp,ht.rn,Bd] at q;simp at q
  ·simp only[H',I6,bne_eq_false_iff_eq,JS] at q;obtain⟨⟨⟨q1,ru⟩,rp⟩,rn⟩:=q;have hl8:gs.length=8:=Qo;refine YU 8 1 rfl (λk=>1<=k/\k<=8/\zrz gs k) ⟨I7 _,Qo,⟨λg h1 h2=>by omega⟩⟩ λk ⟨hk1,hk,hS⟩=>⟨λIV=>?_,λRW=>?_⟩
   ·have IV:=Ot IV;have eJ:(0:Int)<=(k:Int):=Qo
    have step:((gi gs (k:Int)).IW->Uw (gi gs (k:Int)).name/\YT (P7 9 gs (k:Int) 0) 1 3/\∀h:Int,1<=h->h<(k:Int)->(gi gs h).IW->¬((gi gs h).IG=(gi gs (k:Int)).IG/\(gi gs h).name=(gi gs (k:Int)).name))->zrz gs ((k+1:Nat):Int):=λvM=>⟨λg h1 h2 hu=>by
     by_cases hgk:g<(k:Int)
     ·exact hS.each g h1 hgk hu
     ·have:g=(k:Int):=Qo;subst this;exact vM hu⟩
    refine⟨h.ix eJ IV,_,h.IW eJ IV,λhu=>⟨⟨Qo,Qo⟩,Qy Qo ⟨Qo,Qo,step λhu'=>by rw[hu'] at hu;cases hu⟩⟩,λhu=>?_⟩;have hu:(gi gs (k:Int)).IW:=by simpa using hu
    refine⟨h.ix eJ IV,_,h.name eJ IV,_,DH,P7 9 gs (k:Int) 0,λ_=>?_,YT (P7 9 gs (k:Int) 0) 1 3,λ_=>Qt,λq=>?_,λq=>?_⟩
    ·have:=Ms (c:=c) (g:=(k:Int)) h (by rw[hl8];simp[maxLen])
     rwa[hl8] at this ⊢
    ·rw[Bh];intro ht;have:=(ztw ht).each (k:Int) Qo Qo hu;rw[this.1,this.2.1] at q;cases q
    ·simp only[H',I6] at q;refine YU k 1 rfl (λj=>1<=j/\j<=k/\∀h:Int,1<=h->h<(j:Int)->(gi gs h).IW->¬((gi gs h).IG=(gi gs (k:Int)).IG/\(gi gs h).name=(gi gs (k:Int)).name)) ⟨I7 _,hk1,λg h1 h2=>by omega⟩ λj ⟨hj1,jD,hJ⟩=>⟨λRe=>?_,λbK=>?_⟩
     ·have Re:=Ot Re;have hj0:(0:Int)<=(j:Int):=Qo;have hjl:(j:Int)<(gs.length:Int):=Qo;refine⟨h.ix hj0 hjl,_,h.IW hj0 hjl,λ_=>h.ix hj0 hjl,_,λ_=>h.IG hj0 hjl,λ_=>h.ix eJ IV,_,λ_=>h.IG eJ IV,λ_=>h.ix hj0 hjl,_,λ_=>h.name hj0 hjl,λ_=>h.ix eJ IV,_,λ_=>h.name eJ IV,λhs=>?_,λhs=>⟨⟨Qo,Qo⟩,Qy Qo ⟨Qo,Qo,λg h1 h2 hg=>?_⟩⟩⟩
      ·rw[Bh];intro ht;simp only[A',Is,JS] at hs;exact ht.uniq (k:Int) (j:Int) Qo Re Qo hu hs.1.1 ⟨hs.1.2,hs.2⟩
      ·by_cases hgj:g<(j:Int)
       ·exact hJ g h1 hgj hg
       ·have:g=(j:Int):=Qo;subst this;rintro⟨e1,e2⟩;rw[hg,e1,e2,Bd] at hs;simp at hs
     ·have bK:=Ou bK;have:j=k:=Qo;subst this;exact⟨⟨Qo,Qo⟩,Qy Qo ⟨Qo,Qo,step λ_=>⟨q.1,q.2,hJ⟩⟩⟩
   ·have RW:=Ou RW;have:k=8:=Qo;subst this;rw[T1.2 (zvv hl8 ru rp rn hS)]
def TY:Nat->List Zb->Int->Int->Bool
 |0,_,g,h=>h==g
 |f+1,gs,g,h=>h==g||(h != 0&&TY f gs g (gi gs h).IG)
noncomputable def PA(gs:List Zb)(g h:Int):Bool:=Kc gs&&Q6 gs g&&Q6 gs h&&TY 3 gs g h
def Y3{gs:List Zb}(ht:Yh gs){h:Int}(hu:Q6 gs h)(hz:h≠0):Q6 gs (gi gs h).IG/\0<=h/\h<(gs.length:Int)/\∃d:Nat,dep 3 gs h=(d:Int)+1/\dep 3 gs (gi gs h).IG=(d:Int)/\d<3:=by
 obtain⟨a,b,u⟩:=Q5.1 hu;have hl:=ht.len;have h1:1<=h:=Qo;have hd:=ht.dp h h1 Qo u;refine⟨ht.par h h1 Qo u,a,b,?_⟩;have hr:=Oh gs 2 (gi gs h).IG;have e:dep 3 gs h=if dep 2 gs (gi gs h).IG<0 then -1 else dep 2 gs (gi gs h).IG+1:=by simp only[dep,B' hz]
 rw[e] at hd ⊢
 split at hd
 ·omega
 ·rename_i hn;rw[B' hn];have:=GT gs 2 3 (gi gs h).IG Qo Qo;exact⟨(dep 2 gs (gi gs h).IG).toNat,Qo,Qo,Qo⟩
def zun{gs:List Zb}(ht:Yh gs)(g:Int):∀(f f':Nat) (h:Int),Q6 gs h->dep 3 gs h<=f->dep 3 gs h<=f'->TY f gs g h=TY f' gs g h:=by
 intro f
 induction f with
 |zero=>
  intro f' h hu h1 h2
  have hz:h=0:=Iq λhz=>by
   obtain⟨_,_,_,d,e,_⟩:=Y3 ht hu hz;omega
  subst hz
  cases f' <;> simp[TY]
 |succ f ih=>
  intro f' h hu h1 h2
  by_cases hz:h=0
  ·subst hz
   cases f' <;> simp[TY]
  ·obtain⟨hp,_,_,d,e,e2,_⟩:=Y3 ht hu hz
   cases f' with
   |zero=>omega
   |succ f'=>
    simp only[TY];rw[ih f' (gi gs h).IG hp Qo Qo]
def ziz{gs:List Zb}(ht:Yh gs){g h:Int}(hu:Q6 gs h)(hz:h≠0)(hg:h≠g):TY 3 gs g h=TY 3 gs g (gi gs h).IG:=by
 obtain⟨hp,_,_,d,e,e2,hd⟩:=Y3 ht hu hz;rw[<-zun ht g 2 3 (gi gs h).IG hp Qo Qo];have e3:TY 3 gs g h=(h==g||(h != 0&&TY 2 gs g (gi gs h).IG)):=rfl;rw[e3];have e4:(h==g)=false:=by simpa using hg
 have e5:(h != 0):=by simpa using hz
 rw[e4,e5,Bool.false_or,Bool.true_and]
def OI{g h:Int}(hr:G6 bs w o gs ms)(hl:gs.length<=maxLen):PX bs J0 #[.slice o gs.length c,I g,I h] w (.bool (PA gs g h)):=
 NP o gs.length c g h λwr hx=>by
  have hr:=(hr.ext hx).less (cs:=[]) Qs;refine⟨_,DI hr hl,_,λ_=>Xo hr,_,λ_=>Xo hr,λq=>?_,λq=>?_⟩
  ·have:PA gs g h=false:=by
    unfold PA
    cases h1:Kc gs <;> cases h2:Q6 gs g <;> cases h3:Q6 gs h <;> simp_all
   rw[this]
  ·simp only[H',I6] at q;obtain⟨⟨q1,q2⟩,q3⟩:=q;have ht:=T1.1 q1;have hU:PA gs g h=TY 3 gs g h:=by unfold PA;rw[q1,q2,q3];rfl
   refine⟨λvs=>∃x:Int,vs=[I x]/\Q6 gs x/\TY 3 gs g x=TY 3 gs g h,λvs=>(dep 3 gs (Y4 0 vs)).toNat,⟨h,rfl,q3,rfl⟩,?_⟩;rintro x ⟨x',he,hu,hI⟩;simp only[I4,I5,true_and,and_true] at he;subst he;refine⟨λeO=>⟨λhz=>?_,λhz=>?_⟩,λheq=>?_⟩
   ·have hz:x=0:=by simpa using hz
    subst hz
    have:TY 3 gs g 0=false:=by
     have:¬(0=g):=by simpa using eO
     simp[TY,this]
    rw[hU,<-hI,this]
   ·have hz:x≠0:=by simpa using hz
    have eO:x≠g:=by simpa using eO
    obtain⟨hp,a,b,d,e,e2,hd⟩:=Y3 ht hu hz;refine⟨hr.ix a b,_,hr.IG a b,⟨_,rfl,hp,by rw[<-ziz ht hu hz eO];exact hI⟩,?_⟩;show (dep 3 gs (gi gs x).IG).toNat<(dep 3 gs x).toNat;omega
   ·have heq:x=g:=by simpa using heq
    subst heq;rw[hU,<-hI];simp[TY]
end
def zui{s:ByteArray}{i:Nat}(h:i<s.size):((s.get! i).toNat:Int)=Ua s (i:Int):=by
 have hi:i<s.data.size:=h;unfold Ua;rw[Ig];simp[ByteArray.get!,getElem!_pos s.data i hi,Array.getD,h]
def zis{s:ByteArray}{i:Nat}(h:(s.get! i).toNat<128):Utf8.decode s i=((s.get! i).toNat,1):=by
 simp only[Utf8.decode,Nat.add_zero];rw[C' h]
def zt9{s:ByteArray}{i:Nat}(h:¬(s.get! i).toNat<128):128<=(Utf8.decode s i).1/\1<=(Utf8.decode s i).2:=by
 simp only[Utf8.decode,Nat.add_zero,Utf8.runeError];rw[B' h];split
 ·split
  ·rename_i h1;exact⟨h1,by show 1<=2;omega⟩
  ·exact⟨Qd,Qd⟩
 ·split
  ·split
   ·rename_i h1;simp only[ge_iff_le,A',Ij] at h1;exact⟨by show 128<=_;omega,by show 1<=3;omega⟩
   ·exact⟨Qd,Qd⟩
  ·split
   ·split
    ·rename_i h1;simp only[ge_iff_le,A',Ij] at h1;exact⟨by show 128<=_;omega,by show 1<=4;omega⟩
    ·exact⟨Qd,Qd⟩
   ·exact⟨Qd,Qd⟩
def zuq(w:Wo)(b:Nat)(s:ByteArray)(p:Nat):Q0 [b] w (Mo w b s p):=
 ⟨rfl,rfl,rfl,by simp[Mo],λk _ hk=>by
  have:b≠k:=λe=>hk (by simp[e])
  simp only[Mo];rw[Array.getElem?_setIfInBounds_ne this]⟩
def zx5{w:Wo}{b:Nat}{s:ByteArray}{p:Nat}(h:b<w.heap.size):(Mo w b s p).heap[b]? = some (.stringIter s p):=by
 simp[Mo,h]
def z3a(b:Nat)(w:Wo):Nat:=match w.heap[b]? with
 |some (.stringIter s p)=>s.size+1-p
 |_=>0
def znm{s:ByteArray}(h1:Zy s (⟨[119,101,105,103,104,116].toArray⟩)=false)(h2:Zy s (⟨[109,97,120].toArray⟩)=false)(h3:Zy s (⟨[99,112,117,115].toArray⟩)=false)(h4:Zy s (⟨[112,114,111,99,115].toArray⟩)=false)(h5:Zy s (⟨[115,116,97,116].toArray⟩)=false):K4 s=false:=by
 unfold K4;rw[h1,h2,h3,h4,h5];rfl
def Pa{s:ByteArray}(h:K4 s):Uw s=false:=KZ λ⟨_,h2,_⟩=>by rw[h] at h2;cases h2
def zha{s:ByteArray}{w:Wo}{bs:List Nat}:PX bs M8 #[.string s] w (.bool (Uw s)):=by
 refine L7 λwr hx=>zgz s (R:=λv w'=>v=.bool (Uw s)/\Q0 [] wr w') ?_
 refine⟨λh=>?_,λh1=>⟨λh=>?_,λh2=>⟨λh=>?_,λh3=>⟨λh=>?_,λh4=>⟨λh=>?_,λh5=>?_⟩⟩⟩⟩⟩
 ·intro w1 Sn;rw[Pa (by unfold K4;rw[h];rfl)];exact⟨rfl,Sn⟩
 ·intro w1 Sn;rw[Pa (by unfold K4;rw[h];simp)];exact⟨rfl,Sn⟩
 ·intro w1 Sn;rw[Pa (by unfold K4;rw[h];simp)];exact⟨rfl,Sn⟩
 ·intro w1 Sn;rw[Pa (by unfold K4;rw[h];simp)];exact⟨rfl,Sn⟩
 ·intro w1 Sn;rw[Pa (by unfold K4;rw[h];simp)];exact⟨rfl,Sn⟩
 ·have hf:=znm h1 h2 h3 h4 h5;refine⟨_,QK,λh=>?_,λh=>?_⟩
  ·intro w1 Sn;have h:YT (s.size:Int) 1 8=false:=by simpa using h
   have h:=z20.1 h;rw[KZ λ⟨h6,_⟩=>h Qo];exact⟨rfl,Sn⟩
  ·have h:YT (s.size:Int) 1 8:=by simpa using h
   have h:=Qv.1 h;intro w1 Sn _;refine⟨some ⟨w1.heap.size,0,none⟩,w1.alloc (.stringIter s 0),by simp[Instr.range,run_underlying zfs],Xj,?_⟩;have hb0:(w1.alloc (.stringIter s 0)).heap[w1.heap.size]? = some (.stringIter s 0):=Array.getElem?_push_size ..;have hX0:Q0 [] wr (w1.alloc (.stringIter s 0)):=Sn.trans (Z9 w1 _);have hbr:wr.heap.size<=w1.heap.size:=Sn.size;generalize w1.heap.size=b at hb0 hbr;generalize w1.alloc (.stringIter s 0)=w2 at hb0 hX0;refine⟨λvs w'=>vs=[]/\Q0 [] wr w'/\∃p:Nat,p<=s.size/\w'.heap[b]? = some (.stringIter s p)/\∀j:Nat,j<p->z0e (Ua s (j:Int)),λ_ w'=>z3a b w',λw3 Rl _=>⟨rfl,hX0.trans Rl,0,Ic _,QR hb0 Rl Qs,λj hj=>Ir hj (Nat.not_lt_zero j)⟩,?_⟩;intro w3 _ ⟨_,hX,p,hp,hb,hI⟩ w4 W8 _;have hb4:=QR hb W8 Qs;refine⟨b,s,p,rfl,Qs,hb4,λRW=>⟨(by intro q;cases q),λ_ w5 Sx=>?_⟩,λIV=>⟨λ_=>?_,by intro q;cases q⟩⟩
   ·have:p=s.size:=Qo;subst this;rw[LH.2 ⟨⟨Qo,Qo⟩,hf,hI⟩];exact⟨rfl,(hX.trans W8).trans Sx⟩
   ·have hX5:Q0 [] wr (Mo w4 b s (p+(Utf8.decode s p).2)):=(hX.trans W8).fresh (zuq w4 b s _) λx hm=>.inl (by rw[IA.1 hm];exact hbr)
    have hg:=zui IV;refine⟨λrF=>?_,λAY6=>?_⟩
    ·intro w5 Sx
     have DA0:Uw s=false:=KZ λ⟨_,_,h3⟩=>by
      have h3:=h3 p IV
      by_cases hlo:(s.get! p).toNat<128
      ·rw[zis hlo] at rF;simp only[hg] at rF;unfold z0e at h3;rw[h3] at rF;cases rF
      ·unfold z0e at h3;simp only[Iu,A',Ij] at h3;omega
     rw[DA0];exact⟨rfl,hX5.trans Sx⟩
    ·intro w5 Sx _
     by_cases hlo:(s.get! p).toNat<128
     ·rw[zis hlo] at AY6 hX5 Sx;simp only[hg] at AY6;have hat:=QR (zx5 (s:=s) (p:=p+1) (UX hb4)) Sx Qs;refine⟨⟨rfl,hX5.trans Sx,p+1,Qo,hat,λj hj=>?_⟩,?_⟩
      ·by_cases hjp:j<p
       ·exact hI j hjp
       ·have:j=p:=Qo;subst this;unfold z0e;rw[I6] at AY6;exact AY6
      ·simp only[z3a,hat,hb];omega
     ·exfalso
      have:=zt9 hlo;rw[I6] at AY6;simp only[Iu,A',Ij] at AY6;omega
end Go.Proofs.YtjinkcmkgnofjaaGreatDoor
