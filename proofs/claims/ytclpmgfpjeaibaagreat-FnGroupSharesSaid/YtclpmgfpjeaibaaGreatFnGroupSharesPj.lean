/- Part 10 of what the law FnGroupShares needs: the engine, the functions' propositions, the contracts. -/
import Derived.Test.YtclpmgfpjeaibaaGreatFnGroupSharesPi
namespace Go.Proofs.YtclpmgfpjeaibaaGreat
open Go.RowKit
set_option linter.unusedVariables false
set_option maxRecDepth 100000
set_option maxHeartbeats 1600000
def MO (K:OA) (B J:Nat) (w:World) (R:RT):= ((decide ((B:Int)>1048576))=true->(AR [] w R (.bool true)))/\((decide ((B:Int)>1048576))=false->(AY [] w fun E =>  Cz XN #[S K B J] E fun G k=>(∃n m g l p r q c b o a H,G = .returned (.tuple #[.agg #[I n,S m g l,S p r q,S c b o],I a,I H])/\Q9 [] E k/\(∀e,k.heap.size<=e->(∃s,PX [] ZO #[.agg #[I n,S m g l,S p r q,S c b o]] k (.bool s)/\((((!s)||(decide (a<1)))||(decide (a>=(b:Int))))=false->Ix c b a)/\(∃z,((((!s)||(decide (a<1)))||(decide (a>=(b:Int))))=false->Q2 [] k c (Int.toNat a*14+0) [.bool z])/\(((((!s)||(decide (a<1)))||(decide (a>=(b:Int))))||(!z))=true->(∃D,PX [] XM #[.agg #[I n,S m g l,S p r q,S c b o],I a,I 0] k (I D)/\(AR [] k R (.bool (D==0)))))/\(((((!s)||(decide (a<1)))||(decide (a>=(b:Int))))||(!z))=false->(∃(x:List Value->World->Prop) (C:List Value->World->Nat),(AX [] [e] k fun L=>x [I 0,I 0,I 0] L)/\∀(j i h:Int) f,(∀bq∈[e],bq<f.heap.size)->x [I j,I i,I h] f->((decide (h<(g:Int)))=true->(∃d,PX [e] XM #[.agg #[I n,S m g l,S p r q,S c b o],I a,I h] f (I d)/\(∃t,PX [e] UA #[.agg #[I n,S m g l,S p r q,S c b o],I a,I h] f (I t)/\(((d != t)||(decide (d<1)))=false->Ix c b a)/\(∃v,(((d != t)||(decide (d<1)))=false->Q2 [e] f c (Int.toNat a*14+3) [I v])/\((((d != t)||(decide (d<1)))||(decide (d>v)))=true->(AR [e] f R (.bool false)))/\((((d != t)||(decide (d<1)))||(decide (d>v)))=false->Ql .i64 (j+d)/\(∃u,PX [e] JU #[.agg #[I n,S m g l,S p r q,S c b o],I a,I h] f (I u)/\Ql .i64 (i+u)/\Ql .i64 (h+1)/\(AY [e] f fun F=>x [I (j+d),I (i+u),I (h+1)] F/\C [I (j+d),I (i+u),I (h+1)] F<C [I j,I i,I h] f)))))))/\((decide (h<(g:Int)))=false->((i==0)=true->Ix c b a/\(∃y,Q2 [e] f c (Int.toNat a*14+3) [I y]/\Ql .i64 (y*(g:Int))/\(AR [e] f R (.bool (j==(y*(g:Int)))))))/\((i==0)=false->Ix c b a/\(∃A,Q2 [e] f c (Int.toNat a*14+3) [I A]/\Ql .i64 (A+(g:Int))/\(AR [e] f R (.bool (decide (j<=A+(g:Int))))))))))))))))
theorem MY (codeO codeL codeC):JO (MO codeO codeL codeC) VD #[.slice codeO codeL codeC]:=eV [] false [(9,⟨[(6,.int .i64),(7,.int .i64),(8,.int .i64)],[],[3,4],[],[]⟩)] Tryz.func5 (by kernel_rfl) (by kernel_rfl)
def Dc (i:OA) (y:Int) (w:World) (R:RT):= (∀b,w.heap.size<=b->i.isSome=true/\(∃z p x,Q2 [] w i (0+2) [S z p x]/\(∃(j:List Value->World->Prop) (h:List Value->World->Nat),(AX [] [b] w fun v=>j [S none 0 0,I 0] v)/\∀(e:OA) (d f:Nat) (a:Int) c,(∀bq∈[b],bq<c.heap.size)->j [S e d f,I a] c->((decide (a<(p:Int)))=true->(∃k,PX [b] Xs #[.agg #[.pointer i,I y],I a] c (.bool k)/\(k=true->(∃t,PX [b] Xd #[.pointer i,I a] c (I t)/\(∀g,c.heap.size<=g->(AX [b] [b,g] c fun o=>o.heap[g]? = some (Obj.cells ([I t]:List Value).toArray Qc (0,0))->(∃l n m,∃q,(builtin .append #[QP,QP] QP #[false,false] #[S e d f,S (some (Addr.mk g 0 none)) 1 1]).run Tryz.prog o = .ok (.value (S l n m)) q/\Q9 [b,g] o q/\Ql .i64 (a+1)/\(AY [b,g] q fun s=>j [S l n m,I (a+1)] s/\h [S l n m,I (a+1)] s<h [S e d f,I a] c))))))/\(k=false->Ql .i64 (a+1)/\(AY [b] c fun u=>j [S e d f,I (a+1)] u/\h [S e d f,I (a+1)] u<h [S e d f,I a] c))))/\((decide (a<(p:Int)))=false->(∃r,PX [b] U3 #[S e d f] c (I r)/\(AR [b] c R (I r)))))))
theorem Dz (p0 p1):JO (Dc p0 p1) V2 #[.agg #[.pointer p0,.int .i64 p1]]:=eV [] false [(3,⟨[(3,.slice),(11,.int .i64)],[],[1,10],[],[]⟩)] Tryz.func66 (by kernel_rfl) (by kernel_rfl)
def BM (y:Int) (v:OA) (u s:Nat) (C:OA) (t x:Nat) (B:OA) (z A:Nat) (p:Int) (w:World) (R:RT):= (∀b a,Q0 [] w a->w.heap.size<=b->a.heap[b]? = some (Obj.cells ([I y,S v u s,S C t x,S B z A]:List Value).toArray Q4 (0,0))->b∉([]:List Nat)->(∃r m o n q e l k f i,Q2 [] a (some (Addr.mk b 0 none)) 0 [I r,S m o n,S q e l,S k f i]/\(∃c,PX [] XX #[.agg #[I r,S m o n,S q e l,S k f i]] a (.bool c)/\(∃d,((!c)=false->PX [] ZY #[.pointer ((some (Addr.mk b 0 none)).map (·.add 0)),I p] a (.bool d))/\(((!c)||(!d))=true->(AR [] a R (I 0)))/\(((!c)||(!d))=false->(∃h g,PX [] Zc #[.pointer ((some (Addr.mk b 0 none)).map (·.add 0)),I p] a (.agg #[.pointer h,I g])/\(∃j,PX [] V2 #[.agg #[.pointer h,I g]] a (I j)/\(AR [] a R (I j)))))))))
theorem Ni (w0 w1O w1L w1C w2O w2L w2C w3O w3L w3C cpu):JO (BM w0 w1O w1L w1C w2O w2L w2C w3O w3L w3C cpu) Mg #[.agg #[.int .i64 w0,.slice w1O w1L w1C,.slice w2O w2L w2C,.slice w3O w3L w3C],.int .i64 cpu]:=eV [2] false [] Tryz.func27 (by kernel_rfl) (by kernel_rfl)
set_option linter.unusedSimpArgs false
set_option maxRecDepth 10000
theorem VL:zlv Tryz.prog Ps 5 Yq 40 (⟨0,false,0,0,0⟩:Mu):=G4 (by kernel_rfl) fun _=>rfl
theorem Ms:Tryz.prog.underlying ZC=some (.slice Yq):=by kernel_rfl
def Z3 (b:Jk) (m:MG):List Value:=[.int .i64 b.quota,.int .i64 b.pool,.int .i64 b.spent,.slice m.lO b.locals.length m.lC,.slice m.dO b.dry.length m.dC]
theorem JM {a b:ByteArray}:Zo a b=true↔a=b:=by
 unfold Zo;rw [beq_iff_eq];constructor
 ·intro h
  have h1:∀x:ByteArray,x.toList=x.data.toList:=fun x=>by
   have key:∀(n i:Nat) (r:List UInt8),n=x.size - i->ByteArray.toList.loop x i r=r.reverse++x.data.toList.drop i:=by
    intro n
    induction n with
    | zero=>
     intro i r hn;unfold ByteArray.toList.loop;rw [if_neg (by omega),List.drop_eq_nil_iff.2 (by simp only [Array.length_toList]; show x.size<=i; omega),List.append_nil]
    | succ n ih=>
     intro i r hn;unfold ByteArray.toList.loop;have hi:i<x.data.toList.length:=by simp only [Array.length_toList]; show i<x.size; omega
     rw [if_pos (by omega),ih (i+1) _ (by omega),List.reverse_cons,List.append_assoc,List.singleton_append,List.drop_eq_getElem_cons hi]
     have:x.get! i=x.data.toList[i]:=by
      have hi':i<x.data.size:=by simpa using hi
      simp [ByteArray.get!,getElem!_pos x.data i hi']
     rw [this]
   have:=key _ 0 [] rfl
   simpa [ByteArray.toList] using this
  rw [h1,h1] at h
  cases a; cases b
  simp only at h
  congr 1
  exact Array.ext' h
 ·rintro rfl; rfl
theorem HX (a b:ByteArray):Zo a b=decide (a=b):=by
 cases h:Zo a b with
 | true=>rw [decide_eq_true (JM.1 h)]
 | false=>rw [decide_eq_false fun e=>by rw [JM.2 e] at h; cases h]
def Od (p:ZD×MG):List Value:=Yr p.1 p.2
def Tt:ZD×MG:=(⟨false,0,ByteArray.empty,0,0,0,0,0,⟨0,0,0,[],[]⟩,[]⟩,⟨none,0,none,0,none,0⟩)
theorem YP:zlv Tryz.prog Od 14 QN 168 Tt:=G4 (by kernel_rfl) fun _=>rfl
theorem Mr:Tryz.prog.underlying QT=some (.slice QN):=by kernel_rfl
def Qr (m:MG):List Nat:=Qw m.lO++Qw m.dO++Qw m.sO
structure PV (base:Nat) (w:World) (p:ZD×MG):Prop where
 loc:JC XG 1 Qc base w p.2.lO p.2.lC p.1.band.locals
 dry:JC MA 1 YF base w p.2.dO p.2.dC p.1.band.dry
 shl:JC Ps 5 Yq base w p.2.sO p.2.sC p.1.shelves
theorem PV.ext {base:Nat} {w w':World} {p:ZD×MG} {bs:List Nat} (h:PV base w p) (hx:Q0 bs w w') (hd:∀b∈Qr p.2,b∉bs):PV base w' p:=
 ⟨h.loc.ext hx fun b hb=>hd b (by simp [Qr,hb]),h.dry.ext hx fun b hb=>hd b (by simp [Qr,hb]),h.shl.ext hx fun b hb=>hd b (by simp [Qr,hb])⟩
theorem PV.mono {base base':Nat} {w:World} {p:ZD×MG} (h:PV base w p) (hb:base'<=base):PV base' w p:=⟨h.loc.mono hb,h.dry.mono hb,h.shl.mono hb⟩
theorem PV.lt {base:Nat} {w:World} {p:ZD×MG} (h:PV base w p):∀b∈Qr p.2,base<=b/\b<w.heap.size:=by
 intro b hb;simp only [Qr,List.mem_append] at hb;rcases hb with (hb | hb) | hb
 ·exact h.loc.lt b hb
 ·exact h.dry.lt b hb
 ·exact h.shl.lt b hb
structure PU (base:Nat) (w:World) (o:OA) (cap:Nat) (ps:List (ZD×MG)):Prop where
 row:JC Od 14 QN base w o cap ps
 each:∀i:Int,0<=i->i<(ps.length:Int)->PV base w (gi ps i)
 dj:∀i j:Int,0<=i->i<(ps.length:Int)->0<=j->j<(ps.length:Int)->i≠j->∀b∈Qr (gi ps i).2,b∉Qr (gi ps j).2
theorem PU.mono {base base':Nat} {w:World} {o:OA} {cap:Nat} {ps:List (ZD×MG)} (h:PU base w o cap ps) (hb:base'<=base):PU base' w o cap ps:=
 ⟨h.row.mono hb,fun i a b=>(h.each i a b).mono hb,h.dj⟩
theorem XI {base:Nat} {w:World} {o:OA} {cap:Nat} {ps:List (ZD×MG)} (h:JC Od 14 QN base w o cap ps) {base':Nat} {p:ZD×MG} (hp:PV base' w p):∀b∈Qr p.2,b∉Qw o:=by
 intro b hb hx;simp only [Qr,List.mem_append] at hb;rcases hb with (hb | hb) | hb
 ·exact hp.loc.ty_ne h (by decide) b hb hx
 ·exact hp.dry.ty_ne h (by decide) b hb hx
 ·exact hp.shl.ty_ne h (by decide) b hb hx
theorem PU.put {base:Nat} {w:World} {o:OA} {cap:Nat} {ps:List (ZD×MG)} (h:PU base w o cap ps) {i:Int} (h0:0<=i) (hi:i<(ps.length:Int)) {p:ZD×MG} (hp:PV base w p)
  (hd:∀j:Int,0<=j->j<(ps.length:Int)->i≠j->∀b∈Qr (gi ps j).2,b∉Qr p.2):PU base (sto w o (Int.toNat i*14) (Od p)) o cap (ps.set i.toNat p):=by
 have hx:=h.row.stoX (Int.toNat i*14) (Od p);have hlen:(ps.set i.toNat p).length=ps.length:=List.length_set;refine ⟨?_,fun j hj hjl => ?_,fun j k hj hjl hk hkl hjk b hb hb' => ?_⟩
 ·have:=h.row.sto YP.len h0 hi (j:=0) (vs:=Od p) (x:=p) (by rw [List.take_zero,List.nil_append,List.drop_eq_nil_iff.2 (by rw [Nat.zero_add,YP.len,YP.len]; exact Nat.le_refl _),List.append_nil]) (by rw [Nat.zero_add,YP.len]; exact Nat.le_refl _);exact this
 ·rw [hlen] at hjl;rw [Qy _ _ h0 hi hj];split
  ·exact hp.ext hx (XI h.row hp)
  ·exact (h.each j hj hjl).ext hx (XI h.row (h.each j hj hjl))
 ·rw [hlen] at hjl hkl;rw [Qy _ _ h0 hi hj] at hb;rw [Qy _ _ h0 hi hk] at hb'
  by_cases e1:i=j
  ·rw [if_pos e1] at hb
   by_cases e2:i=k
   ·omega
   ·rw [if_neg e2] at hb';exact hd k hk hkl e2 b hb' hb
  ·rw [if_neg e1] at hb
   by_cases e2:i=k
   ·rw [if_pos e2] at hb';exact hd j hj hjl e1 b hb hb'
   ·rw [if_neg e2] at hb';exact h.dj j k hj hjl hk hkl hjk b hb hb'
theorem Jh {z:Int} (h1 : -9223372036854775808<=z) (h2:z<=9223372036854775807):Ql .i64 z:=⟨h1,h2⟩
def zbr (w:Int):Int:=Int.tdiv 232792560 w
def Yh (n a b:Int):Bool:=decide (n>=a)&&decide (n<=b)
theorem Qn {n a b:Int}:Yh n a b=true↔a<=n/\n<=b:=by simp [Yh]
theorem zrp {n a b:Int}:Yh n a b=false↔¬(a<=n/\n<=b):=by rw [<-Qn]; simp
def Z0 (n w:Int):Int:=if Yh n 0 100000000&&Yh w 1 20 then n*zbr w else 0
def Zn (w:Int):Int:=Z0 149 w
theorem zrb:∀k:Fin 20,zbr ((k.val:Int)+1)*((k.val:Int)+1)=232792560:=by decide
theorem zrc {w:Int} (h1:1<=w) (h2:w<=20):zbr w*w=232792560:=by
 have:=zrb ⟨(w - 1).toNat,by omega⟩;have e:(((w - 1).toNat:Nat):Int)+1=w:=by omega
 simp only [e] at this;exact this
theorem AM {w:Int} (h1:1<=w) (h2:w<=20):11639628<=zbr w/\zbr w<=232792560:=by
 have h:=zrc h1 h2
 have hp:0<=zbr w:=by
  rcases Int.lt_or_le (zbr w) 0 with hn | hn
  ·have:=Int.mul_neg_of_neg_of_pos hn (show 0<w by omega);omega
  ·exact hn
 constructor
 ·have:=Int.mul_le_mul_of_nonneg_left h2 hp;omega
 ·have:=Int.mul_le_mul_of_nonneg_left h1 hp;omega
theorem Ts {n w:Int} (h1:0<=n) (h2:n<=100000000) (h3:1<=w) (h4:w<=20):Z0 n w=n*zbr w:=by
 unfold Z0;rw [if_pos];rw [Bool.and_eq_true,Qn,Qn]; exact ⟨⟨h1,h2⟩,h3,h4⟩
theorem KT {n w:Int} (h:¬(0<=n/\n<=100000000/\1<=w/\w<=20)):Z0 n w=0:=by
 unfold Z0;rw [if_neg];rw [Bool.and_eq_true,Qn,Qn]; omega
theorem zdl {n w:Int} (h1:0<=n) (h2:n<=100000000) (h3:1<=w) (h4:w<=20):0<=n*zbr w/\n*zbr w<=23279256000000000:=by
 have hs:=AM h3 h4;refine ⟨Int.mul_nonneg h1 (by omega),?_⟩
 calc n*zbr w<=100000000*zbr w:=Int.mul_le_mul_of_nonneg_right h2 (by omega)
  _<=100000000*232792560:=Int.mul_le_mul_of_nonneg_left hs.2 (by decide)
  _=23279256000000000:=rfl
theorem Ku (n w:Int):0<=Z0 n w/\Z0 n w<=23279256000000000:=by
 by_cases h:0<=n/\n<=100000000/\1<=w/\w<=20
 ·rw [Ts h.1 h.2.1 h.2.2.1 h.2.2.2]; exact zdl h.1 h.2.1 h.2.2.1 h.2.2.2
 ·rw [KT h]; omega
theorem QC {n a b:Int} {w:World} {bs:List Nat}:PX bs Qs #[.int .i64 n,.int .i64 a,.int .i64 b] w (.bool (Yh n a b)):=
 Ag n a b fun wr hx=>by unfold MN; rfl
theorem Qh {n a b:Int} {w:World} {bs:List Nat}:PX bs Qe #[.int .i64 n,.int .i64 a,.int .i64 b] w (.bool (Yh n a b)):=
 zfk n a b fun wr hx=>by unfold EH; rfl
theorem TK {n:Int} {w:World} {bs:List Nat}:PX bs Xx #[.int .i64 n] w (.bool (Yh n 1 20)):=
 Ba n fun wr hx=>⟨_,QC,rfl⟩
theorem J1 {n:Int} {w:World} {bs:List Nat}:PX bs Yb #[.int .i64 n] w (.bool (Yh n 1 20)):=
 Bh n fun wr hx=>⟨_,Qh,rfl⟩
theorem Lp {n:Int} {w:World} {bs:List Nat}:PX bs V3 #[.int .i64 n] w (.bool (Yh n (-10) 9)):=
 y9 n fun wr hx=>⟨_,QC,rfl⟩
def UV (k j:Nat):Int:=if j<=k then zbr (j:Int) else 0
def zu1 (k:Nat):List Value:=[.int .i64 ((k:Int)+1),.int .i64 0,.int .i64 (UV k 1),.int .i64 (UV k 2),.int .i64 (UV k 3),.int .i64 (UV k 4),.int .i64 (UV k 5),.int .i64 (UV k 6),.int .i64 (UV k 7),
 .int .i64 (UV k 8),.int .i64 (UV k 9),.int .i64 (UV k 10),.int .i64 (UV k 11),.int .i64 (UV k 12),.int .i64 (UV k 13),.int .i64 (UV k 14),.int .i64 (UV k 15),.int .i64 (UV k 16),.int .i64 (UV k 17),.int .i64 (UV k 18),.int .i64 (UV k 19),.int .i64 (UV k 20)]
theorem Gc {w:World} {bs:List Nat}:PX bs JX #[] w (.agg #[.int .i64 0,.int .i64 (UV 20 1),.int .i64 (UV 20 2),.int .i64 (UV 20 3),.int .i64 (UV 20 4),.int .i64 (UV 20 5),.int .i64 (UV 20 6),.int .i64 (UV 20 7),
 .int .i64 (UV 20 8),.int .i64 (UV 20 9),.int .i64 (UV 20 10),.int .i64 (UV 20 11),.int .i64 (UV 20 12),.int .i64 (UV 20 13),.int .i64 (UV 20 14),.int .i64 (UV 20 15),.int .i64 (UV 20 16),.int .i64 (UV 20 17),.int .i64 (UV 20 18),.int .i64 (UV 20 19),.int .i64 (UV 20 20)]):=
 Gn fun wr hx=>by
  intro _ _ _ _
  refine ⟨fun vs=>∃k:Nat,k<=20/\vs=zu1 k,fun vs=>match vs with
   | .int _ i::_=>(21 - i).toNat
   | _=>0,⟨0,by omega,rfl⟩,?_⟩
  rintro i l l1 l2 l3 l4 l5 l6 l7 l8 l9 l10 l11 l12 l13 l14 l15 l16 l17 l18 l19 l20 ⟨k,hk,he⟩;simp only [zu1,List.cons.injEq,Value.int.injEq,true_and,and_true] at he;obtain ⟨rfl,rfl,rfl,rfl,rfl,rfl,rfl,rfl,rfl,rfl,rfl,rfl,rfl,rfl,rfl,rfl,rfl,rfl,rfl,rfl,rfl,rfl⟩:=he;constructor
  ·intro h;have h:=of_decide_eq_true h;refine ⟨⟨by omega,?_⟩,⟨by omega,by omega⟩,by omega,?_⟩
   ·have:=AM (w:=(k:Int)+1) (by omega) (by omega);exact Jh (by unfold zbr at this; omega) (by unfold zbr at this; omega)
   ·refine ⟨_,_,_,_,_,_,_,_,_,_,_,_,_,_,_,_,_,_,_,_,_,?_,Jh (by omega) (by omega),⟨k+1,by omega,rfl⟩,?_⟩
    ·have:k=0\/k=1\/k=2\/k=3\/k=4\/k=5\/k=6\/k=7\/k=8\/k=9\/k=10\/k=11\/k=12\/k=13\/k=14\/k=15\/k=16\/k=17\/k=18\/k=19:=by omega
     rcases this with rfl | rfl | rfl | rfl | rfl | rfl | rfl | rfl | rfl | rfl | rfl | rfl | rfl | rfl | rfl | rfl | rfl | rfl | rfl | rfl <;> rfl
    ·show (21 - (((k:Int)+1)+1)).toNat<(21 - ((k:Int)+1)).toNat;omega
  ·intro h;have h:=of_decide_eq_false h;have hk:k=20:=by omega
   subst hk;rfl
theorem zs5 {k:Int} (h1:1<=k) (h2:k<=20):(#[.int .i64 0,.int .i64 (UV 20 1),.int .i64 (UV 20 2),.int .i64 (UV 20 3),.int .i64 (UV 20 4),.int .i64 (UV 20 5),.int .i64 (UV 20 6),.int .i64 (UV 20 7),
 .int .i64 (UV 20 8),.int .i64 (UV 20 9),.int .i64 (UV 20 10),.int .i64 (UV 20 11),.int .i64 (UV 20 12),.int .i64 (UV 20 13),.int .i64 (UV 20 14),.int .i64 (UV 20 15),.int .i64 (UV 20 16),.int .i64 (UV 20 17),.int .i64 (UV 20 18),.int .i64 (UV 20 19),.int .i64 (UV 20 20)]:Array Value)[Int.toNat k]? = some (.int .i64 (zbr k)):=by
 have:k=1\/k=2\/k=3\/k=4\/k=5\/k=6\/k=7\/k=8\/k=9\/k=10\/k=11\/k=12\/k=13\/k=14\/k=15\/k=16\/k=17\/k=18\/k=19\/k=20:=by omega
 rcases this with rfl | rfl | rfl | rfl | rfl | rfl | rfl | rfl | rfl | rfl | rfl | rfl | rfl | rfl | rfl | rfl | rfl | rfl | rfl | rfl <;> rfl
theorem UG {n k:Int} {w:World} {bs:List Nat}:PX bs YJ #[.int .i64 n,.int .i64 k] w (.int .i64 (Z0 n k)):=
 Gj n k fun wr hx=>by
  refine ⟨_,QC,_,fun _=>TK,fun h => ?_,fun h => ?_⟩
  ·congr 1; unfold Z0; rw [if_neg]; intro h2; simp only [Bool.and_eq_true] at h2; simp [h2] at h
  ·have h2:Yh n 0 100000000=true/\Yh k 1 20=true:=by simpa using h
   rw [Qn,Qn] at h2;have hm:=zdl h2.1.1 h2.1.2 h2.2.1 h2.2.2;refine ⟨_,_,_,_,_,_,_,_,_,_,_,_,_,_,_,_,_,_,_,_,_,Gc,zbr k,⟨by omega,by omega,zs5 h2.2.1 h2.2.2⟩,Jh (by omega) (by omega),?_⟩;rw [Ts h2.1.1 h2.1.2 h2.2.1 h2.2.2]
theorem NN {k:Int} {w:World} {bs:List Nat}:PX bs Tz #[.int .i64 k] w (.int .i64 (Zn k)):=
 Ad k fun wr hx=>⟨_,UG,rfl⟩
def OV (s:ByteArray):Bool:=(((((Zo s (⟨[119,101,105,103,104,116].toArray⟩))||(Zo s (⟨[109,97,120].toArray⟩)))||(Zo s (⟨[99,112,117,115].toArray⟩)))||(Zo s (⟨[112,114,111,99,115].toArray⟩)))||(Zo s (⟨[115,116,97,116].toArray⟩)))
def zo6 (x:Int):Bool:=(((decide (x>=97))&&(decide (x<=122)))||((decide (x>=48))&&(decide (x<=57))))
def Jy (s:ByteArray):Bool:=Yh (s.size:Int) 1 8 && !OV s&&(List.range s.size).all fun i=>zo6 (Jj s (i:Int))
theorem M6 {s:ByteArray}:Jy s=true↔(1<=s.size/\s.size<=8)/\OV s=false/\∀i:Nat,i<s.size->zo6 (Jj s (i:Int))=true:=by
 unfold Jy;simp only [Bool.and_eq_true,Qn,Bool.not_eq_true',List.all_eq_true,List.mem_range];constructor
 ·rintro ⟨⟨h1,h2⟩,h3⟩; exact ⟨⟨by omega,by omega⟩,h2,h3⟩
 ·rintro ⟨⟨h0,h1⟩,h2,h3⟩; exact ⟨⟨⟨by omega,by omega⟩,h2⟩,h3⟩
theorem PE {s:ByteArray} (h:¬((1<=s.size/\s.size<=8)/\OV s=false/\∀i:Nat,i<s.size->zo6 (Jj s (i:Int))=true)):Jy s=false:=by
 cases hn:Jy s with
 | false=>rfl
 | true=>exact absurd (M6.1 hn) h
theorem CW {s:ByteArray} {w:World} {bs:List Nat}:PX bs Ol #[.string s] w (.bool (OV s)):=
 zab s fun wr hx=>rfl
theorem Ls {s:ByteArray} {w:World} {bs:List Nat}:PX bs Vb #[.string s] w (.bool (Jy s)):=
 z7 s fun wr hx=>by
  refine ⟨_,Qh,OV s,fun _=>CW,fun h => ?_,fun h => ?_⟩
  ·rw [PE];rintro ⟨h1,h2,_⟩;rw [h2,Qn.2 (by omega)] at h;cases h
  ·have h:Yh (s.size:Int) 1 8=true/\OV s=false:=by simpa using h
   have h1:=Qn.1 h.1;refine Xh s.size 0 rfl (fun k=>k<=s.size/\∀j:Nat,j<k->zo6 (Jj s (j:Int))=true) ⟨Nat.zero_le _,fun j hj=>absurd hj (Nat.not_lt_zero j)⟩ fun k ⟨hk,hI⟩=>⟨fun hlt => ?_,fun hge => ?_⟩
   ·have hlt:=of_decide_eq_true hlt;have hr:0<=(k:Int)/\(k:Int)<(s.size:Int):=⟨by omega,hlt⟩;refine ⟨hr,fun _=>hr,fun _=>hr,fun _ _=>hr,fun hno => ?_,fun hyes=>⟨⟨by omega,by omega⟩,Qu (by omega) ⟨by omega,fun j hj => ?_⟩⟩⟩
    ·rw [PE];rintro ⟨_,_,h3⟩;have:=h3 k (by omega);unfold zo6 at this;rw [this] at hno;cases hno
    ·by_cases hjk:j<k
     ·exact hI j hjk
     ·have:j=k:=by omega
      subst this;unfold zo6;rw [Bool.not_eq_false'] at hyes;exact hyes
   ·have hge:=of_decide_eq_false hge;have hk:k=s.size:=by omega
    subst hk;rw [M6.2 ⟨⟨by omega,by omega⟩,h.2,hI⟩]
def Q6 (gs:List ZD) (g:Int):Bool:=(decide (g>=0)&&decide (g<(gs.length:Int)))&&(gi gs g).used
theorem Q5 {gs:List ZD} {g:Int}:Q6 gs g=true↔0<=g/\g<(gs.length:Int)/\(gi gs g).used=true:=by
 unfold Q6;simp [and_assoc]
def dep:Nat->List ZD->Int->Int
 | 0,_,g=>if g=0 then 0 else -1
 | f+1,gs,g=>if g=0 then 0 else if dep f gs (gi gs g).parent<0 then -1 else dep f gs (gi gs g).parent+1
def Tn:Nat->List ZD->Int->Int->Int
 | 0,_,_,_ => -1
 | f+1,gs,g,n=>if Q6 gs g=false then -1 else if g=0 then n else Tn f gs (gi gs g).parent (n+1)
theorem VK (gs:List ZD):∀(f:Nat) (g:Int),-1<=dep f gs g/\dep f gs g<=f
 | 0,g=>by simp only [dep]; split <;> omega
 | f+1,g=>by
  have:=VK gs f (gi gs g).parent;simp only [dep];split
  ·omega
  ·split <;> omega
theorem MV (gs:List ZD):∀(f f':Nat) (g:Int),0<=dep f gs g->dep f gs g<=f'->dep f' gs g=dep f gs g
 | 0,f',g,h,_=>by
  simp only [dep] at h ⊢
  split at h
  ·rename_i hg
   cases f' <;> simp [dep,hg]
  ·omega
 | f+1,f',g,h,hle=>by
  simp only [dep] at h hle ⊢
  by_cases hg:g=0
  ·rw [if_pos hg]
   cases f' <;> simp [dep,hg]
  ·rw [if_neg hg] at h hle ⊢
   by_cases hd:dep f gs (gi gs g).parent<0
   ·rw [if_pos hd] at h; omega
   ·rw [if_neg hd] at hle ⊢
    cases f' with
    | zero=>omega
    | succ f'=>
     have:=MV gs f f' (gi gs g).parent (by omega) (by omega);simp only [dep];rw [if_neg hg,this,if_neg hd]
theorem Y6 (gs:List ZD) (f:Nat):dep f gs 0=0:=by cases f <;> simp [dep]
theorem zmk {gs:List ZD} {f:Nat} {g:Int} (h:dep f gs g=0):g=0:=by
 cases f with
 | zero=>simp only [dep] at h; split at h <;> first | assumption | omega
 | succ f=>
  simp only [dep] at h
  split at h
  ·assumption
  ·split at h <;> omega
structure ZQ (gs:List ZD):Prop where
 len:gs.length=8
 ru:(gi gs 0).used=true
 rp:(gi gs 0).parent = -1
 rn:(gi gs 0).name=⟨[].toArray⟩
 nm:∀g:Int,1<=g->g<8->(gi gs g).used=true->Jy (gi gs g).name=true
 par:∀g:Int,1<=g->g<8->(gi gs g).used=true->Q6 gs (gi gs g).parent=true
 dp:∀g:Int,1<=g->g<8->(gi gs g).used=true->0<=dep 3 gs g
 uniq:∀g h:Int,1<=h->h<g->g<8->(gi gs g).used=true->(gi gs h).used=true->¬((gi gs h).parent=(gi gs g).parent/\(gi gs h).name=(gi gs g).name)
noncomputable def P1 (gs:List ZD):Bool := @decide (ZQ gs) (Classical.propDecidable _)
theorem UR {gs:List ZD}:P1 gs=true↔ZQ gs := @decide_eq_true_iff _ (Classical.propDecidable _)
theorem D0 {gs:List ZD} (h:¬ZQ gs):P1 gs=false:=by
 cases hb:P1 gs with
 | false=>rfl
 | true=>exact absurd (UR.1 hb) h
theorem HB {gs:List ZD} (hp:∀g:Int,g≠0->Q6 gs g=true->Q6 gs (gi gs g).parent=true):∀(f:Nat) (g n:Int),Q6 gs g=true->Tn (f+1) gs g n=if dep f gs g<0 then -1 else n+dep f gs g
 | 0,g,n,hu=>by
  simp only [Tn,dep,hu]
  by_cases hg:g=0 <;> simp [hg]
 | f+1,g,n,hu=>by
  rw [Tn];simp only [hu]
  by_cases hg:g=0
  ·simp [hg,dep]
  ·have ih:=HB hp f (gi gs g).parent (n+1) (hp g hg hu);have hr:=VK gs f (gi gs g).parent;simp only [dep,if_neg hg];rw [ih]
   by_cases hd:dep f gs (gi gs g).parent<0
   ·simp [hd]
   ·have h2:¬(dep f gs (gi gs g).parent+1<0):=by omega
    simp [hd,h2]; omega
theorem zkv {gs:List ZD} {f:Nat} {g n:Int} (hg:g≠0) (h:Tn (f+1) gs g n≠-1):f≠0/\Q6 gs (gi gs g).parent=true:=by
 rw [Tn] at h
 by_cases hu:Q6 gs g=false
 ·rw [if_pos hu] at h; exact absurd rfl h
 ·rw [if_neg hu,if_neg hg] at h
  cases f with
  | zero=>exact absurd rfl h
  | succ f=>
   rw [Tn] at h
   by_cases hp:Q6 gs (gi gs g).parent=false
   ·rw [if_pos hp] at h; exact absurd rfl h
   ·exact ⟨by omega,by simpa using hp⟩
structure zii (gs:List ZD) (k:Int):Prop where
 each:∀g:Int,1<=g->g<k->(gi gs g).used=true->Jy (gi gs g).name=true/\Yh (Tn 9 gs g 0) 1 3=true/\∀h:Int,1<=h->h<g->(gi gs h).used=true->¬((gi gs h).parent=(gi gs g).parent/\(gi gs h).name=(gi gs g).name)
theorem zlr {gs:List ZD} (hl:gs.length=8) (ru:(gi gs 0).used=true) (rp:(gi gs 0).parent = -1) (rn:(gi gs 0).name=⟨[].toArray⟩) (h:zii gs 8):ZQ gs:=by
 have par:∀g:Int,1<=g->g<8->(gi gs g).used=true->Q6 gs (gi gs g).parent=true:=fun g h1 h2 hu=>by
  have:=Qn.1 (h.each g h1 h2 hu).2.1;exact (zkv (f:=8) (n:=0) (by omega) (by show Tn 9 gs g 0≠-1; omega)).2
 have hp:∀g:Int,g≠0->Q6 gs g=true->Q6 gs (gi gs g).parent=true:=fun g hg hu=>by
  obtain ⟨a,b,c⟩:=Q5.1 hu;exact par g (by omega) (by omega) c
 refine ⟨hl,ru,rp,rn,fun g h1 h2 hu=>(h.each g h1 h2 hu).1,par,fun g h1 h2 hu => ?_,fun g k h1 h2 h3 hu hk=>(h.each g (by omega) h3 hu).2.2 k h1 h2 hk⟩;have h9:=Qn.1 (h.each g h1 h2 hu).2.1;rw [HB hp 8 g 0 (Q5.2 ⟨by omega,by omega,hu⟩)] at h9
 split at h9
 ·omega
 ·rename_i hd;have:=MV gs 8 3 g (by omega) (by omega);omega
theorem zj7 {gs:List ZD} (h:ZQ gs):zii gs 8:=by
 have hp:∀g:Int,g≠0->Q6 gs g=true->Q6 gs (gi gs g).parent=true:=fun g hg hu=>by
  obtain ⟨a,b,c⟩:=Q5.1 hu;have:=h.len;exact h.par g (by omega) (by omega) c
 refine ⟨fun g h1 h2 hu=>⟨h.nm g h1 h2 hu,?_,fun k h3 h4 hk=>h.uniq g k h3 h4 h2 hu hk⟩⟩;have hl:=h.len;rw [HB hp 8 g 0 (Q5.2 ⟨by omega,by omega,hu⟩)];have h3:=h.dp g h1 h2 hu;have hr:=VK gs 3 g;have:=MV gs 3 8 g h3 (by omega);rw [this,if_neg (by omega)];have hz:dep 3 gs g≠0:=fun e=>by have:=zmk e; omega
 exact Qn.2 (by omega)
section
variable {gs:List ZD} {ms:Nat->MG} {o:OA} {c:Nat} {w:World} {bs:List Nat}
theorem Mf.used (h:Mf bs w o gs ms) {i:Int} (h0:0<=i) (h1:i<(gs.length:Int)):Q2 bs w o (Int.toNat i*14+0) [.bool (gi gs i).used]:=(h.cells i h0 h1).get 0 _ rfl
theorem Mf.parent (h:Mf bs w o gs ms) {i:Int} (h0:0<=i) (h1:i<(gs.length:Int)):Q2 bs w o (Int.toNat i*14+1) [.int .i64 (gi gs i).parent]:=(h.cells i h0 h1).get 1 _ rfl
theorem Mf.name (h:Mf bs w o gs ms) {i:Int} (h0:0<=i) (h1:i<(gs.length:Int)):Q2 bs w o (Int.toNat i*14+2) [.string (gi gs i).name]:=(h.cells i h0 h1).get 2 _ rfl
theorem Yn {g:Int} (h:Mf bs w o gs ms):PX bs Zw #[.slice o gs.length c,.int .i64 g] w (.bool (Q6 gs g)):=
 zac o gs.length c g fun wr hx=>by
  have h:=(h.ext hx).less (cs:=[]) (by simp);refine ⟨fun q => ?_,(gi gs g).used,fun q => ?_,rfl⟩
  ·have q:0<=g/\g<(gs.length:Int):=by simpa using q
   exact h.ix q.1 q.2
  ·have q:0<=g/\g<(gs.length:Int):=by simpa using q
   exact h.used q.1 q.2
theorem OC {g:Int} (h:Mf bs w o gs ms) (hl:gs.length<maxLen):PX bs J0 #[.slice o gs.length c,.int .i64 g] w (.int .i64 (Tn (gs.length+1) gs g 0)):=
 Ao o gs.length c g fun wr hx=>by
  have h:=(h.ext hx).less (cs:=[]) (by simp);refine VE (gs.length+1) 0 rfl (fun x k=>k<=gs.length+1/\Tn (gs.length+1 - k) gs x k=Tn (gs.length+1) gs g 0) ⟨by omega,rfl⟩ fun x k ⟨hk,he⟩=>⟨fun hlt => ?_,fun hge => ?_⟩
  ·have hlt:=of_decide_eq_true hlt;have hf:gs.length+1 - k=(gs.length - k)+1:=by omega
   rw [hf,Tn] at he;refine ⟨_,Yn h,fun hu => ?_,fun hu => ?_⟩
   ·have hu:Q6 gs x=false:=by simpa using hu
    rw [if_pos hu] at he;rw [<-he]
   ·have hu:Q6 gs x=true:=by simpa using hu
    rw [if_neg (by simp [hu])] at he;obtain ⟨u1,u2,u3⟩:=Q5.1 hu;refine ⟨fun hz => ?_,fun hz => ?_⟩
    ·rw [if_pos (by simpa using hz)] at he;rw [<-he]
    ·rw [if_neg (by simpa using hz)] at he;have hm:=YW;refine ⟨h.ix u1 u2,_,h.parent u1 u2,⟨by omega,by omega⟩,Qv (by omega) ⟨by omega,?_⟩⟩;rw [<-he,show gs.length+1 - (k+1)=gs.length - k by omega];rfl
  ·have hge:=of_decide_eq_false hge;have:gs.length+1 - k=0:=by omega
   rw [this] at he;rw [<-he]; rfl
theorem Lu (h:Mf bs w o gs ms) (hl:gs.length<=maxLen):PX bs Vd #[.slice o gs.length c] w (.bool (P1 gs)):=
 z8 o gs.length c fun wr hx=>by
  have h:=(h.ext hx).less (cs:=[]) (by simp);have l8:((((gs.length:Nat):Int) != 8)=false)->gs.length=8:=fun q=>by have:=(bne_eq_false_iff_eq).1 q; omega
  have i0:∀q:(((gs.length:Nat):Int) != 8)=false,(0:Int)<(gs.length:Int):=fun q=>by have:=l8 q; omega
  refine ⟨fun q=>h.ix (Int.le_refl _) (i0 q),(gi gs 0).used,fun q=>h.used (Int.le_refl _) (i0 q),fun q => ?_,(gi gs 0).parent,fun q => ?_,fun q => ?_,(gi gs 0).name,fun q => ?_,fun q => ?_,fun q => ?_⟩
  ·simp only [Bool.or_eq_false_iff] at q; exact h.ix (Int.le_refl _) (i0 q.1)
  ·simp only [Bool.or_eq_false_iff] at q; exact h.parent (Int.le_refl _) (i0 q.1)
  ·simp only [Bool.or_eq_false_iff] at q; exact h.ix (Int.le_refl _) (i0 q.1.1)
  ·simp only [Bool.or_eq_false_iff] at q; exact h.name (Int.le_refl _) (i0 q.1.1)
  ·rw [D0];intro ht;have e:((gs.length:Nat):Int)=8:=by have:=ht.len; omega
   rw [e,ht.ru,ht.rp,ht.rn,HX] at q;simp at q
  ·simp only [Bool.or_eq_false_iff,Bool.not_eq_false',bne_eq_false_iff_eq,JM] at q;obtain ⟨⟨⟨q1,ru⟩,rp⟩,rn⟩:=q;have hl8:gs.length=8:=by omega
   refine Xh 8 1 rfl (fun k=>1<=k/\k<=8/\zii gs k) ⟨Nat.le_refl _,by omega,⟨fun g h1 h2=>by omega⟩⟩ fun k ⟨hk1,hk,hS⟩=>⟨fun hlt => ?_,fun hge => ?_⟩
   ·have hlt:=of_decide_eq_true hlt;have hk0:(0:Int)<=(k:Int):=by omega
    have step:((gi gs (k:Int)).used=true->Jy (gi gs (k:Int)).name=true/\Yh (Tn 9 gs (k:Int) 0) 1 3=true/\∀h:Int,1<=h->h<(k:Int)->(gi gs h).used=true->¬((gi gs h).parent=(gi gs (k:Int)).parent/\(gi gs h).name=(gi gs (k:Int)).name))->zii gs ((k+1:Nat):Int):=fun hst=>⟨fun g h1 h2 hu=>by
     by_cases hgk:g<(k:Int)
     ·exact hS.each g h1 hgk hu
     ·have:g=(k:Int):=by omega
      subst this; exact hst hu⟩
    refine ⟨h.ix hk0 hlt,_,h.used hk0 hlt,fun hu=>⟨⟨by omega,by omega⟩,Qu (by omega) ⟨by omega,by omega,step fun hu'=>by rw [hu'] at hu; cases hu⟩⟩,fun hu => ?_⟩;have hu:(gi gs (k:Int)).used=true:=by simpa using hu
    refine ⟨h.ix hk0 hlt,_,h.name hk0 hlt,_,Ls,Tn 9 gs (k:Int) 0,fun _ => ?_,Yh (Tn 9 gs (k:Int) 0) 1 3,fun _=>Qh,fun q => ?_,fun q => ?_⟩
    ·have:=OC (c:=c) (g:=(k:Int)) h (by rw [hl8]; simp [maxLen])
     rwa [hl8] at this ⊢
    ·rw [D0];intro ht;have:=(zj7 ht).each (k:Int) (by omega) (by omega) hu;rw [this.1,this.2.1] at q;cases q
    ·simp only [Bool.or_eq_false_iff,Bool.not_eq_false'] at q;refine Xh k 1 rfl (fun j=>1<=j/\j<=k/\∀h:Int,1<=h->h<(j:Int)->(gi gs h).used=true->¬((gi gs h).parent=(gi gs (k:Int)).parent/\(gi gs h).name=(gi gs (k:Int)).name)) ⟨Nat.le_refl _,hk1,fun g h1 h2=>by omega⟩ fun j ⟨hj1,hjk,hJ⟩=>⟨fun hlt2 => ?_,fun hge2 => ?_⟩
     ·have hlt2:=of_decide_eq_true hlt2;have hj0:(0:Int)<=(j:Int):=by omega
      have hjl:(j:Int)<(gs.length:Int):=by omega
      refine ⟨h.ix hj0 hjl,_,h.used hj0 hjl,fun _=>h.ix hj0 hjl,_,fun _=>h.parent hj0 hjl,fun _=>h.ix hk0 hlt,_,fun _=>h.parent hk0 hlt,fun _=>h.ix hj0 hjl,_,fun _=>h.name hj0 hjl,fun _=>h.ix hk0 hlt,_,fun _=>h.name hk0 hlt,fun hs => ?_,fun hs=>⟨⟨by omega,by omega⟩,Qu (by omega) ⟨by omega,by omega,fun g h1 h2 hg => ?_⟩⟩⟩
      ·rw [D0];intro ht;simp only [Bool.and_eq_true,beq_iff_eq,JM] at hs;exact ht.uniq (k:Int) (j:Int) (by omega) hlt2 (by omega) hu hs.1.1 ⟨hs.1.2,hs.2⟩
      ·by_cases hgj:g<(j:Int)
       ·exact hJ g h1 hgj hg
       ·have:g=(j:Int):=by omega
        subst this;rintro ⟨e1,e2⟩;rw [hg,e1,e2,HX] at hs;simp at hs
     ·have hge2:=of_decide_eq_false hge2;have:j=k:=by omega
      subst this;exact ⟨⟨by omega,by omega⟩,Qu (by omega) ⟨by omega,by omega,step fun _=>⟨q.1,q.2,hJ⟩⟩⟩
   ·have hge:=of_decide_eq_false hge;have:k=8:=by omega
    subst this;rw [UR.2 (zlr hl8 ru rp rn hS)]
def Jt:Nat->List ZD->Int->Int->Bool
 | 0,_,g,h=>h==g
 | f+1,gs,g,h=>h==g||(h != 0&&Jt f gs g (gi gs h).parent)
noncomputable def TO (gs:List ZD) (g h:Int):Bool:=P1 gs&&Q6 gs g&&Q6 gs h&&Jt 3 gs g h
theorem ZS {gs:List ZD} (ht:ZQ gs) {h:Int} (hu:Q6 gs h=true) (hz:h≠0):Q6 gs (gi gs h).parent=true/\0<=h/\h<(gs.length:Int)/\∃d:Nat,dep 3 gs h=(d:Int)+1/\dep 3 gs (gi gs h).parent=(d:Int)/\d<3:=by
 obtain ⟨a,b,u⟩:=Q5.1 hu;have hl:=ht.len;have h1:1<=h:=by omega
 have hd:=ht.dp h h1 (by omega) u;refine ⟨ht.par h h1 (by omega) u,a,b,?_⟩;have hr:=VK gs 2 (gi gs h).parent;have e:dep 3 gs h=if dep 2 gs (gi gs h).parent<0 then -1 else dep 2 gs (gi gs h).parent+1:=by simp only [dep,if_neg hz]
 rw [e] at hd ⊢
 split at hd
 ·omega
 ·rename_i hn;rw [if_neg hn];have:=MV gs 2 3 (gi gs h).parent (by omega) (by omega);exact ⟨(dep 2 gs (gi gs h).parent).toNat,by omega,by omega,by omega⟩
theorem zkq {gs:List ZD} (ht:ZQ gs) (g:Int):∀(f f':Nat) (h:Int),Q6 gs h=true->dep 3 gs h<=f->dep 3 gs h<=f'->Jt f gs g h=Jt f' gs g h:=by
 intro f
 induction f with
 | zero=>
  intro f' h hu h1 h2
  have hz:h=0:=Decidable.byContradiction fun hz=>by
   obtain ⟨_,_,_,d,e,_⟩:=ZS ht hu hz;omega
  subst hz
  cases f' <;> simp [Jt]
 | succ f ih=>
  intro f' h hu h1 h2
  by_cases hz:h=0
  ·subst hz
   cases f' <;> simp [Jt]
  ·obtain ⟨hp,_,_,d,e,e2,_⟩:=ZS ht hu hz
   cases f' with
   | zero=>omega
   | succ f'=>
    simp only [Jt];rw [ih f' (gi gs h).parent hp (by omega) (by omega)]
theorem DM {gs:List ZD} (ht:ZQ gs) {g h:Int} (hu:Q6 gs h=true) (hz:h≠0) (hg:h≠g):Jt 3 gs g h=Jt 3 gs g (gi gs h).parent:=by
 obtain ⟨hp,_,_,d,e,e2,hd⟩:=ZS ht hu hz;rw [<-zkq ht g 2 3 (gi gs h).parent hp (by omega) (by omega)];have e3:Jt 3 gs g h=(h==g||(h != 0&&Jt 2 gs g (gi gs h).parent)):=rfl;rw [e3];have e4:(h==g)=false:=by simpa using hg
 have e5:(h != 0)=true:=by simpa using hz
 rw [e4,e5,Bool.false_or,Bool.true_and]
theorem T1 {g h:Int} (hr:Mf bs w o gs ms) (hl:gs.length<=maxLen):PX bs Xf #[.slice o gs.length c,.int .i64 g,.int .i64 h] w (.bool (TO gs g h)):=
 Ej o gs.length c g h fun wr hx=>by
  have hr:=(hr.ext hx).less (cs:=[]) (by simp);refine ⟨_,Lu hr hl,_,fun _=>Yn hr,_,fun _=>Yn hr,fun q => ?_,fun q => ?_⟩
  ·have:TO gs g h=false:=by
    unfold TO
    cases h1:P1 gs <;> cases h2:Q6 gs g <;> cases h3:Q6 gs h <;> simp_all
   rw [this]
  ·simp only [Bool.or_eq_false_iff,Bool.not_eq_false'] at q;obtain ⟨⟨q1,q2⟩,q3⟩:=q;have ht:=UR.1 q1;have hU:TO gs g h=Jt 3 gs g h:=by unfold TO; rw [q1,q2,q3]; rfl
   refine ⟨fun vs=>∃x:Int,vs=[.int .i64 x]/\Q6 gs x=true/\Jt 3 gs g x=Jt 3 gs g h,fun vs=>(dep 3 gs (Y3 0 vs)).toNat,⟨h,rfl,q3,rfl⟩,?_⟩;rintro x ⟨x',he,hu,hI⟩;simp only [List.cons.injEq,Value.int.injEq,true_and,and_true] at he;subst he;refine ⟨fun hne=>⟨fun hz => ?_,fun hz => ?_⟩,fun heq => ?_⟩
   ·have hz:x=0:=by simpa using hz
    subst hz
    have:Jt 3 gs g 0=false:=by
     have:¬(0=g):=by simpa using hne
     simp [Jt,this]
    rw [hU,<-hI,this]
   ·have hz:x≠0:=by simpa using hz
    have hne:x≠g:=by simpa using hne
    obtain ⟨hp,a,b,d,e,e2,hd⟩:=ZS ht hu hz;refine ⟨hr.ix a b,_,hr.parent a b,⟨_,rfl,hp,by rw [<-DM ht hu hz hne]; exact hI⟩,?_⟩;show (dep 3 gs (gi gs x).parent).toNat<(dep 3 gs x).toNat;omega
   ·have heq:x=g:=by simpa using heq
    subst heq;rw [hU,<-hI];simp [Jt]
end
theorem zkn {s:ByteArray} {i:Nat} (h:i<s.size):((s.get! i).toNat:Int)=Jj s (i:Int):=by
 have hi:i<s.data.size:=h;unfold Jj;rw [Int.toNat_natCast];simp [ByteArray.get!,getElem!_pos s.data i hi,Array.getD,h]
theorem zau {s:ByteArray} {i:Nat} (h:(s.get! i).toNat<128):Utf8.decode s i=((s.get! i).toNat,1):=by
 simp only [Utf8.decode,Nat.add_zero];rw [if_pos h]
theorem zkf {s:ByteArray} {i:Nat} (h:¬(s.get! i).toNat<128):128<=(Utf8.decode s i).1/\1<=(Utf8.decode s i).2:=by
 simp only [Utf8.decode,Nat.add_zero,Utf8.runeError];rw [if_neg h];split
 ·split
  ·rename_i h1; exact ⟨h1,by show 1<=2; omega⟩
  ·exact ⟨by decide,by decide⟩
 ·split
  ·split
   ·rename_i h1;simp only [ge_iff_le,Bool.and_eq_true,decide_eq_true_eq] at h1;exact ⟨by show 128<=_; omega,by show 1<=3; omega⟩
   ·exact ⟨by decide,by decide⟩
  ·split
   ·split
    ·rename_i h1;simp only [ge_iff_le,Bool.and_eq_true,decide_eq_true_eq] at h1;exact ⟨by show 128<=_; omega,by show 1<=4; omega⟩
    ·exact ⟨by decide,by decide⟩
   ·exact ⟨by decide,by decide⟩
theorem zkt (w:World) (b:Nat) (s:ByteArray) (p:Nat):Q0 [b] w (Ow w b s p):=
 ⟨rfl,rfl,rfl,by simp [Ow],fun k _ hk=>by
  have:b≠k:=fun e=>hk (by simp [e])
  simp only [Ow];rw [Array.getElem?_setIfInBounds_ne this]⟩
theorem zna {w:World} {b:Nat} {s:ByteArray} {p:Nat} (h:b<w.heap.size):(Ow w b s p).heap[b]? = some (.stringIter s p):=by
 simp [Ow,h]
def zru (b:Nat) (w:World):Nat:=match w.heap[b]? with
 | some (.stringIter s p)=>s.size+1 - p
 | _=>0
theorem zev {s:ByteArray} (h1:Zo s (⟨[119,101,105,103,104,116].toArray⟩)=false) (h2:Zo s (⟨[109,97,120].toArray⟩)=false) (h3:Zo s (⟨[99,112,117,115].toArray⟩)=false) (h4:Zo s (⟨[112,114,111,99,115].toArray⟩)=false) (h5:Zo s (⟨[115,116,97,116].toArray⟩)=false):OV s=false:=by
 unfold OV; rw [h1,h2,h3,h4,h5]; rfl
theorem Tp {s:ByteArray} (h:OV s=true):Jy s=false:=PE fun ⟨_,h2,_⟩=>by rw [h] at h2; cases h2
theorem CN {s:ByteArray} {w:World} {bs:List Nat}:PX bs Of #[.string s] w (.bool (Jy s)):=by
 refine U9 fun wr hx=>CC s (R:=fun v w'=>v = .bool (Jy s)/\Q0 [] wr w') ?_
 refine ⟨fun h => ?_,fun h1=>⟨fun h => ?_,fun h2=>⟨fun h => ?_,fun h3=>⟨fun h => ?_,fun h4=>⟨fun h => ?_,fun h5 => ?_⟩⟩⟩⟩⟩
 ·intro w1 hx1; rw [Tp (by unfold OV; rw [h]; rfl)]; exact ⟨rfl,hx1⟩
 ·intro w1 hx1; rw [Tp (by unfold OV; rw [h]; simp)]; exact ⟨rfl,hx1⟩
 ·intro w1 hx1; rw [Tp (by unfold OV; rw [h]; simp)]; exact ⟨rfl,hx1⟩
 ·intro w1 hx1; rw [Tp (by unfold OV; rw [h]; simp)]; exact ⟨rfl,hx1⟩
 ·intro w1 hx1; rw [Tp (by unfold OV; rw [h]; simp)]; exact ⟨rfl,hx1⟩
 ·have hf:=zev h1 h2 h3 h4 h5;refine ⟨_,QC,fun h => ?_,fun h => ?_⟩
  ·intro w1 hx1;have h:Yh (s.size:Int) 1 8=false:=by simpa using h
   have h:=zrp.1 h;rw [PE fun ⟨h6,_⟩=>h (by omega)];exact ⟨rfl,hx1⟩
  ·have h:Yh (s.size:Int) 1 8=true:=by simpa using h
   have h:=Qn.1 h;intro w1 hx1 _;refine ⟨some ⟨w1.heap.size,0,none⟩,w1.alloc (.stringIter s 0),by simp [Instr.range,run_underlying AS],OE,?_⟩;have hb0:(w1.alloc (.stringIter s 0)).heap[w1.heap.size]? = some (.stringIter s 0):=Array.getElem?_push_size ..;have hX0:Q0 [] wr (w1.alloc (.stringIter s 0)):=hx1.trans (Zb w1 _);have hbr:wr.heap.size<=w1.heap.size:=hx1.size;generalize w1.heap.size=b at hb0 hbr;generalize w1.alloc (.stringIter s 0)=w2 at hb0 hX0;refine ⟨fun vs w'=>vs=[]/\Q0 [] wr w'/\∃p:Nat,p<=s.size/\w'.heap[b]? = some (.stringIter s p)/\∀j:Nat,j<p->zo6 (Jj s (j:Int))=true,fun _ w'=>zru b w',fun w3 hx3 _=>⟨rfl,hX0.trans hx3,0,Nat.zero_le _,Ta hb0 hx3 (by simp),fun j hj=>absurd hj (Nat.not_lt_zero j)⟩,?_⟩;intro w3 _ ⟨_,hX,p,hp,hb,hI⟩ w4 hx4 _;have hb4:=Ta hb hx4 (by simp);refine ⟨b,s,p,rfl,by simp,hb4,fun hge=>⟨(by intro q; cases q),fun _ w5 hx5 => ?_⟩,fun hlt=>⟨fun _ => ?_,by intro q; cases q⟩⟩
   ·have:p=s.size:=by omega
    subst this;rw [M6.2 ⟨⟨by omega,by omega⟩,hf,hI⟩];exact ⟨rfl,(hX.trans hx4).trans hx5⟩
   ·have hX5:Q0 [] wr (Ow w4 b s (p+(Utf8.decode s p).2)):=(hX.trans hx4).fresh (zkt w4 b s _) fun x hm=>.inl (by rw [List.mem_singleton.1 hm]; exact hbr)
    have hg:=zkn hlt;refine ⟨fun hno => ?_,fun hyes => ?_⟩
    ·intro w5 hx5
     have hno':Jy s=false:=PE fun ⟨_,_,h3⟩=>by
      have h3:=h3 p hlt
      by_cases hlo:(s.get! p).toNat<128
      ·rw [zau hlo] at hno;simp only [hg] at hno;unfold zo6 at h3;rw [h3] at hno;cases hno
      ·unfold zo6 at h3;simp only [Bool.or_eq_true,Bool.and_eq_true,decide_eq_true_eq] at h3;omega
     rw [hno'];exact ⟨rfl,hX5.trans hx5⟩
    ·intro w5 hx5 _
     by_cases hlo:(s.get! p).toNat<128
     ·rw [zau hlo] at hyes hX5 hx5;simp only [hg] at hyes;have hat:=Ta (zna (s:=s) (p:=p+1) (VI hb4)) hx5 (by simp);refine ⟨⟨rfl,hX5.trans hx5,p+1,by omega,hat,fun j hj => ?_⟩,?_⟩
      ·by_cases hjp:j<p
       ·exact hI j hjp
       ·have:j=p:=by omega
        subst this;unfold zo6;rw [Bool.not_eq_false'] at hyes;exact hyes
      ·simp only [zru,hat,hb];omega
     ·exfalso
      have:=zkf hlo;rw [Bool.not_eq_false'] at hyes;simp only [Bool.or_eq_true,Bool.and_eq_true,decide_eq_true_eq] at hyes;omega
end Go.Proofs.YtclpmgfpjeaibaaGreat
