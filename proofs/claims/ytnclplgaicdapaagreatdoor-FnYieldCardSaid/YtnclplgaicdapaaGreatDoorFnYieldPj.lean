/- Part 10 of what the law FnYield needs: the engine, the functions' propositions, the contracts. -/
import Derived.Test.YtnclplgaicdapaaGreatDoorFnYieldPi
namespace Go.Proofs.YtnclplgaicdapaaGreatDoor
open Go.RowKit
set_option linter.unusedVariables false
set_option maxRecDepth 100000
set_option maxHeartbeats 1600000
set_option maxHeartbeats 8000000
def Cu(V:Int)(a2:OA)(d f3:Nat)(b4:OA)(f f2:Nat)(e0:OA)(e f6:Nat)(b5:Int)(a1:OA)(F f4:Nat)(b6:OA)(u f5:Nat)(e2:OA)(A f1:Nat)(w:Wo)(R:RT):= (∀e9,w.heap.size<=e9->(∀f0,w.heap.size<=f0->(((((V != b5)||((d:Int) != (F:Int)))||((f:Int) != (u:Int)))||((e:Int) != (A:Int)))=true->R (.bool false) w)/\(((((V != b5)||((d:Int) != (F:Int)))||((f:Int) != (u:Int)))||((e:Int) != (A:Int)))=false->(∃(B:List Va->Prop) (c3:List Va->Nat),B [I 0]/\∀(c:Int),B [I c]->((decide (c<(d:Int)))=true->Ix a2 d c/\(∃s k M x N,Q2 [] w a2 (Int.toNat c*5) [.bool s,I k,I M,I x,I N]/\Ix a1 F c/\(∃K z n D J,Q2 [] w a1 (Int.toNat c*5) [.bool K,I z,I n,I D,I J]/\(∃O,(∀d6,((do eqGuard .neq Z1 (.tmp 51) (.tmp 56) (.agg #[.bool s,I k,I M,I x,I N]) (.agg #[.bool K,I z,I n,I D,I J]); binOp .neq Z1 (.agg #[.bool s,I k,I M,I x,I N]) (.agg #[.bool K,I z,I n,I D,I J])):Sem Va).run Tryz.prog d6=.ok (.bool O) d6)/\(O=true->R (.bool false) w)/\(O=false->Qn .i64 (c+1)/\B [I (c+1)]/\c3 [I (c+1)]<c3 [I c])))))/\((decide (c<(d:Int)))=false->(∃(U:List Va->Prop) (e1:List Va->Nat),U [I 0]/\∀(a:Int),U [I a]->((decide (a<(f:Int)))=true->Ix b4 f a/\(∃g t H P q m G v C,Q2 [] w b4 (Int.toNat a*9) [I g,I t,I H,I P,I q,I m,I G,I v,I C]/\Ix b6 u a/\(∃l Q T L p o h y E,Q2 [] w b6 (Int.toNat a*9) [I l,I Q,I T,I L,I p,I o,I h,I y,I E]/\(∃r,(∀b9,((do eqGuard .neq QD (.tmp 69) (.tmp 74) (.agg #[I g,I t,I H,I P,I q,I m,I G,I v,I C]) (.agg #[I l,I Q,I T,I L,I p,I o,I h,I y,I E]); binOp .neq QD (.agg #[I g,I t,I H,I P,I q,I m,I G,I v,I C]) (.agg #[I l,I Q,I T,I L,I p,I o,I h,I y,I E])):Sem Va).run Tryz.prog b9=.ok (.bool r) b9)/\(r=true->R (.bool false) w)/\(r=false->Qn .i64 (a+1)/\U [I (a+1)]/\e1 [I (a+1)]<e1 [I a])))))/\((decide (a<(f:Int)))=false->(∃(i:List Va->Prop) (a0:List Va->Nat),i [I 0]/\∀(b:Int),i [I b]->((decide (b<(e:Int)))=true->Ix e0 e b/\(∃(Y:Bool) (c9:Int) (d5:ByteArray) (c1 d7 d3 e5 b2 a3 e4 X:Int) (d0:OA) (a7 d2:Nat) (c4:OA) (a8 e6:Nat) (d1:OA) (b3 b0:Nat),Q2 [] w e0 (Int.toNat b*14) [.bool Y,I c9,.string d5,I c1,I d7,I d3,I e5,I b2,I a3,I e4,I X,S d0 a7 d2,S c4 a8 e6,S d1 b3 b0]/\Ix e2 A b/\(∃(c5:Bool) (d9:Int) (b1:ByteArray) (Z c7 a4 e8 d8 c0 c2 e3:Int) (c6:OA) (e7 a6:Nat) (c8:OA) (d4 b7:Nat) (a5:OA) (b8 a9:Nat),Q2 [] w e2 (Int.toNat b*14) [.bool c5,I d9,.string b1,I Z,I c7,I a4,I e8,I d8,I c0,I c2,I e3,S c6 e7 a6,S c8 d4 b7,S a5 b8 a9]/\(∃j,PX [] TL #[.agg #[.bool Y,I c9,.string d5,I c1,I d7,I d3,I e5,I b2,I a3,I e4,I X,S d0 a7 d2,S c4 a8 e6,S d1 b3 b0],.agg #[.bool c5,I d9,.string b1,I Z,I c7,I a4,I e8,I d8,I c0,I c2,I e3,S c6 e7 a6,S c8 d4 b7,S a5 b8 a9]] w (.bool j)/\((!j)=true->R (.bool false) w)/\((!j)=false->Qn .i64 (b+1)/\i [I (b+1)]/\a0 [I (b+1)]<a0 [I b])))))/\((decide (b<(e:Int)))=false->R (.bool true) w)))))))))
theorem zas(a0 a1O a1L a1C a2O a2L a2C a3O a3L a3C b0 b1O b1L b1C b2O b2L b2C b3O b3L b3C):YI (Cu a0 a1O a1L a1C a2O a2L a2C a3O a3L a3C b0 b1O b1L b1C b2O b2L b2C b3O b3L b3C) V7 #[.agg #[.int .i64 a0,.slice a1O a1L a1C,.slice a2O a2L a2C,.slice a3O a3L a3C],.agg #[.int .i64 b0,.slice b1O b1L b1C,.slice b2O b2L b2C,.slice b3O b3L b3C]]:=pV [] false [(4,⟨[(5,.int .i64)],[],[2,3],[],[]⟩),(9,⟨[(6,.int .i64)],[],[2,3],[],[]⟩),(14,⟨[(7,.int .i64)],[],[2,3],[],[]⟩)] Tryz.func20 (by kernel_rfl) (by kernel_rfl)
def N6(N:OA)(x P:Nat)(w:Wo)(R:RT):= ((decide ((x:Int)>1048576))=true->(AR [] w R (.bool true)))/\((decide ((x:Int)>1048576))=false->(CV [] XN #[S N x P] w fun n f h q m l r k p j a J=>( (∀b,J.heap.size<=b->(CVx [] [b] Uw #[Wv n f h q m l r k p j,I a] J fun E c g u C v B G y F s M=>( (∀d,M.heap.size<=d->(CVx [b] [b,d] XO #[Wv n f h q m l r k p j,I a] M fun a1 T X V a0 Y Q U Z a2 K e=>( (∀O,e.heap.size<=O->((s != K)=true->(AR [b,d] e R (.bool false)))/\((s != K)=false->((s != 0)=true->(∃A,PX [b,d] Y6 #[Wv n f h q m l r k p j] e (.bool A)/\(∃L,((!A)=false->PX [b,d] V7 #[Wv n f h q m l r k p j,Wv E c g u C v B G y F] e (.bool L))/\(AR [b,d] e R (.bool ((!A)||L))))))/\((s != 0)=false->Ix c g a/\(∃i,Q2 [b,d] e c (Int.toNat a*5+1) [I i]/\((i != (-1))=false->Ix c g a)/\(∃t,((i != (-1))=false->Q2 [b,d] e c (Int.toNat a*5+2) [I t])/\(∃z,(((i != (-1))||(t != 0))=false->PX [b,d] Ud #[Wv E c g u C v B G y F] e (.bool z))/\((((i != (-1))||(t != 0))||(!z))=true->(AR [b,d] e R (.bool false)))/\((((i != (-1))||(t != 0))||(!z))=false->Ix f h a/\(∃o,Q2 [b,d] e f (Int.toNat a*5+1) [I o]/\Ix c g a/\YX [b,d] e c (Int.toNat a*5+1) 1/\Ix f h a/\(∃D,Q2 [b,d] (sto e c (Int.toNat a*5+1) [I o]) f (Int.toNat a*5+2) [I D]/\Ix c g a/\YX [b,d] (sto e c (Int.toNat a*5+1) [I o]) c (Int.toNat a*5+2) 1/\(∃H,PX [b,d] V7 #[Wv n f h q m l r k p j,Wv E c g u C v B G y F] (sto (sto e c (Int.toNat a*5+1) [I o]) c (Int.toNat a*5+2) [I D]) (.bool H)/\(AR [b,d] (sto (sto e c (Int.toNat a*5+1) [I o]) c (Int.toNat a*5+2) [I D]) R (.bool H)))))))))))))))))))))
theorem NE(codeO codeL codeC):U4 (N6 codeO codeL codeC) Mz #[.slice codeO codeL codeC]:=eV [] false [] Tryz.func4 (by kernel_rfl) (by kernel_rfl)
def MN(b:OA)(e:Int)(w:Wo)(R:RT):= b.isSome=true/\(∃d a f,Q2 [] w b (0+1) [S d a f]/\Qn .i64 ((a:Int)-1)/\(∃c,PX [] Qu #[I e,I 0,I ((a:Int)-1)] w (.bool c)/\R (.bool c) w))
theorem MV(wv cpu):YI (MN wv cpu) XM #[.pointer wv,.int .i64 cpu]:=pV [] false [] Tryz.func78 (by kernel_rfl) (by kernel_rfl)
def Le(a e:OA)(w:Wo)(R:RT):= (∃h,Q2 [] w e 0 [I h]/\(∃b,PX [] XM #[.pointer a,I h] w (.bool b)/\((!b)=true->(AR [] w R (.iface ZS (.agg #[I 1]))))/\((!b)=false->a.isSome=true/\(∃d k o,Q2 [] w a (0+1) [S d k o]/\(∃f,Q2 [] w e 0 [I f]/\Ix d k f/\(∃c,Q2 [] w d (Int.toNat f*5+1) [I c]/\((c==(-1))=true->(AR [] w R (.iface ZS (.agg #[I 6]))))/\((c==(-1))=false->(∃j,Q2 [] w e 0 [I j]/\(∃l g,PX [] Ye #[.pointer a,I j] w (.agg #[.pointer l,I g])/\(AY [] w fun i=>Cz Jd #[.agg #[.pointer l,I g]] i fun n m=>n=.returned (.tuple #[])/\Q9 [] i m/\(AR [] m R .nilIface)))))))))))
theorem Ll(wv cap):U4 (Le wv cap) Xe #[.pointer wv,.pointer cap]:=eV [] false [] Tryz.func77 (by kernel_rfl) (by kernel_rfl)
set_option linter.unusedSimpArgs false
set_option maxRecDepth 10000
theorem UQ:zjn Tryz.prog P1 5 Zm 40 (⟨0,false,0,0,0⟩:Mx):=Gb (by kernel_rfl) fun _=>rfl
theorem TY:Tryz.prog.underlying QW=some (.slice Zm):=by kernel_rfl
def QT(b:Jb)(m:MG):List Va:=[.int .i64 b.quota,.int .i64 b.pool,.int .i64 b.spent,.slice m.lO b.locals.length m.lC,.slice m.dO b.dry.length m.dC]
theorem J9{a b:ByteArray}:Zg a b=true↔a=b:=by
 unfold Zg;rw[beq_iff_eq];constructor
 ·intro h
  have h1:∀x:ByteArray,x.toList=x.data.toList:=fun x=>by
   have key:∀(n i:Nat) (r:List UInt8),n=x.size-i->ByteArray.toList.loop x i r=r.reverse++x.data.toList.drop i:=by
    intro n
    induction n with
    | zero=>
     intro i r hn;unfold ByteArray.toList.loop;rw[if_neg (by omega),List.drop_eq_nil_iff.2 (by simp only[Array.length_toList]; show x.size<=i; omega),List.append_nil]
    | succ n ih=>
     intro i r hn;unfold ByteArray.toList.loop;have hi:i<x.data.toList.length:=by simp only[Array.length_toList]; show i<x.size; omega
     rw[if_pos (by omega),ih (i+1) _ (by omega),List.reverse_cons,List.append_assoc,List.singleton_append,List.drop_eq_getElem_cons hi]
     have:x.get! i=x.data.toList[i]:=by
      have hi':i<x.data.size:=by simpa using hi
      simp[ByteArray.get!,getElem!_pos x.data i hi']
     rw[this]
   have:=key _ 0 [] rfl
   simpa[ByteArray.toList] using this
  rw[h1,h1] at h
  cases a; cases b
  simp only at h
  congr 1
  exact Array.ext' h
 ·rintro rfl; rfl
theorem D2(a b:ByteArray):Zg a b=decide (a=b):=by
 cases h:Zg a b with
 | true=>rw[decide_eq_true (J9.1 h)]
 | false=>rw[decide_eq_false fun e=>by rw[J9.2 e] at h; cases h]
def VE(p:ZA×MG):List Va:=Yc p.1 p.2
def TE:ZA×MG:=(⟨false,0,ByteArray.empty,0,0,0,0,0,⟨0,0,0,[],[]⟩,[]⟩,⟨none,0,none,0,none,0⟩)
theorem ZJ:zjn Tryz.prog VE 14 QC 168 TE:=Gb (by kernel_rfl) fun _=>rfl
theorem TX:Tryz.prog.underlying Qt=some (.slice QC):=by kernel_rfl
def Ql(m:MG):List Nat:=Qy m.lO++Qy m.dO++Qy m.sO
structure O3 (base:Nat) (w:Wo) (p:ZA×MG):Prop where
 loc:Jp Xu 1 Qb base w p.2.lO p.2.lC p.1.band.locals
 dry:Jp Ol 1 ZR base w p.2.dO p.2.dC p.1.band.dry
 shl:Jp P1 5 Zm base w p.2.sO p.2.sC p.1.shelves
theorem O3.ext{base:Nat}{w w':Wo}{p:ZA×MG}{bs:List Nat}(h:O3 base w p)(hx:Q0 bs w w')(hd:∀b∈Ql p.2,b∉bs):O3 base w' p:=
 ⟨h.loc.ext hx fun b hb=>hd b (by simp[Ql,hb]),h.dry.ext hx fun b hb=>hd b (by simp[Ql,hb]),h.shl.ext hx fun b hb=>hd b (by simp[Ql,hb])⟩
theorem O3.ext0{base:Nat}{w w':Wo}{p:ZA×MG}(h:O3 base w p)(hx:Q0 [] w w'):O3 base w' p:=h.ext hx (by simp)
theorem O3.mono{base base':Nat}{w:Wo}{p:ZA×MG}(h:O3 base w p)(hb:base'<=base):O3 base' w p:=⟨h.loc.mono hb,h.dry.mono hb,h.shl.mono hb⟩
theorem O3.lt{base:Nat}{w:Wo}{p:ZA×MG}(h:O3 base w p):∀b∈Ql p.2,base<=b/\b<w.heap.size:=by
 intro b hb;simp only[Ql,List.mem_append] at hb;rcases hb with (hb | hb) | hb
 ·exact h.loc.lt b hb
 ·exact h.dry.lt b hb
 ·exact h.shl.lt b hb
structure M9 (base:Nat) (w:Wo) (o:OA) (cap:Nat) (ps:List (ZA×MG)):Prop where
 row:Jp VE 14 QC base w o cap ps
 each:∀i:Int,0<=i->i<(ps.length:Int)->O3 base w (gi ps i)
 dj:∀i j:Int,0<=i->i<(ps.length:Int)->0<=j->j<(ps.length:Int)->i≠j->∀b∈Ql (gi ps i).2,b∉Ql (gi ps j).2
theorem M9.mono{base base':Nat}{w:Wo}{o:OA}{cap:Nat}{ps:List (ZA×MG)}(h:M9 base w o cap ps)(hb:base'<=base):M9 base' w o cap ps:=
 ⟨h.row.mono hb,fun i a b=>(h.each i a b).mono hb,h.dj⟩
theorem Xj{base:Nat}{w:Wo}{o:OA}{cap:Nat}{ps:List (ZA×MG)}(h:Jp VE 14 QC base w o cap ps){base':Nat}{p:ZA×MG}(hp:O3 base' w p):∀b∈Ql p.2,b∉Qy o:=by
 intro b hb hx;simp only[Ql,List.mem_append] at hb;rcases hb with (hb | hb) | hb
 ·exact hp.loc.ty_ne h (by decide) b hb hx
 ·exact hp.dry.ty_ne h (by decide) b hb hx
 ·exact hp.shl.ty_ne h (by decide) b hb hx
theorem M9.put{base:Nat}{w:Wo}{o:OA}{cap:Nat}{ps:List (ZA×MG)}(h:M9 base w o cap ps){i:Int}(h0:0<=i)(hi:i<(ps.length:Int)){p:ZA×MG}(hp:O3 base w p)(hd:∀j:Int,0<=j->j<(ps.length:Int)->i≠j->∀b∈Ql (gi ps j).2,b∉Ql p.2):M9 base (sto w o (Int.toNat i*14) (VE p)) o cap (ps.set i.toNat p):=by
 have hx:=h.row.stoX (Int.toNat i*14) (VE p);have hlen:(ps.set i.toNat p).length=ps.length:=List.length_set;refine⟨?_,fun j hj hjl=>?_,fun j k hj hjl hk hkl hjk b hb hb'=>?_⟩
 ·have:=h.row.sto ZJ.len h0 hi (j:=0) (vs:=VE p) (x:=p) (by rw[List.take_zero,List.nil_append,List.drop_eq_nil_iff.2 (by rw[Nat.zero_add,ZJ.len,ZJ.len]; exact Nat.le_refl _),List.append_nil]) (by rw[Nat.zero_add,ZJ.len]; exact Nat.le_refl _);exact this
 ·rw[hlen] at hjl;rw[Qw _ _ h0 hi hj];split
  ·exact hp.ext hx (Xj h.row hp)
  ·exact(h.each j hj hjl).ext hx (Xj h.row (h.each j hj hjl))
 ·rw[hlen] at hjl hkl;rw[Qw _ _ h0 hi hj] at hb;rw[Qw _ _ h0 hi hk] at hb'
  by_cases e1:i=j
  ·rw[if_pos e1] at hb
   by_cases e2:i=k
   ·omega
   ·rw[if_neg e2] at hb';exact hd k hk hkl e2 b hb' hb
  ·rw[if_neg e1] at hb
   by_cases e2:i=k
   ·rw[if_pos e2] at hb';exact hd j hj hjl e1 b hb hb'
   ·rw[if_neg e2] at hb';exact h.dj j k hj hjl hk hkl hjk b hb hb'
theorem Jm{z:Int}(h1 : -9223372036854775808<=z)(h2:z<=9223372036854775807):Qn .i64 z:=⟨h1,h2⟩
def zcj(w:Int):Int:=Int.tdiv 232792560 w
def Yo(n a b:Int):Bool:=decide (n>=a)&&decide (n<=b)
theorem Qo{n a b:Int}:Yo n a b=true↔a<=n/\n<=b:=by simp[Yo]
theorem zs5{n a b:Int}:Yo n a b=false↔¬(a<=n/\n<=b):=by rw[<-Qo]; simp
def Z3(n w:Int):Int:=if Yo n 0 100000000&&Yo w 1 20 then n*zcj w else 0
def Zq(w:Int):Int:=Z3 149 w
theorem zsr:∀k:Fin 20,zcj ((k.val:Int)+1)*((k.val:Int)+1)=232792560:=by decide
theorem zss{w:Int}(h1:1<=w)(h2:w<=20):zcj w*w=232792560:=by
 have:=zsr ⟨(w-1).toNat,by omega⟩;have e:(((w-1).toNat:Nat):Int)+1=w:=by omega
 simp only[e] at this;exact this
theorem C7{w:Int}(h1:1<=w)(h2:w<=20):11639628<=zcj w/\zcj w<=232792560:=by
 have h:=zss h1 h2
 have hp:0<=zcj w:=by
  rcases Int.lt_or_le (zcj w) 0 with hn | hn
  ·have:=Int.mul_neg_of_neg_of_pos hn (show 0<w by omega);omega
  ·exact hn
 constructor
 ·have:=Int.mul_le_mul_of_nonneg_left h2 hp;omega
 ·have:=Int.mul_le_mul_of_nonneg_left h1 hp;omega
theorem TC{n w:Int}(h1:0<=n)(h2:n<=100000000)(h3:1<=w)(h4:w<=20):Z3 n w=n*zcj w:=by
 unfold Z3;rw[if_pos];rw[Bool.and_eq_true,Qo,Qo]; exact⟨⟨h1,h2⟩,h3,h4⟩
theorem Lb{n w:Int}(h:¬(0<=n/\n<=100000000/\1<=w/\w<=20)):Z3 n w=0:=by
 unfold Z3;rw[if_neg];rw[Bool.and_eq_true,Qo,Qo]; omega
theorem zef{n w:Int}(h1:0<=n)(h2:n<=100000000)(h3:1<=w)(h4:w<=20):0<=n*zcj w/\n*zcj w<=23279256000000000:=by
 have hs:=C7 h3 h4;refine⟨Int.mul_nonneg h1 (by omega),?_⟩
 calc n*zcj w<=100000000*zcj w:=Int.mul_le_mul_of_nonneg_right h2 (by omega)
  _<=100000000*232792560:=Int.mul_le_mul_of_nonneg_left hs.2 (by decide)
  _=23279256000000000:=rfl
theorem KK(n w:Int):0<=Z3 n w/\Z3 n w<=23279256000000000:=by
 by_cases h:0<=n/\n<=100000000/\1<=w/\w<=20
 ·rw[TC h.1 h.2.1 h.2.2.1 h.2.2.2]; exact zef h.1 h.2.1 h.2.2.1 h.2.2.2
 ·rw[Lb h]; omega
theorem QH{n a b:Int}{w:Wo}{bs:List Nat}:PX bs Qu #[.int .i64 n,.int .i64 a,.int .i64 b] w (.bool (Yo n a b)):=
 Az n a b fun wr hx=>by unfold K4; rfl
theorem Qj{n a b:Int}{w:Wo}{bs:List Nat}:PX bs Qf #[.int .i64 n,.int .i64 a,.int .i64 b] w (.bool (Yo n a b)):=
 zgk n a b fun wr hx=>by unfold EN; rfl
theorem TT{n:Int}{w:Wo}{bs:List Nat}:PX bs Xx #[.int .i64 n] w (.bool (Yo n 1 20)):=
 Bo n fun wr hx=>⟨_,QH,rfl⟩
theorem J1{n:Int}{w:Wo}{bs:List Nat}:PX bs Yf #[.int .i64 n] w (.bool (Yo n 1 20)):=
 Bv n fun wr hx=>⟨_,Qj,rfl⟩
theorem LG{n:Int}{w:Wo}{bs:List Nat}:PX bs V4 #[.int .i64 n] w (.bool (Yo n (-10) 9)):=
 zao n fun wr hx=>⟨_,QH,rfl⟩
def UX(k j:Nat):Int:=if j<=k then zcj (j:Int) else 0
def zwo(k:Nat):List Va:=[.int .i64 ((k:Int)+1),.int .i64 0,.int .i64 (UX k 1),.int .i64 (UX k 2),.int .i64 (UX k 3),.int .i64 (UX k 4),.int .i64 (UX k 5),.int .i64 (UX k 6),.int .i64 (UX k 7),
 .int .i64 (UX k 8),.int .i64 (UX k 9),.int .i64 (UX k 10),.int .i64 (UX k 11),.int .i64 (UX k 12),.int .i64 (UX k 13),.int .i64 (UX k 14),.int .i64 (UX k 15),.int .i64 (UX k 16),.int .i64 (UX k 17),.int .i64 (UX k 18),.int .i64 (UX k 19),.int .i64 (UX k 20)]
theorem Gj{w:Wo}{bs:List Nat}:PX bs JZ #[] w (.agg #[.int .i64 0,.int .i64 (UX 20 1),.int .i64 (UX 20 2),.int .i64 (UX 20 3),.int .i64 (UX 20 4),.int .i64 (UX 20 5),.int .i64 (UX 20 6),.int .i64 (UX 20 7),
 .int .i64 (UX 20 8),.int .i64 (UX 20 9),.int .i64 (UX 20 10),.int .i64 (UX 20 11),.int .i64 (UX 20 12),.int .i64 (UX 20 13),.int .i64 (UX 20 14),.int .i64 (UX 20 15),.int .i64 (UX 20 16),.int .i64 (UX 20 17),.int .i64 (UX 20 18),.int .i64 (UX 20 19),.int .i64 (UX 20 20)]):=
 Gv fun wr hx=>by
  intro _ _ _ _
  refine⟨fun vs=>∃k:Nat,k<=20/\vs=zwo k,fun vs=>match vs with
   | .int _ i::_=>(21-i).toNat
   | _=>0,⟨0,by omega,rfl⟩,?_⟩
  rintro i l l1 l2 l3 l4 l5 l6 l7 l8 l9 l10 l11 l12 l13 l14 l15 l16 l17 l18 l19 l20 ⟨k,hk,he⟩;simp only[zwo,List.cons.injEq,Value.int.injEq,true_and,and_true] at he;obtain⟨rfl,rfl,rfl,rfl,rfl,rfl,rfl,rfl,rfl,rfl,rfl,rfl,rfl,rfl,rfl,rfl,rfl,rfl,rfl,rfl,rfl,rfl⟩:=he;constructor
  ·intro h;have h:=Ot h;refine⟨⟨by omega,?_⟩,⟨by omega,by omega⟩,by omega,?_⟩
   ·have:=C7 (w:=(k:Int)+1) (by omega) (by omega);exact Jm (by unfold zcj at this; omega) (by unfold zcj at this; omega)
   ·refine⟨_,_,_,_,_,_,_,_,_,_,_,_,_,_,_,_,_,_,_,_,_,?_,Jm (by omega) (by omega),⟨k+1,by omega,rfl⟩,?_⟩
    ·have:k=0\/k=1\/k=2\/k=3\/k=4\/k=5\/k=6\/k=7\/k=8\/k=9\/k=10\/k=11\/k=12\/k=13\/k=14\/k=15\/k=16\/k=17\/k=18\/k=19:=by omega
     rcases this with rfl | rfl | rfl | rfl | rfl | rfl | rfl | rfl | rfl | rfl | rfl | rfl | rfl | rfl | rfl | rfl | rfl | rfl | rfl | rfl <;> rfl
    ·show (21-(((k:Int)+1)+1)).toNat<(21-((k:Int)+1)).toNat;omega
  ·intro h;have h:=Ou h;have hk:k=20:=by omega
   subst hk;rfl
theorem zuu{k:Int}(h1:1<=k)(h2:k<=20):(#[.int .i64 0,.int .i64 (UX 20 1),.int .i64 (UX 20 2),.int .i64 (UX 20 3),.int .i64 (UX 20 4),.int .i64 (UX 20 5),.int .i64 (UX 20 6),.int .i64 (UX 20 7),
 .int .i64 (UX 20 8),.int .i64 (UX 20 9),.int .i64 (UX 20 10),.int .i64 (UX 20 11),.int .i64 (UX 20 12),.int .i64 (UX 20 13),.int .i64 (UX 20 14),.int .i64 (UX 20 15),.int .i64 (UX 20 16),.int .i64 (UX 20 17),.int .i64 (UX 20 18),.int .i64 (UX 20 19),.int .i64 (UX 20 20)]:Array Va)[Int.toNat k]? = some (.int .i64 (zcj k)):=by
 have:k=1\/k=2\/k=3\/k=4\/k=5\/k=6\/k=7\/k=8\/k=9\/k=10\/k=11\/k=12\/k=13\/k=14\/k=15\/k=16\/k=17\/k=18\/k=19\/k=20:=by omega
 rcases this with rfl | rfl | rfl | rfl | rfl | rfl | rfl | rfl | rfl | rfl | rfl | rfl | rfl | rfl | rfl | rfl | rfl | rfl | rfl | rfl <;> rfl
theorem UI{n k:Int}{w:Wo}{bs:List Nat}:PX bs YK #[.int .i64 n,.int .i64 k] w (.int .i64 (Z3 n k)):=
 Gr n k fun wr hx=>by
  refine⟨_,QH,_,fun _=>TT,fun h=>?_,fun h=>?_⟩
  ·congr 1; unfold Z3; rw[if_neg]; intro h2; simp only[Bool.and_eq_true] at h2; simp[h2] at h
  ·have h2:Yo n 0 100000000=true/\Yo k 1 20=true:=by simpa using h
   rw[Qo,Qo] at h2;have hm:=zef h2.1.1 h2.1.2 h2.2.1 h2.2.2;refine⟨_,_,_,_,_,_,_,_,_,_,_,_,_,_,_,_,_,_,_,_,_,Gj,zcj k,⟨by omega,by omega,zuu h2.2.1 h2.2.2⟩,Jm (by omega) (by omega),?_⟩;rw[TC h2.1.1 h2.1.2 h2.2.1 h2.2.2]
theorem A3{k:Int}{w:Wo}{bs:List Nat}:PX bs TJ #[.int .i64 k] w (.int .i64 (Zq k)):=
 Aw k fun wr hx=>⟨_,UI,rfl⟩
def P7(s:ByteArray):Bool:=(((((Zg s (⟨[119,101,105,103,104,116].toArray⟩))||(Zg s (⟨[109,97,120].toArray⟩)))||(Zg s (⟨[99,112,117,115].toArray⟩)))||(Zg s (⟨[112,114,111,99,115].toArray⟩)))||(Zg s (⟨[115,116,97,116].toArray⟩)))
def zqr(x:Int):Bool:=(((decide (x>=97))&&(decide (x<=122)))||((decide (x>=48))&&(decide (x<=57))))
def JC(s:ByteArray):Bool:=Yo (s.size:Int) 1 8 && !P7 s&&(List.range s.size).all fun i=>zqr (Jo s (i:Int))
theorem Mk{s:ByteArray}:JC s=true↔(1<=s.size/\s.size<=8)/\P7 s=false/\∀i:Nat,i<s.size->zqr (Jo s (i:Int))=true:=by
 unfold JC;simp only[Bool.and_eq_true,Qo,Bool.not_eq_true',List.all_eq_true,List.mem_range];constructor
 ·rintro⟨⟨h1,h2⟩,h3⟩; exact⟨⟨by omega,by omega⟩,h2,h3⟩
 ·rintro⟨⟨h0,h1⟩,h2,h3⟩; exact⟨⟨⟨by omega,by omega⟩,h2⟩,h3⟩
theorem PU{s:ByteArray}(h:¬((1<=s.size/\s.size<=8)/\P7 s=false/\∀i:Nat,i<s.size->zqr (Jo s (i:Int))=true)):JC s=false:=by
 cases hn:JC s with
 | false=>rfl
 | true=>exact absurd (Mk.1 hn) h
theorem zac{s:ByteArray}{w:Wo}{bs:List Nat}:PX bs Ox #[.string s] w (.bool (P7 s)):=
 za0 s fun wr hx=>rfl
theorem LJ{s:ByteArray}{w:Wo}{bs:List Nat}:PX bs Ve #[.string s] w (.bool (JC s)):=
 zaw s fun wr hx=>by
  refine⟨_,Qj,P7 s,fun _=>zac,fun h=>?_,fun h=>?_⟩
  ·rw[PU];rintro⟨h1,h2,_⟩;rw[h2,Qo.2 (by omega)] at h;cases h
  ·have h:Yo (s.size:Int) 1 8=true/\P7 s=false:=by simpa using h
   have h1:=Qo.1 h.1;refine YE s.size 0 rfl (fun k=>k<=s.size/\∀j:Nat,j<k->zqr (Jo s (j:Int))=true) ⟨Nat.zero_le _,fun j hj=>absurd hj (Nat.not_lt_zero j)⟩ fun k ⟨hk,hI⟩=>⟨fun hlt=>?_,fun hge=>?_⟩
   ·have hlt:=Ot hlt;have hr:0<=(k:Int)/\(k:Int)<(s.size:Int):=⟨by omega,hlt⟩;refine⟨hr,fun _=>hr,fun _=>hr,fun _ _=>hr,fun hno=>?_,fun hyes=>⟨⟨by omega,by omega⟩,Qr (by omega) ⟨by omega,fun j hj=>?_⟩⟩⟩
    ·rw[PU];rintro⟨_,_,h3⟩;have:=h3 k (by omega);unfold zqr at this;rw[this] at hno;cases hno
    ·by_cases hjk:j<k
     ·exact hI j hjk
     ·have:j=k:=by omega
      subst this;unfold zqr;rw[Bool.not_eq_false'] at hyes;exact hyes
   ·have hge:=Ou hge;have hk:k=s.size:=by omega
    subst hk;rw[Mk.2 ⟨⟨by omega,by omega⟩,h.2,hI⟩]
def Q6(gs:List ZA)(g:Int):Bool:=(decide (g>=0)&&decide (g<(gs.length:Int)))&&(gi gs g).used
theorem Q5{gs:List ZA}{g:Int}:Q6 gs g=true↔0<=g/\g<(gs.length:Int)/\(gi gs g).used=true:=by
 unfold Q6;simp[and_assoc]
def dep:Nat->List ZA->Int->Int
 | 0,_,g=>if g=0 then 0 else -1
 | f+1,gs,g=>if g=0 then 0 else if dep f gs (gi gs g).parent<0 then -1 else dep f gs (gi gs g).parent+1
def Tw:Nat->List ZA->Int->Int->Int
 | 0,_,_,_ => -1
 | f+1,gs,g,n=>if Q6 gs g=false then -1 else if g=0 then n else Tw f gs (gi gs g).parent (n+1)
theorem VN(gs:List ZA):∀(f:Nat) (g:Int),-1<=dep f gs g/\dep f gs g<=f
 | 0,g=>by simp only[dep]; split <;> omega
 | f+1,g=>by
  have:=VN gs f (gi gs g).parent;simp only[dep];split
  ·omega
  ·split <;> omega
theorem Kc(gs:List ZA):∀(f f':Nat) (g:Int),0<=dep f gs g->dep f gs g<=f'->dep f' gs g=dep f gs g
 | 0,f',g,h,_=>by
  simp only[dep] at h ⊢
  split at h
  ·rename_i hg
   cases f' <;> simp[dep,hg]
  ·omega
 | f+1,f',g,h,hle=>by
  simp only[dep] at h hle ⊢
  by_cases hg:g=0
  ·rw[if_pos hg]
   cases f' <;> simp[dep,hg]
  ·rw[if_neg hg] at h hle ⊢
   by_cases hd:dep f gs (gi gs g).parent<0
   ·rw[if_pos hd] at h; omega
   ·rw[if_neg hd] at hle ⊢
    cases f' with
    | zero=>omega
    | succ f'=>
     have:=Kc gs f f' (gi gs g).parent (by omega) (by omega);simp only[dep];rw[if_neg hg,this,if_neg hd]
theorem Y8(gs:List ZA)(f:Nat):dep f gs 0=0:=by cases f <;> simp[dep]
theorem zn5{gs:List ZA}{f:Nat}{g:Int}(h:dep f gs g=0):g=0:=by
 cases f with
 | zero=>simp only[dep] at h; split at h <;> first | assumption | omega
 | succ f=>
  simp only[dep] at h
  split at h
  ·assumption
  ·split at h <;> omega
structure ZU (gs:List ZA):Prop where
 len:gs.length=8
 ru:(gi gs 0).used=true
 rp:(gi gs 0).parent = -1
 rn:(gi gs 0).name=⟨[].toArray⟩
 nm:∀g:Int,1<=g->g<8->(gi gs g).used=true->JC (gi gs g).name=true
 par:∀g:Int,1<=g->g<8->(gi gs g).used=true->Q6 gs (gi gs g).parent=true
 dp:∀g:Int,1<=g->g<8->(gi gs g).used=true->0<=dep 3 gs g
 uniq:∀g h:Int,1<=h->h<g->g<8->(gi gs g).used=true->(gi gs h).used=true->¬((gi gs h).parent=(gi gs g).parent/\(gi gs h).name=(gi gs g).name)
noncomputable def Pf(gs:List ZA):Bool:=@decide (ZU gs) (Classical.propDecidable _)
theorem UT{gs:List ZA}:Pf gs=true↔ZU gs:=@decide_eq_true_iff _ (Classical.propDecidable _)
theorem D6{gs:List ZA}(h:¬ZU gs):Pf gs=false:=by
 cases hb:Pf gs with
 | false=>rfl
 | true=>exact absurd (UT.1 hb) h
theorem HF{gs:List ZA}(hp:∀g:Int,g≠0->Q6 gs g=true->Q6 gs (gi gs g).parent=true):∀(f:Nat) (g n:Int),Q6 gs g=true->Tw (f+1) gs g n=if dep f gs g<0 then -1 else n+dep f gs g
 | 0,g,n,hu=>by
  simp only[Tw,dep,hu]
  by_cases hg:g=0 <;> simp[hg]
 | f+1,g,n,hu=>by
  rw[Tw];simp only[hu]
  by_cases hg:g=0
  ·simp[hg,dep]
  ·have ih:=HF hp f (gi gs g).parent (n+1) (hp g hg hu);have hr:=VN gs f (gi gs g).parent;simp only[dep,if_neg hg];rw[ih]
   by_cases hd:dep f gs (gi gs g).parent<0
   ·simp[hd]
   ·have h2:¬(dep f gs (gi gs g).parent+1<0):=by omega
    simp[hd,h2]; omega
theorem zmc{gs:List ZA}{f:Nat}{g n:Int}(hg:g≠0)(h:Tw (f+1) gs g n≠-1):f≠0/\Q6 gs (gi gs g).parent=true:=by
 rw[Tw] at h
 by_cases hu:Q6 gs g=false
 ·rw[if_pos hu] at h; exact absurd rfl h
 ·rw[if_neg hu,if_neg hg] at h
  cases f with
  | zero=>exact absurd rfl h
  | succ f=>
   rw[Tw] at h
   by_cases hp:Q6 gs (gi gs g).parent=false
   ·rw[if_pos hp] at h; exact absurd rfl h
   ·exact⟨by omega,by simpa using hp⟩
structure zjq (gs:List ZA) (k:Int):Prop where
 each:∀g:Int,1<=g->g<k->(gi gs g).used=true->JC (gi gs g).name=true/\Yo (Tw 9 gs g 0) 1 3=true/\∀h:Int,1<=h->h<g->(gi gs h).used=true->¬((gi gs h).parent=(gi gs g).parent/\(gi gs h).name=(gi gs g).name)
theorem zm5{gs:List ZA}(hl:gs.length=8)(ru:(gi gs 0).used=true)(rp:(gi gs 0).parent = -1)(rn:(gi gs 0).name=⟨[].toArray⟩)(h:zjq gs 8):ZU gs:=by
 have par:∀g:Int,1<=g->g<8->(gi gs g).used=true->Q6 gs (gi gs g).parent=true:=fun g h1 h2 hu=>by
  have:=Qo.1 (h.each g h1 h2 hu).2.1;exact(zmc (f:=8) (n:=0) (by omega) (by show Tw 9 gs g 0≠-1; omega)).2
 have hp:∀g:Int,g≠0->Q6 gs g=true->Q6 gs (gi gs g).parent=true:=fun g hg hu=>by
  obtain⟨a,b,c⟩:=Q5.1 hu;exact par g (by omega) (by omega) c
 refine⟨hl,ru,rp,rn,fun g h1 h2 hu=>(h.each g h1 h2 hu).1,par,fun g h1 h2 hu=>?_,fun g k h1 h2 h3 hu hk=>(h.each g (by omega) h3 hu).2.2 k h1 h2 hk⟩;have h9:=Qo.1 (h.each g h1 h2 hu).2.1;rw[HF hp 8 g 0 (Q5.2 ⟨by omega,by omega,hu⟩)] at h9
 split at h9
 ·omega
 ·rename_i hd;have:=Kc gs 8 3 g (by omega) (by omega);omega
theorem zlj{gs:List ZA}(h:ZU gs):zjq gs 8:=by
 have hp:∀g:Int,g≠0->Q6 gs g=true->Q6 gs (gi gs g).parent=true:=fun g hg hu=>by
  obtain⟨a,b,c⟩:=Q5.1 hu;have:=h.len;exact h.par g (by omega) (by omega) c
 refine⟨fun g h1 h2 hu=>⟨h.nm g h1 h2 hu,?_,fun k h3 h4 hk=>h.uniq g k h3 h4 h2 hu hk⟩⟩;have hl:=h.len;rw[HF hp 8 g 0 (Q5.2 ⟨by omega,by omega,hu⟩)];have h3:=h.dp g h1 h2 hu;have hr:=VN gs 3 g;have:=Kc gs 3 8 g h3 (by omega);rw[this,if_neg (by omega)];have hz:dep 3 gs g≠0:=fun e=>by have:=zn5 e; omega
 exact Qo.2 (by omega)
section
variable {gs:List ZA}{ms:Nat->MG}{o:OA}{c:Nat}{w:Wo}{bs:List Nat}
theorem Mw.used(h:Mw bs w o gs ms){i:Int}(h0:0<=i)(h1:i<(gs.length:Int)):Q2 bs w o (Int.toNat i*14+0) [.bool (gi gs i).used]:=(h.cells i h0 h1).get 0 _ rfl
theorem Mw.parent(h:Mw bs w o gs ms){i:Int}(h0:0<=i)(h1:i<(gs.length:Int)):Q2 bs w o (Int.toNat i*14+1) [.int .i64 (gi gs i).parent]:=(h.cells i h0 h1).get 1 _ rfl
theorem Mw.name(h:Mw bs w o gs ms){i:Int}(h0:0<=i)(h1:i<(gs.length:Int)):Q2 bs w o (Int.toNat i*14+2) [.string (gi gs i).name]:=(h.cells i h0 h1).get 2 _ rfl
theorem YR{g:Int}(h:Mw bs w o gs ms):PX bs ZL #[.slice o gs.length c,.int .i64 g] w (.bool (Q6 gs g)):=
 za1 o gs.length c g fun wr hx=>by
  have h:=(h.ext hx).less (cs:=[]) (by simp);refine⟨fun q=>?_,(gi gs g).used,fun q=>?_,rfl⟩
  ·have q:0<=g/\g<(gs.length:Int):=by simpa using q
   exact h.ix q.1 q.2
  ·have q:0<=g/\g<(gs.length:Int):=by simpa using q
   exact h.used q.1 q.2
theorem OK{g:Int}(h:Mw bs w o gs ms)(hl:gs.length<maxLen):PX bs XZ #[.slice o gs.length c,.int .i64 g] w (.int .i64 (Tw (gs.length+1) gs g 0)):=
 AI o gs.length c g fun wr hx=>by
  have h:=(h.ext hx).less (cs:=[]) (by simp);refine Tx (gs.length+1) 0 rfl (fun x k=>k<=gs.length+1/\Tw (gs.length+1-k) gs x k=Tw (gs.length+1) gs g 0) ⟨by omega,rfl⟩ fun x k ⟨hk,he⟩=>⟨fun hlt=>?_,fun hge=>?_⟩
  ·have hlt:=Ot hlt;have hf:gs.length+1-k=(gs.length-k)+1:=by omega
   rw[hf,Tw] at he;refine⟨_,YR h,fun hu=>?_,fun hu=>?_⟩
   ·have hu:Q6 gs x=false:=by simpa using hu
    rw[if_pos hu] at he;rw[<-he]
   ·have hu:Q6 gs x=true:=by simpa using hu
    rw[if_neg (by simp[hu])] at he;obtain⟨u1,u2,u3⟩:=Q5.1 hu;refine⟨fun hz=>?_,fun hz=>?_⟩
    ·rw[if_pos (by simpa using hz)] at he;rw[<-he]
    ·rw[if_neg (by simpa using hz)] at he;have hm:=Xa;refine⟨h.ix u1 u2,_,h.parent u1 u2,⟨by omega,by omega⟩,QA (by omega) ⟨by omega,?_⟩⟩;rw[<-he,show gs.length+1-(k+1)=gs.length-k by omega];rfl
  ·have hge:=Ou hge;have:gs.length+1-k=0:=by omega
   rw[this] at he;rw[<-he]; rfl
theorem LK(h:Mw bs w o gs ms)(hl:gs.length<=maxLen):PX bs Vg #[.slice o gs.length c] w (.bool (Pf gs)):=
 zax o gs.length c fun wr hx=>by
  have h:=(h.ext hx).less (cs:=[]) (by simp);have l8:((((gs.length:Nat):Int) != 8)=false)->gs.length=8:=fun q=>by have:=(bne_eq_false_iff_eq).1 q; omega
  have i0:∀q:(((gs.length:Nat):Int) != 8)=false,(0:Int)<(gs.length:Int):=fun q=>by have:=l8 q; omega
  refine⟨fun q=>h.ix (Int.le_refl _) (i0 q),(gi gs 0).used,fun q=>h.used (Int.le_refl _) (i0 q),fun q=>?_,(gi gs 0).parent,fun q=>?_,fun q=>?_,(gi gs 0).name,fun q=>?_,fun q=>?_,fun q=>?_⟩
  ·simp only[Bool.or_eq_false_iff] at q; exact h.ix (Int.le_refl _) (i0 q.1)
  ·simp only[Bool.or_eq_false_iff] at q; exact h.parent (Int.le_refl _) (i0 q.1)
  ·simp only[Bool.or_eq_false_iff] at q; exact h.ix (Int.le_refl _) (i0 q.1.1)
  ·simp only[Bool.or_eq_false_iff] at q; exact h.name (Int.le_refl _) (i0 q.1.1)
  ·rw[D6];intro ht;have e:((gs.length:Nat):Int)=8:=by have:=ht.len; omega
   rw[e,ht.ru,ht.rp,ht.rn,D2] at q;simp at q
  ·simp only[Bool.or_eq_false_iff,Bool.not_eq_false',bne_eq_false_iff_eq,J9] at q;obtain⟨⟨⟨q1,ru⟩,rp⟩,rn⟩:=q;have hl8:gs.length=8:=by omega
   refine YE 8 1 rfl (fun k=>1<=k/\k<=8/\zjq gs k) ⟨Nat.le_refl _,by omega,⟨fun g h1 h2=>by omega⟩⟩ fun k ⟨hk1,hk,hS⟩=>⟨fun hlt=>?_,fun hge=>?_⟩
   ·have hlt:=Ot hlt;have hk0:(0:Int)<=(k:Int):=by omega
    have step:((gi gs (k:Int)).used=true->JC (gi gs (k:Int)).name=true/\Yo (Tw 9 gs (k:Int) 0) 1 3=true/\∀h:Int,1<=h->h<(k:Int)->(gi gs h).used=true->¬((gi gs h).parent=(gi gs (k:Int)).parent/\(gi gs h).name=(gi gs (k:Int)).name))->zjq gs ((k+1:Nat):Int):=fun hst=>⟨fun g h1 h2 hu=>by
     by_cases hgk:g<(k:Int)
     ·exact hS.each g h1 hgk hu
     ·have:g=(k:Int):=by omega
      subst this; exact hst hu⟩
    refine⟨h.ix hk0 hlt,_,h.used hk0 hlt,fun hu=>⟨⟨by omega,by omega⟩,Qr (by omega) ⟨by omega,by omega,step fun hu'=>by rw[hu'] at hu; cases hu⟩⟩,fun hu=>?_⟩;have hu:(gi gs (k:Int)).used=true:=by simpa using hu
    refine⟨h.ix hk0 hlt,_,h.name hk0 hlt,_,LJ,Tw 9 gs (k:Int) 0,fun _=>?_,Yo (Tw 9 gs (k:Int) 0) 1 3,fun _=>Qj,fun q=>?_,fun q=>?_⟩
    ·have:=OK (c:=c) (g:=(k:Int)) h (by rw[hl8]; simp[maxLen])
     rwa[hl8] at this ⊢
    ·rw[D6];intro ht;have:=(zlj ht).each (k:Int) (by omega) (by omega) hu;rw[this.1,this.2.1] at q;cases q
    ·simp only[Bool.or_eq_false_iff,Bool.not_eq_false'] at q;refine YE k 1 rfl (fun j=>1<=j/\j<=k/\∀h:Int,1<=h->h<(j:Int)->(gi gs h).used=true->¬((gi gs h).parent=(gi gs (k:Int)).parent/\(gi gs h).name=(gi gs (k:Int)).name)) ⟨Nat.le_refl _,hk1,fun g h1 h2=>by omega⟩ fun j ⟨hj1,hjk,hJ⟩=>⟨fun hlt2=>?_,fun hge2=>?_⟩
     ·have hlt2:=Ot hlt2;have hj0:(0:Int)<=(j:Int):=by omega
      have hjl:(j:Int)<(gs.length:Int):=by omega
      refine⟨h.ix hj0 hjl,_,h.used hj0 hjl,fun _=>h.ix hj0 hjl,_,fun _=>h.parent hj0 hjl,fun _=>h.ix hk0 hlt,_,fun _=>h.parent hk0 hlt,fun _=>h.ix hj0 hjl,_,fun _=>h.name hj0 hjl,fun _=>h.ix hk0 hlt,_,fun _=>h.name hk0 hlt,fun hs=>?_,fun hs=>⟨⟨by omega,by omega⟩,Qr (by omega) ⟨by omega,by omega,fun g h1 h2 hg=>?_⟩⟩⟩
      ·rw[D6];intro ht;simp only[Bool.and_eq_true,beq_iff_eq,J9] at hs;exact ht.uniq (k:Int) (j:Int) (by omega) hlt2 (by omega) hu hs.1.1 ⟨hs.1.2,hs.2⟩
      ·by_cases hgj:g<(j:Int)
       ·exact hJ g h1 hgj hg
       ·have:g=(j:Int):=by omega
        subst this;rintro⟨e1,e2⟩;rw[hg,e1,e2,D2] at hs;simp at hs
     ·have hge2:=Ou hge2;have:j=k:=by omega
      subst this;exact⟨⟨by omega,by omega⟩,Qr (by omega) ⟨by omega,by omega,step fun _=>⟨q.1,q.2,hJ⟩⟩⟩
   ·have hge:=Ou hge;have:k=8:=by omega
    subst this;rw[UT.2 (zm5 hl8 ru rp rn hS)]
def VF:Nat->List ZA->Int->Int->Bool
 | 0,_,g,h=>h==g
 | f+1,gs,g,h=>h==g||(h != 0&&VF f gs g (gi gs h).parent)
noncomputable def TZ(gs:List ZA)(g h:Int):Bool:=Pf gs&&Q6 gs g&&Q6 gs h&&VF 3 gs g h
theorem ZZ{gs:List ZA}(ht:ZU gs){h:Int}(hu:Q6 gs h=true)(hz:h≠0):Q6 gs (gi gs h).parent=true/\0<=h/\h<(gs.length:Int)/\∃d:Nat,dep 3 gs h=(d:Int)+1/\dep 3 gs (gi gs h).parent=(d:Int)/\d<3:=by
 obtain⟨a,b,u⟩:=Q5.1 hu;have hl:=ht.len;have h1:1<=h:=by omega
 have hd:=ht.dp h h1 (by omega) u;refine⟨ht.par h h1 (by omega) u,a,b,?_⟩;have hr:=VN gs 2 (gi gs h).parent;have e:dep 3 gs h=if dep 2 gs (gi gs h).parent<0 then -1 else dep 2 gs (gi gs h).parent+1:=by simp only[dep,if_neg hz]
 rw[e] at hd ⊢
 split at hd
 ·omega
 ·rename_i hn;rw[if_neg hn];have:=Kc gs 2 3 (gi gs h).parent (by omega) (by omega);exact⟨(dep 2 gs (gi gs h).parent).toNat,by omega,by omega,by omega⟩
theorem zl6{gs:List ZA}(ht:ZU gs)(g:Int):∀(f f':Nat) (h:Int),Q6 gs h=true->dep 3 gs h<=f->dep 3 gs h<=f'->VF f gs g h=VF f' gs g h:=by
 intro f
 induction f with
 | zero=>
  intro f' h hu h1 h2
  have hz:h=0:=Decidable.byContradiction fun hz=>by
   obtain⟨_,_,_,d,e,_⟩:=ZZ ht hu hz;omega
  subst hz
  cases f' <;> simp[VF]
 | succ f ih=>
  intro f' h hu h1 h2
  by_cases hz:h=0
  ·subst hz
   cases f' <;> simp[VF]
  ·obtain⟨hp,_,_,d,e,e2,_⟩:=ZZ ht hu hz
   cases f' with
   | zero=>omega
   | succ f'=>
    simp only[VF];rw[ih f' (gi gs h).parent hp (by omega) (by omega)]
theorem zbp{gs:List ZA}(ht:ZU gs){g h:Int}(hu:Q6 gs h=true)(hz:h≠0)(hg:h≠g):VF 3 gs g h=VF 3 gs g (gi gs h).parent:=by
 obtain⟨hp,_,_,d,e,e2,hd⟩:=ZZ ht hu hz;rw[<-zl6 ht g 2 3 (gi gs h).parent hp (by omega) (by omega)];have e3:VF 3 gs g h=(h==g||(h != 0&&VF 2 gs g (gi gs h).parent)):=rfl;rw[e3];have e4:(h==g)=false:=by simpa using hg
 have e5:(h != 0)=true:=by simpa using hz
 rw[e4,e5,Bool.false_or,Bool.true_and]
theorem T5{g h:Int}(hr:Mw bs w o gs ms)(hl:gs.length<=maxLen):PX bs Xh #[.slice o gs.length c,.int .i64 g,.int .i64 h] w (.bool (TZ gs g h)):=
 Es o gs.length c g h fun wr hx=>by
  have hr:=(hr.ext hx).less (cs:=[]) (by simp);refine⟨_,LK hr hl,_,fun _=>YR hr,_,fun _=>YR hr,fun q=>?_,fun q=>?_⟩
  ·have:TZ gs g h=false:=by
    unfold TZ
    cases h1:Pf gs <;> cases h2:Q6 gs g <;> cases h3:Q6 gs h <;> simp_all
   rw[this]
  ·simp only[Bool.or_eq_false_iff,Bool.not_eq_false'] at q;obtain⟨⟨q1,q2⟩,q3⟩:=q;have ht:=UT.1 q1;have hU:TZ gs g h=VF 3 gs g h:=by unfold TZ; rw[q1,q2,q3]; rfl
   refine⟨fun vs=>∃x:Int,vs=[.int .i64 x]/\Q6 gs x=true/\VF 3 gs g x=VF 3 gs g h,fun vs=>(dep 3 gs (Y5 0 vs)).toNat,⟨h,rfl,q3,rfl⟩,?_⟩;rintro x ⟨x',he,hu,hI⟩;simp only[List.cons.injEq,Value.int.injEq,true_and,and_true] at he;subst he;refine⟨fun hne=>⟨fun hz=>?_,fun hz=>?_⟩,fun heq=>?_⟩
   ·have hz:x=0:=by simpa using hz
    subst hz
    have:VF 3 gs g 0=false:=by
     have:¬(0=g):=by simpa using hne
     simp[VF,this]
    rw[hU,<-hI,this]
   ·have hz:x≠0:=by simpa using hz
    have hne:x≠g:=by simpa using hne
    obtain⟨hp,a,b,d,e,e2,hd⟩:=ZZ ht hu hz;refine⟨hr.ix a b,_,hr.parent a b,⟨_,rfl,hp,by rw[<-zbp ht hu hz hne]; exact hI⟩,?_⟩;show (dep 3 gs (gi gs x).parent).toNat<(dep 3 gs x).toNat;omega
   ·have heq:x=g:=by simpa using heq
    subst heq;rw[hU,<-hI];simp[VF]
end
theorem zl3{s:ByteArray}{i:Nat}(h:i<s.size):((s.get! i).toNat:Int)=Jo s (i:Int):=by
 have hi:i<s.data.size:=h;unfold Jo;rw[Int.toNat_natCast];simp[ByteArray.get!,getElem!_pos s.data i hi,Array.getD,h]
theorem zbl{s:ByteArray}{i:Nat}(h:(s.get! i).toNat<128):Utf8.decode s i=((s.get! i).toNat,1):=by
 simp only[Utf8.decode,Nat.add_zero];rw[if_pos h]
theorem zlu{s:ByteArray}{i:Nat}(h:¬(s.get! i).toNat<128):128<=(Utf8.decode s i).1/\1<=(Utf8.decode s i).2:=by
 simp only[Utf8.decode,Nat.add_zero,Utf8.runeError];rw[if_neg h];split
 ·split
  ·rename_i h1; exact⟨h1,by show 1<=2; omega⟩
  ·exact⟨by decide,by decide⟩
 ·split
  ·split
   ·rename_i h1;simp only[ge_iff_le,Bool.and_eq_true,decide_eq_true_eq] at h1;exact⟨by show 128<=_; omega,by show 1<=3; omega⟩
   ·exact⟨by decide,by decide⟩
  ·split
   ·split
    ·rename_i h1;simp only[ge_iff_le,Bool.and_eq_true,decide_eq_true_eq] at h1;exact⟨by show 128<=_; omega,by show 1<=4; omega⟩
    ·exact⟨by decide,by decide⟩
   ·exact⟨by decide,by decide⟩
theorem zl9(w:Wo)(b:Nat)(s:ByteArray)(p:Nat):Q0 [b] w (OG w b s p):=
 ⟨rfl,rfl,rfl,by simp[OG],fun k _ hk=>by
  have:b≠k:=fun e=>hk (by simp[e])
  simp only[OG];rw[Array.getElem?_setIfInBounds_ne this]⟩
theorem zou{w:Wo}{b:Nat}{s:ByteArray}{p:Nat}(h:b<w.heap.size):(OG w b s p).heap[b]? = some (.stringIter s p):=by
 simp[OG,h]
def zta(b:Nat)(w:Wo):Nat:=match w.heap[b]? with
 | some (.stringIter s p)=>s.size+1-p
 | _=>0
theorem zft{s:ByteArray}(h1:Zg s (⟨[119,101,105,103,104,116].toArray⟩)=false)(h2:Zg s (⟨[109,97,120].toArray⟩)=false)(h3:Zg s (⟨[99,112,117,115].toArray⟩)=false)(h4:Zg s (⟨[112,114,111,99,115].toArray⟩)=false)(h5:Zg s (⟨[115,116,97,116].toArray⟩)=false):P7 s=false:=by
 unfold P7; rw[h1,h2,h3,h4,h5]; rfl
theorem Tz{s:ByteArray}(h:P7 s=true):JC s=false:=PU fun ⟨_,h2,_⟩=>by rw[h] at h2; cases h2
theorem y7{s:ByteArray}{w:Wo}{bs:List Nat}:PX bs On #[.string s] w (.bool (JC s)):=by
 refine HU fun wr hx=>CY s (R:=fun v w'=>v=.bool (JC s)/\Q0 [] wr w') ?_
 refine⟨fun h=>?_,fun h1=>⟨fun h=>?_,fun h2=>⟨fun h=>?_,fun h3=>⟨fun h=>?_,fun h4=>⟨fun h=>?_,fun h5=>?_⟩⟩⟩⟩⟩
 ·intro w1 hx1; rw[Tz (by unfold P7; rw[h]; rfl)]; exact⟨rfl,hx1⟩
 ·intro w1 hx1; rw[Tz (by unfold P7; rw[h]; simp)]; exact⟨rfl,hx1⟩
 ·intro w1 hx1; rw[Tz (by unfold P7; rw[h]; simp)]; exact⟨rfl,hx1⟩
 ·intro w1 hx1; rw[Tz (by unfold P7; rw[h]; simp)]; exact⟨rfl,hx1⟩
 ·intro w1 hx1; rw[Tz (by unfold P7; rw[h]; simp)]; exact⟨rfl,hx1⟩
 ·have hf:=zft h1 h2 h3 h4 h5;refine⟨_,QH,fun h=>?_,fun h=>?_⟩
  ·intro w1 hx1;have h:Yo (s.size:Int) 1 8=false:=by simpa using h
   have h:=zs5.1 h;rw[PU fun ⟨h6,_⟩=>h (by omega)];exact⟨rfl,hx1⟩
  ·have h:Yo (s.size:Int) 1 8=true:=by simpa using h
   have h:=Qo.1 h;intro w1 hx1 _;refine⟨some ⟨w1.heap.size,0,none⟩,w1.alloc (.stringIter s 0),by simp[Instr.range,run_underlying Cb],Tv,?_⟩;have hb0:(w1.alloc (.stringIter s 0)).heap[w1.heap.size]? = some (.stringIter s 0):=Array.getElem?_push_size ..;have hX0:Q0 [] wr (w1.alloc (.stringIter s 0)):=hx1.trans (QV w1 _);have hbr:wr.heap.size<=w1.heap.size:=hx1.size;generalize w1.heap.size=b at hb0 hbr;generalize w1.alloc (.stringIter s 0)=w2 at hb0 hX0;refine⟨fun vs w'=>vs=[]/\Q0 [] wr w'/\∃p:Nat,p<=s.size/\w'.heap[b]? = some (.stringIter s p)/\∀j:Nat,j<p->zqr (Jo s (j:Int))=true,fun _ w'=>zta b w',fun w3 hx3 _=>⟨rfl,hX0.trans hx3,0,Nat.zero_le _,ZP hb0 hx3 (by simp),fun j hj=>absurd hj (Nat.not_lt_zero j)⟩,?_⟩;intro w3 _ ⟨_,hX,p,hp,hb,hI⟩ w4 hx4 _;have hb4:=ZP hb hx4 (by simp);refine⟨b,s,p,rfl,by simp,hb4,fun hge=>⟨(by intro q; cases q),fun _ w5 hx5=>?_⟩,fun hlt=>⟨fun _=>?_,by intro q; cases q⟩⟩
   ·have:p=s.size:=by omega
    subst this;rw[Mk.2 ⟨⟨by omega,by omega⟩,hf,hI⟩];exact⟨rfl,(hX.trans hx4).trans hx5⟩
   ·have hX5:Q0 [] wr (OG w4 b s (p+(Utf8.decode s p).2)):=(hX.trans hx4).fresh (zl9 w4 b s _) fun x hm=>.inl (by rw[List.mem_singleton.1 hm]; exact hbr)
    have hg:=zl3 hlt;refine⟨fun hno=>?_,fun hyes=>?_⟩
    ·intro w5 hx5
     have hno':JC s=false:=PU fun ⟨_,_,h3⟩=>by
      have h3:=h3 p hlt
      by_cases hlo:(s.get! p).toNat<128
      ·rw[zbl hlo] at hno;simp only[hg] at hno;unfold zqr at h3;rw[h3] at hno;cases hno
      ·unfold zqr at h3;simp only[Bool.or_eq_true,Bool.and_eq_true,decide_eq_true_eq] at h3;omega
     rw[hno'];exact⟨rfl,hX5.trans hx5⟩
    ·intro w5 hx5 _
     by_cases hlo:(s.get! p).toNat<128
     ·rw[zbl hlo] at hyes hX5 hx5;simp only[hg] at hyes;have hat:=ZP (zou (s:=s) (p:=p+1) (VM hb4)) hx5 (by simp);refine⟨⟨rfl,hX5.trans hx5,p+1,by omega,hat,fun j hj=>?_⟩,?_⟩
      ·by_cases hjp:j<p
       ·exact hI j hjp
       ·have:j=p:=by omega
        subst this;unfold zqr;rw[Bool.not_eq_false'] at hyes;exact hyes
      ·simp only[zta,hat,hb];omega
     ·exfalso
      have:=zlu hlo;rw[Bool.not_eq_false'] at hyes;simp only[Bool.or_eq_true,Bool.and_eq_true,decide_eq_true_eq] at hyes;omega
end Go.Proofs.YtnclplgaicdapaaGreatDoor
