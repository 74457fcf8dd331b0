/- Part 13 of what the law FnLast needs. -/
import Derived.Test.YtnclplgaicdapaaGreatDoorFnLastPl
import Derived.Shelf.Abstract
set_option linter.unusedVariables false
set_option linter.unusedSimpArgs false
set_option maxRecDepth 100000
set_option maxHeartbeats 8000000
namespace Go.Proofs.YtnclplgaicdapaaGreatDoor
open Go.RowKit
theorem NW{P:Program}{fn:Func}{R:Ending->Wo->Prop}{a:Act}{w:Wo}{D:Nat}(hd:a.defers=[N8 D])(hD:w.heap[D]? = some (.deferred (some [])))(h:∀w',Q0 [D] w w'->∃v,(results fn a.tmps).run P w'=.ok v w'/\R (.returned v) w') :
  bodyPostM (Vo none) 0 P fn R .normal a w/\bodyPostM (Vo none) 0 P fn R .ret a w:=by
 have:LeavesInM (Vo none) 0 P fn a.tmps R a.defers .returning w:=by
  rw[hd];obtain⟨v,hr,hR⟩:=h _ (Yg _ _ _);exact⟨Qs,.inl ⟨_,_,rfl,run_takeDeferred hD,⟨v,hr,hR⟩⟩⟩
 exact⟨this,this⟩
theorem zzg:Uv zpa Qb=some ⟨false,[.int .i64],.int .i64⟩:=Qk
theorem zgr{fn:Func}{p:Tmp}(h:fn.results=#[.cell p Qb]){tmps:Array Va}{b:Nat}{n:Int}{w:Wo}{t:TypeId}(hp:tmps.getD p undef=.pointer (some ⟨b,0,none⟩))(hb:w.heap[b]? = some (.cells ([I n]:List Va).toArray t (0,0))) :
  (results fn tmps).run Tryz.prog w=.ok (I n) w:=by
 have hl:=VL z3i zzg (vs:=[I n]) (v:=I n) rfl rfl (a:=⟨b,0,none⟩) (w:=w) (λj x hx=>by rw[Addr.add_lit,V0 hb]; simpa using hx);have hp':tmps[p]?.getD undef=.pointer (some ⟨b,0,none⟩):=by simpa using hp
 simp[results,h,hp',asAddr,hl]
theorem zhi(m:Int):(G0 m 4=[]/\TJ m = -1)\/(0<(G0 m 4).length/\TJ m=gi (G0 m 4) ((0:Nat):Int)):=by
 have e:G0 m 4=([0,1,2,3]:List Nat).filterMap λ(i:Nat)=>if Z0 m (i:Int)=true then some (i:Int) else none:=by
  unfold G0;rw[show List.range 4=[0,1,2,3] from rfl]
  cases h0:Z0 m ((0:Nat):Int) <;> cases h1:Z0 m ((1:Nat):Int) <;> cases h2:Z0 m ((2:Nat):Int) <;> cases h3:Z0 m ((3:Nat):Int) <;> simp[List.filter,h0,h1,h2,h3] <;> simp_all
 rw[e];unfold TJ;have i1:((1:Nat):Int)=1:=rfl;have i2:((2:Nat):Int)=2:=rfl;have i3:((3:Nat):Int)=3:=rfl
 cases h0:Z0 m 0 <;> cases h1:Z0 m 1 <;> cases h2:Z0 m 2 <;> cases h3:Z0 m 3 <;> simp[h0,h1,h2,h3,gi,i1,i2,i3]
theorem zle:JX Tryz.f119=zoz YZ (.seq (.seq XV (.block 0 (.rangeFunc (.tmp 5) #[6] XU Xx))) Xy):=Qk
theorem BT{m:Int}{w:Wo}:Cz MK #[.int .i64 m] w λe w'=>e=.returned (.int .i64 (TJ m))/\Q0 [] w w':=by
 refine EP (args:=[.int .i64 m]) (n:=8) Tryz.func119 (body:=JX Tryz.f119) rfl Qk Qs λa hn ha hd=>?_
 rw[zle];have a0:=ha 0 _ rfl;refine Gq none (R:=λe vs w1=>e=.normal/\∃b:Nat,vs=[.pointer (some ⟨b,0,none⟩)]/\w.heap.size<=b/\w1.heap[b]? = some (.cells ([.int .i64 0]:List Va).toArray Qb (0,0))/\Q0 [] w w1) hn ?_ ?_ ?_ (λe vs a1 w1 fH hR _=>Is hR.1 fH)
 ·intro p hp;cases hp
 ·intro b wb hx hb0 Ws _ wr R3;exact⟨rfl,b,rfl,hb0,QQ Ws R3 Qs,hx.trans R3⟩
 rintro vs a2 w1 ⟨_,b,rfl,hwb,hB,hX⟩ fo
 have o2:a2.tmps.getD 2 undef=.pointer (some ⟨b,0,none⟩):=by
  have:=fo.out
  simpa using this
 have o0:a2.tmps.getD 0 undef=.int .i64 m:=(fo.kept 0 (by decide +kernel)).trans a0;refine wpIn_seq (wpIn_seq (Gp none m (R:=λe vs w2=>e=.normal/\∃bm:Nat,vs=[.func (.func QH) #[] #[.pointer (some ⟨bm,0,none⟩)]]/\Q1 [] w2 (some ⟨bm,0,none⟩) 0 [.int .i64 m]/\w1.heap.size<=bm/\Q0 [] w1 w2) (by rw[fo.size,hn]) (λp hp=>?_) (λwr hx _=>?_) λe vs a3 w2 hR fo3=>?_))
 ·simp only[Ij,List.not_mem_nil,or_false] at hp;subst hp;exact⟨Il rfl,o0⟩
 ·refine(zhc (m:=m)).mono λe w2 ⟨bm,hbm,he,hcm,Ra⟩=>⟨_,_,_,he,Yo,λJ' SZ=>⟨rfl,bm,rfl,hcm.ext SZ,by have:=hx.size; omega,(hx.trans Ra).trans SZ⟩⟩
 obtain⟨rfl,bm,rfl,hcm,hbm,R3⟩:=hR
 have p5:a3.tmps.getD 5 undef=.func (.func QH) #[] #[.pointer (some ⟨bm,0,none⟩)]:=by
  have:=fo3.out
  simpa using this
 have p2:=(fo3.kept 2 (by decide +kernel)).trans o2;have BS8:a3.tmps.size=8:=by rw[fo3.size,fo.size,hn]
 have hd3:a3.defers=[]:=by rw[fo3.defers,fo.defers,hd]
 have hX2:=hX.trans R3;have hB2:=QQ hB R3 Qs;have hbL:=JW hB;have Cy2:=JW hB2;have Cy9:=zpw hcm
 have fin:∀{D:Nat} {W:Wo} {n:Int} {tm:Array Va},tm.getD 2 undef=.pointer (some ⟨b,0,none⟩)->W.heap[b]? = some (.cells ([.int .i64 n]:List Va).toArray Qb (0,0))->w2.heap.size<=D->Q0 [] w W->n=TJ m->∀w',Q0 [D] W w'->∃v,(results Tryz.f119 tm).run Tryz.prog w'=.ok v w'/\(Ending.returned v=.returned (.int .i64 (TJ m))/\Q0 [] w w'):=λ{D W n tm} h2 hW hD hXW hn w' hx=>by
  subst hn;refine⟨_,zgr Qk h2 (QQ hW hx λhm=>?_),rfl,hXW.fresh hx λx hm=>.inl ?_⟩
  ·have:b=D:=by simpa using hm
   omega
  ·have:x=D:=by simpa using hm
   have:=hX2.size;omega
 refine wpIn_block (zwa (gf:=QH) (lb:=#[.pointer (some ⟨bm,0,none⟩)]) p5 (enters_of Tryz.func233 Qk rfl)
  (λk W1=>k=0/\W1.heap[b]? = some (.cells ([.int .i64 0]:List Va).toArray Qb (0,0))/\Q1 [] W1 (some ⟨bm,0,none⟩) 0 [.int .i64 m]/\Q0 [] w W1)
  (λcd W1=>cd=.ret/\W1.heap[b]? = some (.cells ([.int .i64 (TJ m)]:List Va).toArray Qb (0,0))/\Q0 [] w W1) (G0 m 4).length (λk=>[.int .i64 (gi (G0 m 4) (k:Int))])
  (λk W1 W2 ys h hx hy=>⟨h.1,QQ h.2.1 hx λhm=>by have:=hy _ hm; omega,Hc h.2.2.1 hx λhm=>by have:=hy _ hm; omega,h.2.2.2.fresh hx λx hm=>.inl (by have:=hy x hm; have:=hX2.size; omega)⟩)
  (λcd W1 W2 ys h hx hy=>⟨h.1,QQ h.2.1 hx λhm=>by have:=hy _ hm; omega,h.2.2.fresh hx λx hm=>.inl (by have:=hy x hm; have:=hX2.size; omega)⟩)
  ⟨rfl,hB2,hcm,hX2⟩ (λk=>rfl) (zb8 (m:=m) (bm:=bm) (w:=w2) (I:=λk W1=>k=0/\W1.heap[b]? = some (.cells ([.int .i64 0]:List Va).toArray Qb (0,0))/\Q1 [] W1 (some ⟨bm,0,none⟩) 0 [.int .i64 m]/\Q0 [] w W1) (λk W1 h=>h.2.2.1)) ?_ ?_ ?_)
 ·rintro l k W hk ⟨rfl,hb,hc,hXW⟩ hl
  have tF:TJ m=gi (G0 m 4) ((0:Nat):Int):=by
   rcases zhi m with h | h
   ·rw[h.1] at hk; simp at hk
   ·exact h.2
  rw[zlg];refine Gn (some l) (gi (G0 m 4) ((0:Nat):Int)) (R:=λe vs W1=>e=.normal/\vs=[.int .i64 (gi (G0 m 4) ((0:Nat):Int))]/\Q0 [] W W1) (by simpa using BS8) (λp hp=>?_) (λwr hx=>⟨rfl,rfl,hx⟩) λe vs a4 W1 hR fo4=>?_
  ·simp only[Ij,List.not_mem_nil,or_false] at hp;subst hp;exact⟨Il rfl,zfj (i:=6) (by rw[BS8]; decide)⟩
  obtain⟨rfl,rfl,SZ⟩:=hR
  have q3:a4.tmps.getD 3 undef=.int .i64 (gi (G0 m 4) ((0:Nat):Int)):=by
   have:=fo4.out
   simpa using this
  have q2:a4.tmps.getD 2 undef=.pointer (some ⟨b,0,none⟩):=((fo4.kept 2 (by decide +kernel)).trans (Gr (i:=6) (j:=2) Qd)).trans p2;refine⟨⟨[],SZ,Qs⟩,λW2 Sw=>?_⟩
  have hbn:b∉[l]:=λhm=>by
   have:b=l:=by simpa using hm
   omega
  have hb5:=QQ (QQ hb SZ Qs) Sw hbn
  have hX5:Q0 [] w W2:=(hXW.trans SZ).fresh Sw λx hm=>.inl (by
   have:x=l:=by simpa using hm
   have:=hX2.size;omega)
  refine LF (some l) (some ⟨b,0,none⟩) (gi (G0 m 4) ((0:Nat):Int)) (R:=λe _ W3=>e=.ret/\(∃X,Q0 X W2 W3/\∀x∈X,x<w2.heap.size)/\W3.heap[b]? = some (.cells ([.int .i64 (TJ m)]:List Va).toArray Qb (0,0))/\Q0 [] w W3) (by rw[fo4.size]; simpa using BS8) (λp hp=>?_) ⟨MS (k0:=0) hb5 Qs Qs,λwr hx=>?_⟩ λe vs a5 W3 hR _=>?_
  ·simp only[Ij,List.not_mem_nil,or_false] at hp;rcases hp with rfl | rfl
   ·exact⟨Il rfl,q2⟩
   ·exact⟨Il rfl,q3⟩
  ·have e1:Q0 [b] W2 (R8 W2 (some ⟨b,0,none⟩) 0 [.int .i64 (gi (G0 m 4) ((0:Nat):Int))]):=Ub (bs:=[b]) Qs;have eX:Q0 [b] W2 wr:=e1.trans hx.of_nil;refine⟨rfl,⟨[b],eX,λx hm=>?_⟩,?_,hX5.fresh eX λx hm=>.inl ?_⟩
   ·have:x=b:=by simpa using hm
    omega
   ·rw[tF];exact QQ (OD (vs:=[.int .i64 (gi (G0 m 4) ((0:Nat):Int))]) (n:=0) hb5) hx Qs
   ·have:x=b:=by simpa using hm
    omega
  ·obtain⟨rfl,hX3,h3⟩:=hR;exact⟨hX3,rfl,h3⟩
 ·intro D W hD ⟨hN,hb,hc,hXW⟩ hdD
  have hm1:TJ m = -1:=by
   rcases zhi m with h | h
   ·exact h.2
   ·omega
  refine LG none (some ⟨b,0,none⟩) (R:=λe vs W1=>e=.ret/\W1.heap[b]? = some (.cells ([.int .i64 (-1)]:List Va).toArray Qb (0,0))/\(∃X,Q0 X W W1/\D∉X)/\Q0 [] w W1) BS8 (λp hp=>?_) ⟨MS (k0:=0) hb Qs Qs,λwr hx=>?_⟩ λe vs a6 W1 hR fo6=>?_
  ·simp only[Ij,List.not_mem_nil,or_false] at hp;subst hp;exact⟨Il rfl,p2⟩
  ·have e1:Q0 [b] W (R8 W (some ⟨b,0,none⟩) 0 [.int .i64 (-1)]):=Ub (bs:=[b]) Qs;have eX:Q0 [b] W wr:=e1.trans hx.of_nil;refine⟨rfl,QQ (OD (vs:=[.int .i64 (-1)]) (n:=0) hb) hx Qs,⟨[b],eX,λhm=>?_⟩,hXW.fresh eX λx hm=>.inl ?_⟩
   ·have:D=b:=by simpa using hm
    omega
   ·have:x=b:=by simpa using hm
    omega
  ·obtain⟨rfl,hb6,⟨X,bJ,hDX⟩,hX6⟩:=hR;exact(NW (D:=D) (by rw[fo6.defers]; simp[hd3]) ((bJ.block D (Array.getElem?_eq_some_iff.1 hdD).1 hDX).trans hdD) (fin ((fo6.kept 2 (by decide +kernel)).trans p2) hb6 hD hX6 hm1.symm)).2
 ·intro D cd W hD ⟨hcd,hb,hXW⟩ hdD;subst hcd;exact wpIn_ret (NW (a:={ a3 with defers:=N8 D::a3.defers }) (D:=D) (by simp[hd3]) hdD (fin p2 hb hD hXW rfl)).2
theorem zys{m:Int}{k:Nat}(h4:k<4)(lA:∀j:Nat,j<k->Z0 m (j:Int)=false)(h:Z0 m (k:Int)=true):TJ m=(k:Int):=by
 have h0:=lA 0;have h1:=lA 1;have h2:=lA 2;have:k=0\/k=1\/k=2\/k=3:=Qo;unfold TJ;rcases this with rfl | rfl | rfl | rfl
 ·rw[E' (show Z0 m 0=true from h)]; rfl
 ·rw[C' (by rw[show Z0 m 0=false from h0 Qd]; decide),E' (show Z0 m 1=true from h)]; rfl
 ·rw[C' (by rw[show Z0 m 0=false from h0 Qd]; decide),C' (by rw[show Z0 m 1=false from h1 Qd]; decide),E' (show Z0 m 2=true from h)]; rfl
 ·rw[C' (by rw[show Z0 m 0=false from h0 Qd]; decide),C' (by rw[show Z0 m 1=false from h1 Qd]; decide),C' (by rw[show Z0 m 2=false from h2 Qd]; decide),E' (show Z0 m 3=true from h)]; rfl
theorem zyt{m:Int}(lA:∀j:Nat,j<4->Z0 m (j:Int)=false):TJ m = -1:=by
 unfold TJ;rw[C' (by rw[show Z0 m 0=false from lA 0 Qd]; decide),C' (by rw[show Z0 m 1=false from lA 1 Qd]; decide),C' (by rw[show Z0 m 2=false from lA 2 Qd]; decide),C' (by rw[show Z0 m 3=false from lA 3 Qd]; decide)]
section
variable {base:Nat}{W W':Q7}{m:MW}{w:Wo}{bar:Int}
theorem Kr{x:Int}{bs:List Nat}:PX bs U4 #[I x] w (I (TJ x)):=
 Nn x λwr hx=>by
  refine XB 4 0 rfl (λk=>k<=4/\∀j:Nat,j<k->Z0 x (j:Int)=false) ⟨Qd,λj hj=>Is hj (Nat.not_lt_zero j)⟩ λk ⟨hk,lA⟩=>⟨λIT=>?_,λRN=>?_⟩
  ·have IT:=Ot IT;refine⟨_,Yb,λg=>?_,λg=>⟨⟨Qo,Qo⟩,QE Qo ⟨Qo,λj hj=>?_⟩⟩⟩
   ·rw[zys Qo lA g]
   ·by_cases e:j=k
    ·rw[e]; exact g
    ·exact lA j Qo
  ·have RN:=Ou RN;have:k=4:=Qo;subst this;rw[zyt lA]
theorem ME(W:Q7)(t:Int)(x:MC)(m:MW):Qa (IU W t x) m=Qa W m:=by simp[Qa,IU]
theorem V4{F K:Int}(h:Zj 8 base w W m)(gI:SF F K W)(hk:F+Qi<=K)(hK:K<=1000000000000000000){t g c:Int}(t0:0<=t)(t1:t<12)(hs:(Q8 W t).state≠0)(hg:Q6 W.ID g=true)(c0:0<=c)(c1:c<(W.IE.length:Int)) :
  Cz Xm #[.agg (Qa W m).toArray,I t,I g,I c] w λe w'=>e=.returned (.agg (Qa W m).toArray)/\Mv 8 base [] w m w' (Uh W t g c) m:=by
 refine(zfg _ _ _ _ _ _ _ _ _ _ t g c (R:=λv w'=>v=.agg (Qa W m).toArray/\Mv 8 base [] w m w' (Uh W t g c) m) ?_).mono λe w' ⟨v,he,hv,h3⟩=>⟨by rw[he,hv],h3⟩
 intro y hy y1 cX;obtain⟨g0,g1,_⟩:=Q5.1 hg;have kG:=gI.w.a.t;have cJ:=gI.w.a.gl;have hsl:=gI.w.a.sl hg;have nF:t<(W.tasks.length:Int):=Qo;obtain⟨hu,d0,d1⟩:=gI.w.t t t0 t1 hs;obtain⟨q0,q1,_⟩:=Q5.1 hu;have hql:=gI.w.a.sl hu;have s1:=gI.w.s g c hg c0 c1;have s2:=gI.w.s _ _ hu d0 d1;have hv:=gI.w.tv t t0 t1;have hlr:=DP W t;simp only[Qi] at hlr;have hM:=Mv.two h hy cX;have hr:=(Mv.start h).rd;have Wg:=hr.t.ix QM t0 nF;have SY:=h.vV t0 nF (j:=0) (vs:=Xa (Oo W t g c)) (x:=Oo W t g c) (by simp[Xa]) (by simp[Xa]);have e5:Qa (IU W t (Oo W t g c)) m=Qa W m:=ME _ _ _ _;have e6:Qa (RD (IU W t (Oo W t g c)) c) m=Qa W m:=(Uz (zbz _ _)).trans e5;refine⟨HO W t,D9 hr t0 nF q0 q1 d0 Qo ⟨by show _<=(Q8 W t).v-(Qc W (Q8 W t).group (Q8 W t).M').floor; omega,by show (Q8 W t).v-(Qc W (Q8 W t).group (Q8 W t).M').floor<=_; omega⟩,Wg,_,_,_,_,_,_,_,_,_,hr.t t t0 nF,λb2 dJ=>⟨hr.g.ix g0 g1,_,_,_,hr.g.RE g0 g1,(hr.g.IF g g0 g1).ix ZZ c0 Qo,(Qc W g c).floor,zna.f (hr.g.IF g g0 g1) c0 Qo (j:=0) rfl,⟨Qo,Qo⟩,Wg,zgv h Qs t0 nF (j:=0) Qd,λg4 wr hx eM=>?_,λg4 wr hx=>⟨rfl,?_⟩⟩⟩
 ·have g4:(Q8 W t).state=1:=Iz g4;have WN:=((hM.add dJ).SA SY L8).step (hx.of_nil);have Rt:=ZA WN.own (W:=IU W t (Oo W t g c)) c0 c1;rw[e5,e6] at Rt;refine I4 Rt ?_;rintro e wv ⟨gW,SJ⟩;refine⟨_,_,_,_,_,_,_,_,_,_,gW,WN.kept SJ eM,λO' SZ=>⟨rfl,?_⟩⟩;unfold Uh;rw[E' g4];exact((WN.call SJ eM).step SZ).close
 ·have g4:¬(Q8 W t).state=1:=ne_of_beq_false g4;unfold Uh;rw[C' g4];exact((Mv.start h).SA SY L8).R6 hx
theorem JE{F K:Int}(h:Zj 8 base w W m)(gI:SF F K W)(hk:F+Qi<=K)(hK:K<=1000000000000000000) :
  Cz Yy #[.agg (Qa W m).toArray] w λe w'=>e=.returned (.agg (Qa W m).toArray)/\Mv 8 base [] w m w' (Kc W) m:=by
 refine(DB _ _ _ _ _ _ _ _ _ _ (R:=λv w'=>v=.agg (Qa W m).toArray/\Mv 8 base [] w m w' (Kc W) m) ?_).mono λe w' ⟨v,he,hv,h3⟩=>⟨by rw[he,hv],h3⟩
 intro y hy y1 cX;have kG:=gI.w.a.t;refine⟨λvs w1=>∃(k:Nat),vs=I (k:Int)::Qa W m/\k<=12/\Mv 8 base [y,y1] w m w1 (XA W k) m,Zs 12 0,λw1 tF _=>⟨0,rfl,Qd,(Mv.two h hy cX).R6 tF⟩,?_⟩;rintro c1 l Sd Sn Sr Sj Sp Sq Sf Sg Si Rr Wc ⟨k,he,sU,hM⟩;obtain⟨hS,hF⟩:=v9 gI hk k sU;have Wf:XA W (k+1)=if Pv (XA W k) (k:Int)=true then Uh (XA W k) (k:Int) (Q8 (XA W k) (k:Int)).group (TJ (Qw (XA W k) (Q8 (XA W k) (k:Int)).group (Q8 (XA W k) (k:Int)).mask)) else XA W k:=rfl;have oM:k=12->Kc W=XA W k:=λe=>by rw[e]; rfl
 have e0:Qa (XA W k) m=Qa W m:=by simp only[Qa,hF.n,hF.c,hF.t,hF.g]
 have eC:=hF.c;have eT:=hF.t;simp only[Qa,I5,I6,Iw,true_and,and_true] at he;obtain⟨rfl,rfl,⟨rfl,rfl,rfl⟩,⟨rfl,rfl,rfl⟩,rfl,rfl,rfl⟩:=he;generalize XA W k=V at hM hS hF Wf oM e0 eC eT;have hr:=hM.rd;refine⟨λIT=>?_,λRN w3 Ra=>⟨rfl,?_⟩⟩
 ·have IT:=Ot IT;have t1:(k:Int)<(V.tasks.length:Int):=Qo;have Wg:Ix m.tO W.tasks.length (k:Int):=by have:=hr.t.ix QM (i:=(k:Int)) Qo t1; rwa[eT] at this
  have next:∀{w9 w8:Wo},Q0 [y,y1] Rr w9->Pv V (k:Int)=false->(∃(k':Nat),[I ((k:Int)+1),I W.now,.slice m.cO W.IE.length m.cC,.slice m.tO W.tasks.length m.tC,.slice m.gO W.ID.length m.gC]=I (k':Int)::Qa W m/\k'<=12/\Mv 8 base [y,y1] w m w9 (XA W k') m)/\Zs 12 0 [I ((k:Int)+1),I W.now,.slice m.cO W.IE.length m.cC,.slice m.tO W.tasks.length m.tC,.slice m.gO W.ID.length m.gC] w9<Zs 12 0 [I (k:Int),I W.now,.slice m.cO W.IE.length m.cC,.slice m.tO W.tasks.length m.tC,.slice m.gO W.ID.length m.gC] w8:=λ{w9 w8} hx hm=>by
   refine⟨⟨k+1,rfl,Qo,?_⟩,?_⟩
   ·rw[Wf,C' (by rw[hm]; decide)];exact hM.step hx
   ·simp only[Zs,Xg,ZW,Ig]; omega
  refine⟨Wg,_,ztn.f hr.t Qo t1 (j:=0) rfl,λg=>⟨⟨Qo,Qo⟩,λRC SZ _=>next SZ (by unfold Pv; rw[show (Q8 V (k:Int)).state=0 from Iz g]; rfl)⟩,λg=>?_⟩;have nG:(Q8 V (k:Int)).state≠0:=ne_of_beq_false g;obtain⟨hu,d0,d1⟩:=hS.w.t (k:Int) Qo Qo nG;have hwh:=Jk (g:=(Q8 V (k:Int)).group) (mask:=(Q8 V (k:Int)).mask) hr hS.w.a.c2 hS.w.a.tree hu;rw[e0] at hwh;have hf:=KJ hS.w.a (Q8 V (k:Int)).group (Q8 V (k:Int)).mask;refine⟨Wg,_,ztn.f hr.t Qo t1 (j:=1) rfl,Wg,_,ztn.f hr.t Qo t1 (j:=4) rfl,_,hwh,Wg,_,ztn.f hr.t Qo t1 (j:=2) rfl,_,Yb,λg2=>⟨Wg,_,ztn.f hr.t Qo t1 (j:=1) rfl,_,Kr,λRQ Sw lV=>?_⟩,λg2=>⟨⟨Qo,Qo⟩,λRC SZ _=>next SZ (by unfold Pv; rw[show Z0 (Qw V (Q8 V (k:Int)).group (Q8 V (k:Int)).mask) (Q8 V (k:Int)).M'=true from (by have h:=g2; rw[I7] at h; exact h)]; simp)⟩⟩;have hM5:=hM.step Sw;have Rt:=V4 hM5.own hS hk hK (t:=(k:Int)) (g:=(Q8 V (k:Int)).group) (c:=TJ (Qw V (Q8 V (k:Int)).group (Q8 V (k:Int)).mask)) Qo Qo nG hu hf.1 hf.2;rw[e0] at Rt;refine I4 Rt ?_;rintro e1 S5 ⟨gW,kW⟩;refine⟨_,_,_,_,_,_,_,_,_,_,gW,hM5.kept kW lV,⟨Qo,Qo⟩,λSh bJ _=>⟨⟨k+1,rfl,Qo,?_⟩,?_⟩⟩
  ·have hm:Pv V (k:Int)=true:=by
    unfold Pv;rw[A'];exact⟨by simpa using nG,g2⟩
   rw[Wf,E' hm];exact(hM5.call kW lV).step bJ
  ·simp only[Zs,Xg,ZW,Ig]; omega
 ·have RN:=Ou RN;rw[oM Qo];exact(hM.step Ra).close
section
variable {pb:Nat}
theorem zn9{F K:Int}(h:PW base pb w W m)(gI:SF F K W)(hk:F+Qi<=K)(hK:K<=1000000000000000000){t g c:Int}(t0:0<=t)(t1:t<12)(hs:(Q8 W t).state≠0)(hg:Q6 W.ID g=true)(c0:0<=c)(c1:c<(W.IE.length:Int)) :
  Cz T4 #[.pointer (pA pb),I t,I g,I c] w λe w'=>e=.returned (.tuple #[])/\Mp base pb [] w m w' (Uh W t g c) m:=by
 refine(BE (pA pb) t g c (R:=λv w'=>v=.tuple #[]/\Mp base pb [] w m w' (Uh W t g c) m) ?_).mono λe w' ⟨v,he,hv,h3⟩=>⟨by rw[he,hv],h3⟩
 obtain⟨g0,g1,_⟩:=Q5.1 hg;have kG:=gI.w.a.t;have cJ:=gI.w.a.gl;have hsl:=gI.w.a.sl hg;have nF:t<(W.tasks.length:Int):=Qo;obtain⟨hu,d0,d1⟩:=gI.w.t t t0 t1 hs;obtain⟨q0,q1,_⟩:=Q5.1 hu;have hql:=gI.w.a.sl hu;have s1:=gI.w.s g c hg c0 c1;have s2:=gI.w.s _ _ hu d0 d1;have hv:=gI.w.tv t t0 t1;have hlr:=DP W t;simp only[Qi] at hlr;have hM:=Mp.start h;have hp:=hM.wpt;have Cf1:=hM.own.vV t0 nF (j:=1) (vs:=[I g]) (x:={ Q8 W t with group:=g }) rfl Qs;have hM1:Mp base pb [] w m _ (IU W t { Q8 W t with group:=g }) m:=hM.SA Cf1 L8 (ME _ _ _ _);have ht1:t<((IU W t { Q8 W t with group:=g }).tasks.length:Int):=by simpa[IU] using nF
 have e1:gi (IU W t { Q8 W t with group:=g }).tasks t={ Q8 W t with group:=g }:=L9 t0 nF;have Cf2:=hM1.own.vV t0 ht1 (j:=2) (vs:=[I c]) (x:={ Q8 W t with group:=g,M':=c }) (by rw[e1]; rfl) Qs;have WN:Mp base pb [] w m _ (IU (IU W t { Q8 W t with group:=g }) t { Q8 W t with group:=g,M':=c }) m:=hM1.SA Cf2 L8 (ME _ _ _ _);rw[set_set] at WN;have ht2:t<((IU W t { Q8 W t with group:=g,M':=c }).tasks.length:Int):=by simpa[IU] using nF
 have e2:gi (IU W t { Q8 W t with group:=g,M':=c }).tasks t={ Q8 W t with group:=g,M':=c }:=L9 t0 nF;have e2':Q8 (IU W t { Q8 W t with group:=g,M':=c }) t={ Q8 W t with group:=g,M':=c }:=e2;have dQ:=WN.wpt;have Ca5:=Fb (t:=t) dQ t0 ht2 (by rw[e2']; exact g0) (by rw[e2']; exact g1) (by rw[e2']; exact c0) (by rw[e2']; show c<(((gi W.ID g).IF.length:Nat):Int); omega);rw[e2'] at Ca5;have Cf3:=WN.own.vV t0 ht2 (j:=5) (vs:=[I ((Qc W g c).floor+HO W t)]) (x:=Oo W t g c) (by rw[e2]; rfl) Qs;have hZ:Mp base pb [] w m _ (IU (IU W t { Q8 W t with group:=g,M':=c }) t (Oo W t g c)) m:=WN.SA Cf3 L8 (ME _ _ _ _);rw[set_set] at hZ;have ht3:t<((IU W t (Oo W t g c)).tasks.length:Int):=by simpa[IU] using nF
 have e3:gi (IU W t (Oo W t g c)).tasks t=Oo W t g c:=L9 t0 nF;have hp3:=hZ.wpt;have nG:=ztn.f hp3.rd.t t0 ht3 (j:=0) rfl;rw[e3] at nG;refine⟨hp.some,_,_,_,hp.tasks,hp.rd.t.ix QM t0 nF,_,ztn.f hp.rd.t t0 nF (j:=5) rfl,_,Fb hp t0 nF q0 q1 d0 Qo,⟨by show _<=(Q8 W t).v-(Qc W (Q8 W t).group (Q8 W t).M').floor; omega,by show (Q8 W t).v-(Qc W (Q8 W t).group (Q8 W t).M').floor<=_; omega⟩,_,zft hp t0 nF,_,D0,zgv hM.own hM.nb t0 nF (j:=1) Qd,zgv hM1.own hM1.nb t0 ht1 (j:=2) Qd,_,Ca5,⟨by show _<=(Qc W g c).floor+HO W t; omega,by show (Qc W g c).floor+HO W t<=_; omega⟩,zgv WN.own WN.nb t0 ht2 (j:=5) Qd,_,nG,λg4=>⟨_,_,XO,λwr hx _=>?_⟩,λg4 O' hx=>⟨rfl,?_⟩⟩
 ·have g4:(Q8 W t).state=1:=Iz g4;have iT:=hZ.nil hx;refine I4 (Oh iT.pw (W:=IU W t (Oo W t g c)) c0 c1) ?_;rintro e wv ⟨he,hy⟩;refine⟨he,Yo,λJ' S4=>⟨rfl,?_⟩⟩;unfold Uh;rw[E' g4];exact(iT.call hy Qs).nil S4
 ·have g4:¬(Q8 W t).state=1:=ne_of_beq_false g4;unfold Uh;rw[C' g4];exact hZ.nil hx
theorem Lk{F K:Int}(h:PW base pb w W m)(gI:SF F K W)(hk:F+Qi<=K)(hK:K<=1000000000000000000) :
  Cz Xc #[.pointer (pA pb)] w λe w'=>e=.returned (.tuple #[])/\Mp base pb [] w m w' (Kc W) m:=by
 refine(Lz (pA pb) (R:=λv w'=>v=.tuple #[]/\Mp base pb [] w m w' (Kc W) m) ?_).mono λe w' ⟨v,he,hv,h3⟩=>⟨by rw[he,hv],h3⟩
 have kG:=gI.w.a.t;have hp:=(Mp.start h).wpt;refine⟨hp.some,_,_,_,hp.tasks,?_⟩;refine XC W.tasks.length 0 rfl (λk w2=>k<=12/\Mp base pb [] w m w2 (XA W k) m) (λw2 R3 _=>⟨Qd,(Mp.start h).nil R3⟩) λk w2 Wc ⟨sU,hM⟩=>?_
 obtain⟨hS,hF⟩:=v9 gI hk k sU;have Wf:XA W (k+1)=if Pv (XA W k) (k:Int)=true then Uh (XA W k) (k:Int) (Q8 (XA W k) (k:Int)).group (TJ (Qw (XA W k) (Q8 (XA W k) (k:Int)).group (Q8 (XA W k) (k:Int)).mask)) else XA W k:=rfl;have oM:k=12->Kc W=XA W k:=λe=>by rw[e]; rfl
 have eC:=hF.c;have eT:=hF.t;generalize XA W k=V at hM hS hF Wf oM eC eT;have dQ:=hM.wpt;refine⟨λIT=>?_,λRN w3 Ra=>⟨rfl,?_⟩⟩
 ·have IT:=Ot IT;have t1:(k:Int)<(V.tasks.length:Int):=Qo;have Wg:=dQ.rd.t.ix QM (i:=(k:Int)) Qo t1;rw[eT] at Wg;refine⟨Wg,_,_,_,_,_,_,_,_,_,dQ.rd.t (k:Int) Qo t1,λb hb=>⟨λg=>⟨⟨Qo,Qo⟩,λJ' S4 _=>Qp Qo ⟨Qo,?_⟩⟩,λg=>?_⟩⟩
  ·rw[Wf,C' (by unfold Pv; rw[show (Q8 V (k:Int)).state=0 from Iz g]; simp)];exact hM.nil S4
  have nG:(Q8 V (k:Int)).state≠0:=ne_of_beq_false g;obtain⟨hu,d0,d1⟩:=hS.w.t (k:Int) Qo Qo nG;have hf:=KJ hS.w.a (Q8 V (k:Int)).group (Q8 V (k:Int)).mask;refine⟨_,Gw dQ hS.w.a.c2 hS.w.a.tree Qo t1 hu,_,Gv,λg2 O' R3 fX=>?_,λg2=>⟨⟨Qo,Qo⟩,λRQ Sw _=>Qp Qo ⟨Qo,?_⟩⟩⟩
  ·have hMb:=(hM.add hb).R6 R3;refine I4 BT ?_;rintro e wv ⟨he,hy⟩;refine⟨_,he,Qe hy fX,rfl,λRu Ra eM=>?_⟩;have hZ:=(hMb.R6 hy).step Ra;refine I4 (zn9 hZ.pw hS hk hK (t:=(k:Int)) (g:=(Q8 V (k:Int)).group) (c:=TJ (Qw V (Q8 V (k:Int)).group (Q8 V (k:Int)).mask)) Qo Qo nG hu hf.1 hf.2) ?_;rintro e1 S5 ⟨gW,kW⟩;refine⟨gW,hZ.kept kW eM,⟨Qo,Qo⟩,λRC SZ _=>Qp Qo ⟨Qo,?_⟩⟩
   have hm:Pv V (k:Int)=true:=by
    unfold Pv;rw[A'];exact⟨by simpa using nG,g2⟩
   rw[Wf,E' hm];exact((hZ.call kW eM).step SZ).close
  ·rw[Wf,C' (by unfold Pv; rw[show Z0 (Qw V (Q8 V (k:Int)).group (Q8 V (k:Int)).mask) (Q8 V (k:Int)).M'=true from (by have h:=g2; rw[I7] at h; exact h)]; simp)];exact hM.nil Sw
 ·have RN:=Ou RN;rw[oM Qo];exact hM.nil Ra
end
end
theorem KF{W:Q7}(sw:SW Qn W):SF Qn (Qn+Qi) W:=sw.sf.mono (I3 _) (by simp only[Qi]; decide)
noncomputable def E6(W:Q7)(t x:Int):Int:=if PE x=false\/x=0 then 1 else if Yj W t=false then 2 else if QO W=false then 10 else 0
def zoo(W:Q7)(t x:Int):MC:={ Q8 W t with mask:=x }
def zv7(W:Q7)(t x:Int):Q7:=Qg (Kc (IU W t (zoo W t x)))
theorem zv8{W:Q7}{t x:Int}(hW:Qy W=true)(hb:E6 W t x=0):Yj W t=true/\SF Qn (Qn+Qi) W/\SF Qn (Qn+Qi) (IU W t (zoo W t x)):=by
 have wp:=Qj.1 hW;unfold E6 at hb
 split at hb
 ·cases hb
 ·split at hb
  ·cases hb
  ·rename_i h2
   split at hb
   ·cases hb
   ·rename_i h3;have h1:Yj W t=true:=by simpa using h2
    have h3:QO W=true:=by simpa using h3
    have sw:=Mq wp (Qj.1 h3);obtain⟨t0,t1,n⟩:=X0 h1;have hl:=wp.a.t;have hv:=sw.tv t t0 Qo;exact⟨h1,KF sw,KF (sw.IU t0 Qo (λ_=>sw.t t t0 Qo n) hv.1 hv.2)⟩
theorem F5{W:Q7}{m:MW}{F K:Int}(sf:SF F K W)(hk:F+Qi<=K):Qa (Kc W) m=Qa W m:=by
 have hF:=(MN sf hk).2;simp only[Qa,hF.n,hF.c,hF.t,hF.g]
section
variable {base pb:Nat}{W W':Q7}{m:MW}{w:Wo}{bar:Int}
theorem zck{t x:Int}(h:Xl [] w W m)(hl:Xz W) :
  Cz Pf #[.agg (Qa W m).toArray,I t,I x] w λe w'=>∃v,e=.returned v/\QP (YK W (E6 W t x) (zv7 W t x)) w v w':=by
 refine zbj _ _ _ _ _ _ _ _ _ _ t x (R:=λv w'=>QP (YK W (E6 W t x) (zv7 W t x)) w v w') ?_;intro y hy y1 cX wr R3 Wc;refine I4 (Zh (h.ext R3) hl) ?_;rintro e wv (⟨hW,he,SJ⟩ | ⟨hW,m',he,hM,SJ⟩)
 ·exact⟨_,_,_,_,_,_,_,_,_,_,_,he,Qe SJ Wc,false,λg=>by simp at g,λ_ J' Ra=>QP.bad hW ((R3.trans SJ).fresh Ra λz hm=>.inl (Yw hy cX z hm)),λg=>by simp at g⟩
 have hK:=Wk.begin hy cX R3 Wc hM SJ;have hr:=hK.rd;have wA:((if QO W=true then 0 else 10:Int)==1)=false:=by split <;> rfl
 refine⟨_,_,_,_,_,_,_,_,_,_,_,he,Qe SJ Wc,_,λ_=>Xe,λg J' Ra=>?_,λg0=>⟨_,JS hr hl.t,λg O' Ra=>?_,λg=>⟨λg3 RC Ra=>?_,λg3=>?_⟩⟩⟩
 ·rw[wA] at g;have g:PE x=false\/x=0:=by simpa using g
  have hb:E6 W t x=1:=by unfold E6; rw[E' g]
  exact QP.no hW (by rw[hb]; decide) (hK.step Ra) hb
 ·rw[wA] at g0;have g0:¬(PE x=false\/x=0):=by simpa using g0
  have g:Yj W t=false:=by simpa using g
  have hb:E6 W t x=2:=by unfold E6; rw[C' g0,E' g]
  exact QP.no hW (by rw[hb]; decide) (hK.step Ra) hb
 ·rw[wA] at g0;have g0:¬(PE x=false\/x=0):=by simpa using g0
  have g:Yj W t=true:=by simpa using g
  have bU:¬QO W=true:=λhr=>by rw[E' hr] at g3; simp at g3
  have hb:E6 W t x=10:=by unfold E6; rw[C' g0,C' (by rw[g]; decide),E' (by simpa using bU)]
  rw[C' bU];exact QP.no hW (by rw[hb]; decide) (hK.step Ra) hb
 rw[wA] at g0;have g0:¬(PE x=false\/x=0):=by simpa using g0
 have g:Yj W t=true:=by simpa using g
 have bU:QO W=true:=Ir λhr=>by rw[C' hr] at g3; simp at g3
 have hb:E6 W t x=0:=by unfold E6; rw[C' g0,C' (by rw[g]; decide),C' (by rw[bU]; decide)]
 obtain⟨_,sf0,sf⟩:=zv8 hW hb;obtain⟨t0,t1,tn⟩:=X0 g;have SY:Wk 8 [y,y1] w (R8 wv m'.tO (Int.toNat t*9+4) [I x]) (IU W t (zoo W t x)) m':=hK.R8 (hK.own.vV t0 t1 (j:=4) (vs:=[I x]) (x:=zoo W t x) rfl Qs) L8;refine⟨hr.t.ix QM t0 t1,zgv hK.own hK.nb t0 t1 (j:=4) Qd,λRC SZ eM=>?_⟩;have e5:Qa (IU W t (zoo W t x)) m'=Qa W m':=ME _ _ _ _;have hE:zv7 W t x=Qg (Kc (IU W t (zoo W t x))):=rfl;rw[hE];generalize IU W t (zoo W t x)=V at SY sf e5;have eQ:=SY.step SZ;have Rt:=JE eQ.own sf (I3 _) (by simp only[Qi]; decide);rw[e5] at Rt;refine I4 Rt ?_;rintro e1 R4 ⟨gW,kW⟩;refine⟨_,_,_,_,_,_,_,_,_,_,gW,eQ.kept kW eM,λRQ Sw lV=>?_⟩;have dR:=(eQ.SA kW eM).step Sw;have aS:=Qv dR.own (MN sf (I3 _)).1.w (by simp only[Qi]; decide) (by simp only[Qi]; decide) dR.base;rw[F5 sf (I3 _),e5] at aS;refine I4 aS ?_;rintro e2 Rr ⟨m2,aE,lB⟩;exact⟨_,_,_,_,_,_,_,_,_,_,aE,dR.kept lB lV,λSh bJ=>QP.ok hW hb ((dR.SA lB lV).step bJ)⟩
def zjj(W:Q7)(g x:Int):ZN:={ gi W.ID g with IE:=x }
noncomputable def zln(W:Q7)(g x:Int):Int:=K5 W g (PE x&&(x != 0))
def zux(W:Q7)(g x:Int):Q7:=Qg (Kc (Re W g (zjj W g x)))
theorem zuy{W:Q7}{g x:Int}(hW:Qy W=true)(hb:zln W g x=0):Q6 W.ID g=true/\QO W=true/\SF Qn (Qn+Qi) W/\SF Qn (Qn+Qi) (Re W g (zjj W g x))/\Z6 W.ID (Re W g (zjj W g x)).ID:=by
 obtain⟨h1,h2,h3,h4⟩:=zjk hb;have wp:=Qj.1 hW;have sw:=Mq wp (Qj.1 h4);obtain⟨u0,u1,hg⟩:=wp.a.u h3;have hl:=wp.a.gl;simp only[A',Iu,ne_eq] at h1;exact⟨h3,h4,KF sw,KF (sw.Re (x:=zjj W g x) h3 rfl rfl rfl rfl ⟨hg.w1,hg.w2,h1.1,h1.2,hg.s,hg.len,λh=>Is h h2,hg.none,hg.IN⟩),JV u0 Qo rfl rfl rfl⟩
theorem Cb{g x:Int}(h:Xl [] w W m)(hl:Xz W) :
  Cz O1 #[.agg (Qa W m).toArray,I g,I x] w λe w'=>∃v,e=.returned v/\QP (YK W (zln W g x) (zux W g x)) w v w':=by
 refine AO _ _ _ _ _ _ _ _ _ _ g x (R:=λv w'=>QP (YK W (zln W g x) (zux W g x)) w v w') ?_;intro y hy y1 cX;refine⟨_,Xe,λwr R3 Wc=>?_⟩;refine I4 (Vq (g:=g) (ok:=PE x&&(x != 0)) (h.ext R3) hl) ?_;rintro e wv (⟨hW,he,SJ⟩ | ⟨hW,m',he,hM,SJ⟩)
 ·exact⟨_,_,_,_,_,_,_,_,_,_,_,he,Qe SJ Wc,λ_ J' Ra=>QP.bad hW ((R3.trans SJ).fresh Ra λz hm=>.inl (Yw hy cX z hm)),λg=>by simp at g⟩
 have hK:=Wk.begin hy cX R3 Wc hM SJ;refine⟨_,_,_,_,_,_,_,_,_,_,_,he,Qe SJ Wc,λg1 J' Ra=>QP.no hW (by simpa[zln] using g1) (hK.step Ra) rfl,λg1=>?_⟩;have hb:zln W g x=0:=by simpa[zln] using g1
 have hr:=hK.rd;obtain⟨hu,AC8,sf0,sf,hT⟩:=zuy hW hb;obtain⟨u0,u1,_⟩:=Q5.1 hu;have cJ:=sf0.w.a.gl;have SY:Wk 8 [y,y1] w (R8 wv m'.gO (Int.toNat g*14+4) [I x]) (Re W g (zjj W g x)) m':=hK.R8 (hK.own.An0 u0 Qo (g:=zjj W g x) rfl rfl rfl (j:=4) (vs:=[I x]) rfl Qs) FV;refine⟨hr.g.ix (i:=g) u0 u1,zd7 hK.own hK.nb (i:=g) u0 Qo (j:=4) (k:=1) Qd,λRC SZ eM=>?_⟩;have e5:Qa (Re W g (zjj W g x)) m'=Qa W m':=by simp[Qa,Re]
 have hE:zux W g x=Qg (Kc (Re W g (zjj W g x))):=rfl;rw[hE];generalize Re W g (zjj W g x)=V at SY sf e5;have eQ:=SY.step SZ;have Rt:=JE eQ.own sf (I3 _) (by simp only[Qi]; decide);rw[e5] at Rt;refine I4 Rt ?_;rintro e1 R4 ⟨gW,kW⟩;refine⟨_,_,_,_,_,_,_,_,_,_,gW,eQ.kept kW eM,λRQ Sw lV=>?_⟩;have dR:=(eQ.SA kW eM).step Sw;have aS:=Qv dR.own (MN sf (I3 _)).1.w (by simp only[Qi]; decide) (by simp only[Qi]; decide) dR.base;rw[F5 sf (I3 _),e5] at aS;refine I4 aS ?_;rintro e2 Rr ⟨m2,aE,lB⟩;exact⟨_,_,_,_,_,_,_,_,_,_,aE,dR.kept lB lV,λSh bJ=>QP.ok hW hb ((dR.SA lB lV).step bJ)⟩
end
def z1x(W:Q7)(c:Int)(j:Nat):Bool:=((Q8 W (j:Int)).state==1)&&((Q8 W (j:Int)).M'==c)
def zkb(W:Q7)(c:Int)(j:Nat):Int:=if z1x W c j=true then 1 else 0
def zjr(W:Q7)(c:Int)(j:Nat):Int:=if z1x W c j=true then (Q8 W (j:Int)).load else 0
def zmh(W:Q7)(c:Int):Int:=Jr (zkb W c) W.tasks.length
def zjs(W:Q7)(c:Int):Int:=Jr (zjr W c) W.tasks.length
def zyq(W:Q7)(a b:Int):Bool:=decide (zjs W a<zjs W b)||((zjs W a==zjs W b)&&decide (zmh W a<zmh W b))
def Mk(W:Q7)(m:Int):Nat->Int
 | 0 => -1
 | k+1=>if (Z0 m (k:Int)&&(decide (Mk W m k<0)||zyq W (k:Int) (Mk W m k)))=true then (k:Int) else Mk W m k
def Mx(W:Q7)(m:Int):Int:=Mk W m W.IE.length
theorem zme{W:Q7}{m:Int}{k:Nat}(h:(Z0 m (k:Int)&&(decide (Mk W m k<0)||zyq W (k:Int) (Mk W m k)))=true):Mk W m (k+1)=(k:Int):=E' h
theorem zqx{W:Q7}{m:Int}{k:Nat}(h:(Z0 m (k:Int)&&(decide (Mk W m k<0)||zyq W (k:Int) (Mk W m k)))=false):Mk W m (k+1)=Mk W m k:=C' (by rw[h]; decide)
theorem zdk(W:Q7)(m:Int):∀k:Nat,-1<=Mk W m k/\Mk W m k<(k:Int)/\(0<=Mk W m k->Z0 m (Mk W m k)=true)
 | 0=>⟨I3 _,by show (-1:Int)<0; decide,λh=>by have:(0:Int)<=-1:=h; omega⟩
 | k+1=>by
  have ih:=zdk W m k;simp only[Mk];split
  ·rename_i h;simp only[A'] at h;exact⟨Qo,Qo,λ_=>h.1⟩
  ·exact⟨ih.1,Qo,ih.2.2⟩
theorem zhr{W:Q7}{m:Int}{j:Nat}(h:Z0 m (j:Int)=true):∀k:Nat,j<k->0<=Mk W m k
 | 0,hk=>Is hk (Nat.not_lt_zero j)
 | k+1,hk=>by
  by_cases e:j=k
  ·subst e
   by_cases hn:Mk W m j<0
   ·rw[zme (by rw[h,Ii hn]; rfl)]; omega
   ·simp only[Mk]; split <;> omega
  ·have:=zhr (W:=W) h k Qo;simp only[Mk]
   split <;> omega
theorem z1l{W:Q7}(ha:WA W){m:Int}(hm:PE m=true)(h0:m≠0)(hs:∀c:Int,Z0 m c=true->0<=c/\c<(W.IE.length:Int)):0<=Mx W m/\Mx W m<(W.IE.length:Int)/\Z0 m (Mx W m)=true:=by
 have hf:=Fu hm h0;have hr:=hs _ hf;have e:((TJ m).toNat:Int)=TJ m:=Qo;have h1:=zhr (W:=W) (m:=m) (j:=(TJ m).toNat) (by rw[e]; exact hf) W.IE.length Qo;have h2:=zdk W m W.IE.length;exact⟨h1,h2.2.1,h2.2.2 h1⟩
theorem Hn{W:Q7}(ha:WA W)(g mask:Int):0<=Mx W (Qw W g mask)/\Mx W (Qw W g mask)<(W.IE.length:Int)/\Z0 (Qw W g mask) (Mx W (Qw W g mask))=true:=
 z1l ha (H9 ha g mask).1 (H9 ha g mask).2 λ_ h=>Gb ha h
def PD(m:Int):Nat->Int
 | 0=>0
 | k+1=>if Z0 m (k:Int)=true then PD m k+1 else PD m k
theorem DQ(m:Int):∀k:Nat,0<=PD m k/\PD m k<=(k:Int)
 | 0=>by simp[PD]
 | k+1=>by
  have:=DQ m k;simp only[PD]
  split <;> omega
def z20(W:Q7):Prop:=∀t:Int,0<=t->t<12->0<=(Q8 W t).load/\(Q8 W t).load<=8000000
theorem zvf{W:Q7}(wp:J7 W):z20 W:=λt t0 t1=>by
 rcases wp.t t t0 t1 with h | ⟨_,h⟩
 ·rw[h.2]; decide
 ·exact⟨h.l1,h.l2⟩
theorem zov(W:Q7)(c:Int)(j:Nat):0<=zkb W c j/\zkb W c j<=1:=by unfold zkb; split <;> omega
theorem zow{W:Q7}(c:Int)(k:Nat):0<=Jr (zkb W c) k/\Jr (zkb W c) k<=(k:Int)*1:=VO (zov W c) k
theorem zco{W:Q7}(hl:z20 W)(c:Int):∀k:Nat,k<=12->0<=Jr (zjr W c) k/\Jr (zjr W c) k<=(k:Int)*8000000
 | 0,_=>by simp[Jr]
 | k+1,hk=>by
  have ih:=zco hl c k Qo;have h1:=hl (k:Int) Qo Qo;simp only[Jr];have h2:0<=zjr W c k/\zjr W c k<=8000000:=by unfold zjr; split <;> omega
  omega
section
variable {W:Q7}{m:MW}{w:Wo}{bs:List Nat}{p:OA}
theorem Pn{c:Int}(h:Xl bs w W m)(kG:W.tasks.length=12):PX bs Ji #[.agg (Qa W m).toArray,I c] w (I (zmh W c)):=
 CD _ _ _ _ _ _ _ _ _ _ c λwr hx=>by
  have h:=(h.ext hx).less (cs:=[]) Qs;intro _ _;refine P3 W.tasks.length 0 rfl (λx k=>k<=W.tasks.length/\x=Jr (zkb W c) k) ⟨Ie _,rfl⟩ λx k ⟨hk,R3⟩=>⟨λIT=>?_,λRN=>?_⟩
  ·have IT:=Ot IT;have hr:=zow (W:=W) c k;refine⟨h.t.ix QM Qo IT,_,h.t.f Qo IT (j:=0) rfl,λ_=>h.t.ix QM Qo IT,_,λ_=>h.t.f Qo IT (j:=2) rfl,λg2=>⟨⟨Qo,Qo⟩,⟨Qo,Qo⟩,QK Qo ⟨Qo,?_⟩⟩,λg2=>⟨⟨Qo,Qo⟩,QK Qo ⟨Qo,?_⟩⟩⟩
   ·have g2:z1x W c k=true:=g2;simp only[Jr,zkb]; rw[E' g2,R3]
   ·have g2:z1x W c k=false:=g2;simp only[Jr,zkb]; rw[C' (by rw[g2]; decide),R3,Int.add_zero]
  ·have RN:=Ou RN;have:k=W.tasks.length:=Qo;subst this;rw[R3]; rfl
theorem Vp{c:Int}(h:Xl bs w W m)(kG:W.tasks.length=12)(hl:z20 W):PX bs Xi #[.agg (Qa W m).toArray,I c] w (I (zjs W c)):=
 CB _ _ _ _ _ _ _ _ _ _ c λwr hx=>by
  have h:=(h.ext hx).less (cs:=[]) Qs;intro _ _;refine P3 W.tasks.length 0 rfl (λx k=>k<=W.tasks.length/\x=Jr (zjr W c) k) ⟨Ie _,rfl⟩ λx k ⟨hk,R3⟩=>⟨λIT=>?_,λRN=>?_⟩
  ·have IT:=Ot IT;have hr:=zco hl c k Qo;have nF:=hl (k:Int) Qo Qo;refine⟨h.t.ix QM Qo IT,_,h.t.f Qo IT (j:=0) rfl,λ_=>h.t.ix QM Qo IT,_,λ_=>h.t.f Qo IT (j:=2) rfl,λg2=>⟨h.t.ix QM Qo IT,(Q8 W (k:Int)).load,h.t.f Qo IT (j:=8) rfl,⟨Qo,Qo⟩,⟨Qo,Qo⟩,QK Qo ⟨Qo,?_⟩⟩,λg2=>⟨⟨Qo,Qo⟩,QK Qo ⟨Qo,?_⟩⟩⟩
   ·have g2:z1x W c k=true:=g2;simp only[Jr,zjr]; rw[E' g2,R3]
   ·have g2:z1x W c k=false:=g2;simp only[Jr,zjr]; rw[C' (by rw[g2]; decide),R3,Int.add_zero]
  ·have RN:=Ou RN;have:k=W.tasks.length:=Qo;subst this;rw[R3]; rfl
theorem Lm{x:Int}(h:Xl bs w W m)(ha:WA W)(hl:z20 W):PX bs UH #[.agg (Qa W m).toArray,I x] w (I (Mx W x)):=
 CC _ _ _ _ _ _ _ _ _ _ x λwr hx=>by
  have h:=(h.ext hx).less (cs:=[]) Qs;have sK:=ha.c2;have kG:=ha.t;intro _ _;refine P3 W.IE.length 0 rfl (λb k=>k<=W.IE.length/\b=Mk W x k) ⟨Ie _,rfl⟩ λb k ⟨hk,hb⟩=>⟨λIT=>?_,λRN=>?_⟩
  ·have IT:=Ot IT;have key:(((decide (b<0))||(decide (zjs W (k:Int)<zjs W b)))||((zjs W (k:Int)==zjs W b)&&(decide (zmh W (k:Int)<zmh W b))))=(decide (Mk W x k<0)||zyq W (k:Int) (Mk W x k)):=by rw[hb,Bool.or_assoc]; rfl
   refine⟨_,Yb,λg=>⟨⟨Qo,Qo⟩,QK Qo ⟨Qo,?_⟩⟩,λg=>⟨_,λ_=>Vp h kG hl,_,λ_=>Vp h kG hl,_,λ_=>Vp h kG hl,_,λ_=>Vp h kG hl,_,λ_ _=>Pn h kG,_,λ_ _=>Pn h kG,λg2=>⟨⟨Qo,Qo⟩,QK Qo ⟨Qo,?_⟩⟩,λg2=>⟨⟨Qo,Qo⟩,QK Qo ⟨Qo,?_⟩⟩⟩⟩
   ·have g:Z0 x (k:Int)=false:=by simpa using g
    rw[hb,zqx (by rw[g]; rfl)]
   ·have g:Z0 x (k:Int)=true:=by simpa using g
    rw[zme (by rw[g,<-key,g2]; rfl)]
   ·have g:Z0 x (k:Int)=true:=by simpa using g
    rw[hb,zqx (by rw[g,<-key,g2]; rfl)]
  ·have RN:=Ou RN;have:k=W.IE.length:=Qo;subst this;rw[hb]; rfl
theorem N0{x:Int}:PX bs Te #[I x] w (I (PD x 4)):=
 Nm x λwr hx=>by
  refine P3 4 0 rfl (λn k=>k<=4/\n=PD x k) ⟨Qd,rfl⟩ λn k ⟨hk,hn⟩=>⟨λIT=>?_,λRN=>?_⟩
  ·have IT:=Ot IT;have hr:=DQ x k;refine⟨_,Yb,λg=>⟨⟨Qo,Qo⟩,⟨Qo,Qo⟩,QK Qo ⟨Qo,?_⟩⟩,λg=>⟨⟨Qo,Qo⟩,QK Qo ⟨Qo,?_⟩⟩⟩
   ·simp only[PD]; rw[E' g,hn]
   ·simp only[PD]; rw[C' (by rw[g]; decide),hn]
  ·have RN:=Ou RN;have:k=4:=Qo;subst this;rw[hn]
end
def q9(n:Int):Int:=if YJ n 1 4=true then (if n=1 then 0 else if n=2 then 1 else 2) else 0
theorem zsq{n:Int}(h:YJ n 1 4=true):(n=1/\q9 n=0)\/(n=2/\q9 n=1)\/(n=3/\q9 n=2)\/(n=4/\q9 n=2):=by
 have:=Qt.1 h;have:n=1\/n=2\/n=3\/n=4:=Qo;rcases this with rfl | rfl | rfl | rfl
 ·exact .inl ⟨rfl,Qd⟩
 ·exact .inr (.inl ⟨rfl,Qd⟩)
 ·exact .inr (.inr (.inl ⟨rfl,Qd⟩))
 ·exact .inr (.inr (.inr ⟨rfl,Qd⟩))
def zvr(c lv j:Int):Bool:=Int.fdiv j (2 ^ (min (Int.toNat (lv+1)) 64))==Int.fdiv c (2 ^ (min (Int.toNat (lv+1)) 64))
def zwj(c lv:Int):Nat->Int
 | 0=>0
 | k+1=>if zvr c lv (k:Int)=true then zwj c lv k+Ue k else zwj c lv k
theorem zwk(c lv:Int):∀k:Nat,k<=4->0<=zwj c lv k/\zwj c lv k<Ue k
 | 0,_=>by simp[zwj,Ue]
 | k+1,h=>by
  have ih:=zwk c lv k Qo
  have hb:Ue (k+1)=2*Ue k/\0<=Ue k:=by
   have:k=0\/k=1\/k=2\/k=3:=Qo;rcases this with rfl | rfl | rfl | rfl <;> decide
  simp only[zwj]
  split <;> omega
def Nz(n c lv:Int):Bool:=(YJ n 1 4&&YJ c 0 (n-1))&&YJ lv 0 (q9 n-1)
def z2s(n c lv:Int):Int:=if Nz n c lv=true then zwj c lv n.toNat else 0
section
variable {w:Wo}{bs:List Nat}{n c lv:Int}
theorem zyr{n:Int}{k:Nat}(h:YJ n 1 4=true)(hk:(k:Int)<=q9 n):(decide ((1*2 ^ (min (Int.toNat (k:Int)) 64):Int)<n)=true->(k:Int)+1<=q9 n)/\(decide ((1*2 ^ (min (Int.toNat (k:Int)) 64):Int)<n)=false->(k:Int)=q9 n):=by
 rcases zsq h with ⟨rfl,e⟩ | ⟨rfl,e⟩ | ⟨rfl,e⟩ | ⟨rfl,e⟩ <;> rw[e] at hk ⊢
 ·have:k=0:=Qo;subst this; decide
 ·have:k=0\/k=1:=Qo;rcases this with rfl | rfl <;> decide
 ·have:k=0\/k=1\/k=2:=Qo;rcases this with rfl | rfl | rfl <;> decide
 ·have:k=0\/k=1\/k=2:=Qo;rcases this with rfl | rfl | rfl <;> decide
theorem zqk(n:Int):0<=q9 n/\q9 n<=2:=by
 unfold q9;split
 ·split
  ·omega
  ·split <;> omega
 ·omega
theorem Pu:PX bs XK #[I n] w (I (q9 n)):=
 HS n λwr hx=>by
  refine⟨_,Qr,λq=>?_,λq=>?_⟩
  ·have q:YJ n 1 4=false:=by simpa using q
   have:q9 n=0:=C' (by rw[q]; decide);rw[this]
  ·have q:YJ n 1 4=true:=by simpa using q
   have hl:=zqk n;refine⟨λvs=>∃k:Nat,vs=[I (k:Int)]/\(k:Int)<=q9 n,λvs=>(2-ZW 0 vs).toNat,⟨0,rfl,hl.1⟩,?_⟩;rintro k' ⟨k,he,hk⟩;simp only[I5,I6,true_and,and_true] at he;subst he;have hb:=BB (k:=k) Qo;have fQ:(1*2 ^ (min (Int.toNat (k:Int)) 64):Int)=Ue k:=rfl;obtain⟨s1,s2⟩:=zyr q hk;refine⟨⟨Qo,Qo⟩,⟨Qo,by rw[fQ]; exact⟨Qo,Qo⟩⟩,λg=>⟨⟨Qo,Qo⟩,⟨k+1,Qs,by have:=s1 g; omega⟩,?_⟩,λg=>by rw[<-s2 g]⟩;have:=s1 g;show (2-((k:Int)+1)).toNat<(2-(k:Int)).toNat;omega
theorem zte(h:Nz n c lv=true):YJ n 1 4=true/\0<=c/\c<n/\0<=lv/\lv<=1:=by
 unfold Nz at h;simp only[A'] at h;have h1:=Qt.1 h.1.2;have h2:=Qt.1 h.2;have:=zqk n;exact⟨h.1.1,h1.1,Qo,h2.1,Qo⟩
theorem Fe:PX bs VC #[I n,I c,I lv] w (I (z2s n c lv)):=
 FH n c lv λwr hx=>by
  have hl:=zqk n
  have e:(((!YJ n 1 4)||(!YJ c 0 (n-1)))||(!YJ lv 0 (q9 n-1))) = !Nz n c lv:=by
   unfold Nz; rw[Bool.not_and,Bool.not_and]
  refine⟨_,Qr,λq=>?_,_,λ_=>Qr,_,λ_=>Pu,λ_=>⟨Qo,Qo⟩,_,λ_=>Qr,λq=>?_,λq=>?_⟩
  ·have q:=Qt.1 (by simpa using q:YJ n 1 4=true);exact⟨Qo,Qo⟩
  ·rw[e] at q;have:z2s n c lv=0:=C' (by simpa using q);rw[this]
  ·rw[e] at q;have q:Nz n c lv=true:=by simpa using q
   obtain⟨h1,c0,c1,l0,l1⟩:=zte q;have hn:=Qt.1 h1;obtain⟨N,rfl⟩:∃N:Nat,n=(N:Int):=⟨n.toNat,Qo⟩;have hD:z2s (N:Int) c lv=zwj c lv N:=by unfold z2s; rw[E' q,Ih]
   rw[hD];refine P3 N 0 rfl (λx k=>k<=N/\x=zwj c lv k) ⟨Ie _,rfl⟩ λx k ⟨hk,R3⟩=>⟨λIT=>?_,λRN=>?_⟩
   ·have IT:=Ot IT;have hb:=BB (k:=k) Qo;have hs:=zwk c lv k Qo;have fQ:(1*2 ^ (min (Int.toNat (k:Int)) 64):Int)=Ue k:=rfl;refine⟨⟨Qo,Qo⟩,⟨Qo,Qo⟩,Qo,⟨Qo,Qo⟩,⟨Qo,Qo⟩,Qo,λhu=>?_,λhu=>?_⟩
    ·rw[fQ,R3];refine⟨⟨Qo,Qo⟩,⟨Qo,Qo,Qo⟩,⟨Qo,Qo⟩,⟨Qo,Qo⟩,QK Qo ⟨Qo,?_⟩⟩;simp only[zwj]; rw[E' (show zvr c lv (k:Int)=true from hu)]
    ·refine⟨⟨Qo,Qo⟩,QK Qo ⟨Qo,?_⟩⟩;rw[R3]; simp only[zwj]; rw[C' (by rw[show zvr c lv (k:Int)=false from hu]; decide)]
   ·have RN:=Ou RN;have:k=N:=Qo;subst this;rw[R3]
end
def CP(W:Q7)(g:Int):List Int:=Zb W.ID g++[0]
def zuo(W:Q7)(g c:Int):Bool:=(CP W g).any λx=>Uf W x c
theorem zm4(W:Q7):CP W 0=[0]:=by unfold CP; rw[show Zb W.ID 0=[] from Zq W.ID 3]; rfl
theorem zm5{W:Q7}(ht:Yc W.ID){g:Int}(hu:Q6 W.ID g=true)(hz:g≠0):CP W g=g::CP W (gi W.ID g).parent:=by
 unfold CP;rw[YI ht hu hz,List.cons_append]
theorem zw2{W:Q7}(ht:Yc W.ID){g:Int}(hu:Q6 W.ID g=true):∀x∈CP W g,Q6 W.ID x=true:=by
 have hr:Q6 W.ID 0=true:=Q5.2 ⟨Qd,by have:=ht.len; omega,ht.ru⟩;refine Mi ht (Q:=λh=>∀x∈CP W h,Q6 W.ID x=true) ?_ (λh hu hz ih=>?_) g hu
 ·rw[zm4];intro x hx;have:x=0:=by simpa using hx
  rw[this]; exact hr
 ·rw[zm5 ht hu hz];intro x hx;rcases Ij.1 hx with rfl | hx
  ·exact hu
  ·exact ih x hx
theorem zdh(gs:List ZN):∀(f:Nat) (g:Int),(UN f gs g).length<=f
 | 0,_=>I8 _
 | f+1,g=>by
  simp only[UN];split
  ·simp
  ·have:=zdh gs f (gi gs g).parent;simp; omega
theorem zrg(W:Q7)(g:Int):(CP W g).length<=4:=by
 unfold CP;have:=zdh W.ID 3 g;simp; omega
def UR(W:Q7)(t c:Int):Bool:=
 (!(((((((Q8 W t).state != 1)||((Q8 W t).M'==c))||((gi W.IE (Q8 W t).M').cur==t))||(!ZF W t))||(!Z0 (Qw W (Q8 W t).group (Q8 W t).mask) c)))) && !zuo W (Q8 W t).group c
def zro(W:Q7)(b c:Int):Bool:=TF (λt=>((Q8 W (t:Int)).M'==b)&&UR W (t:Int) c) 12
theorem NR{W:Q7}{t c:Int}(h:UR W t c=true):(Q8 W t).state=1/\(Q8 W t).M'≠c:=by
 unfold UR at h;simp only[A',IC,I0,bne_eq_false_iff_eq,beq_eq_false_iff_ne] at h;exact⟨h.1.1.1.1.1,h.1.1.1.1.2⟩
section
variable {W:Q7}{m:MW}{w:Wo}{bs:List Nat}{p:OA}
def zmj(W:Q7)(g:Int):List Int:=if g=0 then [] else CP W (gi W.ID g).parent
theorem zhu{W:Q7}(ht:Yc W.ID){g:Int}(hu:Q6 W.ID g=true):g::zmj W g=CP W g:=by
 unfold zmj
 by_cases hz:g=0
 ·subst hz; rw[E' rfl,zm4]
 ·rw[C' hz,zm5 ht hu hz]
theorem Lp{t:Int}(h:Xl [] w W m)(ht:Yc W.ID)(t0:0<=t)(t1:t<(W.tasks.length:Int))(hu:Q6 W.ID (Q8 W t).group=true) :
  Cz UK #[.agg (Qa W m).toArray,I t] w λe w'=>∃o c',e=.returned (.slice o (CP W (Q8 W t).group).length c')/\Ud Jd 1 Qb w.heap.size w' o c' (CP W (Q8 W t).group)/\Q0 [] w w':=by
 refine(C6 _ _ _ _ _ _ _ _ _ _ t (R:=λv w'=>∃o c',v=.slice o (CP W (Q8 W t).group).length c'/\Ud Jd 1 Qb w.heap.size w' o c' (CP W (Q8 W t).group)/\Q0 [] w w') ?_).mono λe w' ⟨v,he,o,c',hv,h1⟩=>⟨o,c',by rw[he,hv],h1⟩
 intro b hb;refine⟨h.t.ix QM t0 t1,_,h.t.f t0 t1 (j:=1) rfl,λb1 wb S4 fD Ws hn=>?_⟩;have hlen:=zrg W (Q8 W t).group;have hO0:Ud Jd 1 Qb w.heap.size wb (some ⟨b1,0,none⟩) 1 [(Q8 W t).group]:=.inr ⟨b1,[],rfl,fD,Ws,by simp[Jd],Qs⟩;have hbn:∀x∈[b],w.heap.size<=x:=by simpa using hb
 refine⟨λvs w1=>∃(g:Int) (l:List Int) (o:OA) (c':Nat),vs=[I g,.slice o l.length c']/\Q6 W.ID g=true/\l++zmj W g=CP W (Q8 W t).group/\Sc w [b] w1/\Ob Jd 1 Qb w.heap.size [b] w1 o c' l,λvs _=>(dep 3 W.ID (ZW 0 vs)).toNat,
  λwr hx _=>⟨_,[(Q8 W t).group],_,1,rfl,hu,zhu ht hu,(Sc.mk S4 hbn).step hx,⟨hO0.ext hx (by simp[QD]; exact λe=>hn (by simp[e])),by simp[QD]; exact λe=>hn (by simp[e])⟩⟩,?_⟩
 rintro g oO oL oC w1 dE ⟨g',l,o',c',he,hug,hI,s1,hO⟩;simp only[I5,I6,Iw,true_and,and_true] at he;obtain⟨rfl,rfl,rfl,rfl⟩:=he;have hg:=((h.wide (cs:=[b]) λx hm=>.inr (hbn x hm)).ext s1.ext.of_nil).g
 have hll:l.length<=4:=by
  have:=congrArg List.length hI;simp at this;omega
 refine⟨λhz=>?_,λhz wr hx=>?_⟩
 ·have hz:g≠0:=by simpa using hz
  obtain⟨hp,a,b',d,e,e2,hd⟩:=Yd ht hug hz;refine⟨hg.ix a b',_,hg.parent a b',λb2 dJ J' R3 Wc CL7=>?_⟩;have s2:=s1.put R3 dJ;have oK:=hO.put R3 dJ;obtain⟨o2,c2,w2,WH,vP,hO3,Ra⟩:=oK.AQ6 Y3 P6 (x:=(gi W.ID g).parent) Wc s2.ext.size CL7 (z1f _) Qo Qd ZV #[false,false];have s3:=s2.call Ra λx hm=>(oK.own.lt x hm).1
  refine⟨_,_,_,w2,WH,vP,λO' SZ _=>⟨⟨_,l++[(gi W.ID g).parent],o2,c2,rfl,hp,?_,(s3.step SZ).sub Qs,(hO3.step SZ).sub Qs⟩,?_⟩⟩
  ·rw[List.append_assoc,List.singleton_append,zhu ht hp,<-hI];unfold zmj;rw[C' hz]
  ·show (dep 3 W.ID (gi W.ID g).parent).toNat<(dep 3 W.ID g).toNat;omega
 ·have hz:g=0:=by simpa using hz
  subst hz
  have hl:l=CP W (Q8 W t).group:=by
   rw[<-hI];unfold zmj;rw[E' rfl,List.append_nil]
  subst hl;exact⟨oO,oC,rfl,(hO.step hx).own,(s1.step hx).ext⟩
theorem Ln{t c:Int}(h:Xl bs w W m)(wp:J7 W)(t0:0<=t)(t1:t<(W.tasks.length:Int))(c0:0<=c)(c1:c<(W.IE.length:Int)):PX bs UI #[.agg (Qa W m).toArray,I t,I c] w (.bool (UR W t c)):=by
 refine FK λwr0 tF=>C2 _ _ _ _ _ _ _ _ _ _ t c (R:=λv w'=>v=.bool (UR W t c)/\Q0 [] wr0 w') ?_
 have h:=(h.ext tF).less (cs:=[]) Qs;have li:((Q8 W t).state != 1)=false->Q6 W.ID (Q8 W t).group=true/\0<=(Q8 W t).M'/\(Q8 W t).M'<(W.IE.length:Int):=λhs=>wp.li t0 t1 (by simpa using hs)
 intro b hb;refine⟨h.t.ix QM t0 t1,_,_,_,_,_,_,_,_,_,h.t t t0 t1,λb1 fD=>?_⟩;refine⟨λg=>?_,(gi W.IE (Q8 W t).M').cur,λg=>?_,ZF W t,λg=>?_,Qw W (Q8 W t).group (Q8 W t).mask,λg=>?_,_,λg=>Yb,λg wr hx=>?_,λg J' S4 dE=>?_⟩
 ·have g:(((Q8 W t).state != 1)||((Q8 W t).M'==c))=false:=g;simp only[I0] at g;have:=li g.1;exact h.c.ix ZT this.2.1 this.2.2
 ·have g:(((Q8 W t).state != 1)||((Q8 W t).M'==c))=false:=g;simp only[I0] at g;have:=li g.1;exact(h.c _ this.2.1 this.2.2).get 1 _ rfl
 ·exact Vr h wp.a t0 t1 λhs=>wp.li t0 t1 hs
 ·have g:(((((Q8 W t).state != 1)||((Q8 W t).M'==c))||((gi W.IE (Q8 W t).M').cur==t))||(!ZF W t))=false:=g;simp only[I0] at g;exact Jk h wp.a.c2 wp.a.tree (li g.1.1.1).1
 ·have:UR W t c=false:=by
   unfold UR;rw[show ((((((Q8 W t).state != 1)||((Q8 W t).M'==c))||((gi W.IE (Q8 W t).M').cur==t))||(!ZF W t))||(!Z0 (Qw W (Q8 W t).group (Q8 W t).mask) c))=true from g];rfl
  rw[this]; exact⟨rfl,hx⟩
 have g:((((((Q8 W t).state != 1)||((Q8 W t).M'==c))||((gi W.IE (Q8 W t).M').cur==t))||(!ZF W t))||(!Z0 (Qw W (Q8 W t).group (Q8 W t).mask) c))=false:=g;have eC:UR W t c = !zuo W (Q8 W t).group c:=by unfold UR; rw[g]; rfl
 simp only[I0] at g;obtain⟨hu,_,_⟩:=li g.1.1.1.1;rw[eC]
 have hbn:∀x∈[b,b1],wr0.heap.size<=x:=by
  intro x hm;simp only[Ij,List.not_mem_nil,or_false] at hm;rcases hm with rfl | rfl
  ·exact hb
  ·exact fD
 refine(Lp (h.ext S4) wp.a.tree t0 t1 hu).mono λe w2 ⟨o,c',he,hO,R3⟩=>⟨_,_,_,he,Qe R3 dE,?_⟩
 have DD7:=zrg W (Q8 W t).group;have s2:Sc wr0 [b,b1] w2:=⟨S4.trans R3,hbn⟩;have oK:Ob Jd 1 Qb J'.heap.size [b,b1] w2 o c' (CP W (Q8 W t).group):=Ob.of hO dE
 refine XC (CP W (Q8 W t).group).length 0 rfl (λk w3=>k<=(CP W (Q8 W t).group).length/\Sc wr0 [b,b1] w3/\Ob Jd 1 Qb J'.heap.size [b,b1] w3 o c' (CP W (Q8 W t).group)/\∀j:Nat,j<k->Uf W (gi (CP W (Q8 W t).group) (j:Int)) c=false)
  (λw3 Ra _=>⟨Ie _,s2.step Ra,oK.step Ra,λj hj=>Is hj (Nat.not_lt_zero j)⟩) λk w3 _ ⟨hk,s3,hO3,hI⟩=>⟨λIT=>?_,λRN wr hx=>?_⟩
 ·have IT:=Ot IT;have hR:=hO3.rd Y3.len;have hgm:=zn2 (l:=CP W (Q8 W t).group) (i:=(k:Int)) Qo IT;have hW3:=(h.wide (cs:=[b,b1]) λx hm=>.inr (hbn x hm)).ext s3.ext.of_nil;refine⟨hR.ix Jy Qo IT,_,hR (k:Int) Qo IT,_,KX hW3 wp.a (zw2 wp.a.tree hu _ hgm) c0 c1,λgd wr hx=>⟨?_,(s3.step hx).ext⟩,λgd=>⟨⟨Qo,Qo⟩,λwr hx _=>Qp Qo ⟨Qo,s3.step hx,hO3.step hx,λj hj=>?_⟩⟩⟩
  ·have:zuo W (Q8 W t).group c=true:=List.any_eq_true.2 ⟨_,hgm,gd⟩;rw[this]; rfl
  ·by_cases iA:j<k
   ·exact hI j iA
   ·have:j=k:=Qo;subst this; exact gd
 ·have RN:=Ou RN;have hkn:k=(CP W (Q8 W t).group).length:=Qo
  have:zuo W (Q8 W t).group c=false:=by
   cases hd:zuo W (Q8 W t).group c with
   | false=>rfl
   | true=>
    obtain⟨x,hx,hdx⟩:=List.any_eq_true.1 hd;obtain⟨j,hj,hjx⟩:=List.getElem_of_mem hx;have:=hI j Qo;rw[U8 hj,hjx,hdx] at this;cases this
  rw[this]; exact⟨rfl,(s3.step hx).ext⟩
end
def z1w(W:Q7)(a b:Int):Bool:=decide (Fs W a>Fs W b)
def K0(W:Q7)(c m:Int):Nat->Int
 | 0 => -1
 | k+1=>if ((Z0 m (k:Int)&&zro W (k:Int) c)&&(decide (K0 W c m k<0)||z1w W (k:Int) (K0 W c m k)))=true then (k:Int) else K0 W c m k
theorem zuf{W:Q7}{c m:Int}{k:Nat}(h:((Z0 m (k:Int)&&zro W (k:Int) c)&&(decide (K0 W c m k<0)||z1w W (k:Int) (K0 W c m k)))=true):K0 W c m (k+1)=(k:Int):=E' h
theorem zpv{W:Q7}{c m:Int}{k:Nat}(h:¬((Z0 m (k:Int)&&zro W (k:Int) c)&&(decide (K0 W c m k<0)||z1w W (k:Int) (K0 W c m k)))=true):K0 W c m (k+1)=K0 W c m k:=C' h
theorem zxg{p:Nat->Bool}{n:Nat}(h:p n=false):TF p (n+1)=TF p n:=by simp[TF,h]
theorem za6(W:Q7)(c m:Int):∀k:Nat,-1<=K0 W c m k/\K0 W c m k<k
 | 0=>by simp[K0]
 | k+1=>by
  have:=za6 W c m k;simp only[K0]
  split <;> omega
noncomputable def OQ(W:Q7)(c lv:Int):Int:=K0 W c (z2s (W.IE.length:Int) c lv) W.IE.length
theorem z0b{W:Q7}(wp:J7 W){b c:Int}(h:zro W b c=true):0<=b/\b<(W.IE.length:Int)/\b≠c:=by
 obtain⟨t,ht,hp⟩:=Dv.1 h;simp only[A',It] at hp;obtain⟨h1,h2⟩:=NR hp.2;have:=wp.li (t:=(t:Int)) Qo (by have:=wp.a.t; omega) h1;rw[hp.1] at this h2;exact⟨this.2.1,this.2.2,h2⟩
section
variable {W:Q7}{m:MW}{w:Wo}{bs:List Nat}{p:OA}
theorem Fj{s c:Int}(h:Xl bs w W m)(wp:J7 W)(c0:0<=c)(c1:c<(W.IE.length:Int)):PX bs VH #[.agg (Qa W m).toArray,I s,I c] w (I (K0 W c s W.IE.length)):=
 FI _ _ _ _ _ _ _ _ _ _ s c λwr hx=>by
  have h:=(h.ext hx).less (cs:=[]) Qs;have h4:=wp.a.c2;have kG:=wp.a.t;intro _ _;refine P3 W.IE.length 0 rfl (λx k=>k<=W.IE.length/\x=K0 W c s k) ⟨Ie _,rfl⟩ λx k ⟨hk,R3⟩=>⟨λIT=>?_,λRN=>?_⟩
  ·subst R3;have IT:=Ot IT;have hr:=za6 W c s k;refine⟨_,λ_=>Yb,_,λ_ _=>Tq h wp,_,λ_ _=>Tq h wp,λg=>?_,λg=>?_⟩
   ·refine⟨⟨Qo,Qo⟩,QK Qo ⟨Qo,?_⟩⟩;rw[zpv];intro hc;simp only[A'] at hc;have fH:=(z0b wp hc.1.2).2.2;rw[beq_eq_false_iff_ne.2 fH,hc.1.1] at g;simp only[Bool.not_true,Bool.or_self,Bool.false_or,A',Ik] at g;unfold z1w at hc;simp only[Iv,Ik] at hc;omega
   ·simp only[I0,I7] at g;obtain⟨⟨g1,g2⟩,g3⟩:=g
    have hb:(decide (K0 W c s k<0)||z1w W (k:Int) (K0 W c s k))=true:=by
     unfold z1w;simp only[Iv,Ik];simp only[Bool.and_eq_false_iff,decide_eq_false_iff_not] at g3;omega
    refine P3 12 0 rfl (λy j=>j<=12/\y=if TF (λt=>((Q8 W (t:Int)).M'==(k:Int))&&UR W (t:Int) c) j=true then (k:Int) else K0 W c s k) ⟨Ie _,rfl⟩ λy j ⟨hj,hy⟩=>⟨λRM=>?_,λbK=>?_⟩
    ·have RM:=Ot RM;have vO:j<12:=Qo;refine⟨h.t.ix QM Qo RM,_,h.t.f Qo RM (j:=2) rfl,_,λ_=>Ln h wp Qo RM c0 c1,λg4=>?_,λg4=>?_⟩
     ·have g4:(((Q8 W (j:Int)).M'==(k:Int))&&UR W (j:Int) c)=true:=g4;refine⟨⟨Qo,Qo⟩,QK vO ⟨Qo,?_⟩⟩;rw[E'];simp only[TF,Iv];exact .inr g4
     ·have g4:(((Q8 W (j:Int)).M'==(k:Int))&&UR W (j:Int) c)=false:=g4;refine⟨⟨Qo,Qo⟩,QK vO ⟨Qo,?_⟩⟩;rw[hy,zxg (p:=λt=>((Q8 W (t:Int)).M'==(k:Int))&&UR W (t:Int) c) g4]
    ·have bK:=Ou bK;have:j=12:=Qo;subst this;refine⟨⟨Qo,Qo⟩,QK Qo ⟨Qo,?_⟩⟩;rw[hy];show (if zro W (k:Int) c=true then (k:Int) else K0 W c s k)=_
     cases ha:zro W (k:Int) c with
     | true=>rw[zuf (by rw[g2,ha,hb]; rfl),E' rfl]
     | false=>rw[zpv (by rw[ha]; simp),C' Qd]
  ·have RN:=Ou RN;have:k=W.IE.length:=Qo;subst this;rw[R3]
end
theorem Ft(m:Int):∀k:Nat,PD m k=((G0 m k).length:Int)
 | 0=>rfl
 | k+1=>by
  simp only[PD]
  cases h:Z0 m (k:Int) with
  | true=>rw[E' rfl,Fx h,Ft m k]; simp
  | false=>rw[C' Qd,zcv h,Ft m k]
theorem zkc{fn:Func}{t:Tmp}(h:fn.results=#[.tmp t]){tmps:Array Va}{w:Wo}{P:Program}:(results fn tmps).run P w=.ok (tmps.getD t undef) w:=by
 simp[results,h]
theorem zk3:JX Tryz.f60=zoz YY (.seq (.seq XT (.block 0 (.rangeFunc (.tmp 5) #[6] .skip Xv))) Xw):=Qk
theorem BS{m:Int}{w:Wo}:Cz MJ #[.int .i64 m] w λe w'=>e=.returned (.int .i64 (PD m 4))/\Q0 [] w w':=by
 refine EP (args:=[.int .i64 m]) (n:=10) Tryz.func60 (body:=JX Tryz.f60) rfl Qk Qs λa hn ha hd=>?_
 rw[zk3];have a0:=ha 0 _ rfl;refine Gm none (R:=λe vs w1=>e=.normal/\∃b:Nat,vs=[.pointer (some ⟨b,0,none⟩)]/\w.heap.size<=b/\(∃t,w1.heap[b]? = some (.cells ([.int .i64 0]:List Va).toArray t (0,0)))/\Q0 [] w w1) hn ?_ ?_ ?_ (λe vs a1 w1 fH hR _=>Is hR.1 fH)
 ·intro p hp;cases hp
 ·intro b wb hx hb0 Ws _;refine⟨MS (k0:=0) Ws Qs Qs,λwr R3=>?_⟩;have e1:Q0 [b] wb (R8 wb (some ⟨b,0,none⟩) 0 [.int .i64 0]):=Ub (bs:=[b]) Qs;refine⟨rfl,b,rfl,hb0,⟨_,QQ (OD (vs:=[.int .i64 0]) (n:=0) Ws) R3 Qs⟩,hx.fresh (e1.trans R3.of_nil) λx hm=>.inl ?_⟩;have:x=b:=by simpa using hm
  omega
 rintro vs a2 w1 ⟨_,b,rfl,hwb,hB,hX⟩ fo
 have o3:a2.tmps.getD 3 undef=.pointer (some ⟨b,0,none⟩):=by
  have:=fo.out
  simpa using this
 have o0:a2.tmps.getD 0 undef=.int .i64 m:=(fo.kept 0 (by decide +kernel)).trans a0;refine wpIn_seq (wpIn_seq (Gl none m (R:=λe vs w2=>e=.normal/\∃bm:Nat,vs=[.func (.func QH) #[] #[.pointer (some ⟨bm,0,none⟩)]]/\Q1 [] w2 (some ⟨bm,0,none⟩) 0 [.int .i64 m]/\w1.heap.size<=bm/\Q0 [] w1 w2) (by rw[fo.size,hn]) (λp hp=>?_) (λwr hx _=>?_) λe vs a3 w2 hR fo3=>?_))
 ·simp only[Ij,List.not_mem_nil,or_false] at hp;subst hp;exact⟨Il rfl,o0⟩
 ·refine(zhc (m:=m)).mono λe w2 ⟨bm,hbm,he,hcm,Ra⟩=>⟨_,_,_,he,Yo,λJ' SZ=>⟨rfl,bm,rfl,hcm.ext SZ,by have:=hx.size; omega,(hx.trans Ra).trans SZ⟩⟩
 obtain⟨rfl,bm,rfl,hcm,hbm,R3⟩:=hR
 have p5:a3.tmps.getD 5 undef=.func (.func QH) #[] #[.pointer (some ⟨bm,0,none⟩)]:=by
  have:=fo3.out
  simpa using this
 have p3:=(fo3.kept 3 (by decide +kernel)).trans o3;have BS8:a3.tmps.size=10:=by rw[fo3.size,fo.size,hn]
 have hd3:a3.defers=[]:=by rw[fo3.defers,fo.defers,hd]
 have hX2:=hX.trans R3;obtain⟨t0,hB⟩:=hB;have hB2:=QQ hB R3 Qs;have hbL:=JW hB;have Cy2:=JW hB2;have Cy9:=zpw hcm
 have hlen:(G0 m 4).length<=4:=by
  have:=(DQ m 4).2;rw[Ft] at this;omega
 refine wpIn_block (zwa (gf:=QH) (lb:=#[.pointer (some ⟨bm,0,none⟩)]) p5 (enters_of Tryz.func233 Qk rfl)
  (λk W1=>(∃t,W1.heap[b]? = some (.cells ([.int .i64 (k:Int)]:List Va).toArray t (0,0)))/\Q1 [] W1 (some ⟨bm,0,none⟩) 0 [.int .i64 m]/\Q0 [] w W1)
  (λ_ _=>False) (G0 m 4).length (λk=>[.int .i64 (gi (G0 m 4) (k:Int))])
  (λk W1 W2 ys h hx hy=>⟨h.1.imp λ_ h=>QQ h hx λhm=>by have:=hy _ hm; omega,Hc h.2.1 hx λhm=>by have:=hy _ hm; omega,h.2.2.fresh hx λx hm=>.inl (by have:=hy x hm; have:=hX2.size; omega)⟩)
  (λcd W1 W2 ys h hx hy=>h)
  ⟨⟨t0,hB2⟩,hcm,hX2⟩ (λk=>rfl) (zb8 (m:=m) (bm:=bm) (w:=w2) (I:=λk W1=>(∃t,W1.heap[b]? = some (.cells ([.int .i64 (k:Int)]:List Va).toArray t (0,0)))/\Q1 [] W1 (some ⟨bm,0,none⟩) 0 [.int .i64 m]/\Q0 [] w W1) (λk W1 h=>h.2.1)) ?_ ?_ (λD c W _ h _=>h.elim))
 ·rintro l k W hk ⟨⟨t1,hb⟩,hc,hXW⟩ hl;rw[zlg];refine wpIn_skip ⟨⟨[],Q0.refl _ _,Qs⟩,λW2 Sw=>?_⟩
  have hbn:b∉[l]:=λhm=>by
   have:b=l:=by simpa using hm
   omega
  have hb5:=QQ hb Sw hbn
  have hX5:Q0 [] w W2:=hXW.fresh Sw λx hm=>.inl (by
   have:x=l:=by simpa using hm
   have:=hX2.size;omega)
  have hc5:=Hc hc Sw λhm=>by
   have:bm=l:=by simpa using hm
   omega
  have q3:(a3.tmps.setIfInBounds 6 (.int .i64 (gi (G0 m 4) (k:Int)))).getD 3 undef=.pointer (some ⟨b,0,none⟩):=(Gr (i:=6) (j:=3) Qd).trans p3;refine LD (some l) (some ⟨b,0,none⟩) (R:=λe _ W3=>e=.normal/\(∃X,Q0 X W2 W3/\∀x∈X,x<w2.heap.size)/\(∃t,W3.heap[b]? = some (.cells ([.int .i64 ((k:Int)+1)]:List Va).toArray t (0,0)))/\Q1 [] W3 (some ⟨bm,0,none⟩) 0 [.int .i64 m]/\Q0 [] w W3) (by simpa using BS8) (λp hp=>?_) ⟨(k:Int),zkx ⟨_,hb5⟩,⟨Qo,Qo⟩,MS (k0:=0) hb5 Qs Qs,λwr hx=>?_⟩ λe vs a5 W3 hR _=>?_
  ·simp only[Ij,List.not_mem_nil,or_false] at hp;subst hp;exact⟨Il rfl,q3⟩
  ·have e1:Q0 [b] W2 (R8 W2 (some ⟨b,0,none⟩) 0 [.int .i64 ((k:Int)+1)]):=Ub (bs:=[b]) Qs;have eX:Q0 [b] W2 wr:=e1.trans hx.of_nil;refine⟨rfl,⟨[b],eX,λx hm=>?_⟩,⟨t1,?_⟩,Hc hc5 eX λhm=>?_,hX5.fresh eX λx hm=>.inl ?_⟩
   ·have:x=b:=by simpa using hm
    omega
   ·exact QQ (OD (vs:=[.int .i64 ((k:Int)+1)]) (n:=0) hb5) hx Qs
   ·have:bm=b:=by simpa using hm
    omega
   ·have:x=b:=by simpa using hm
    omega
  ·obtain⟨rfl,hX3,h3,h4⟩:=hR;exact⟨hX3,h3,h4⟩
 ·intro D W hD ⟨⟨t1,hb⟩,hc,hXW⟩ hdD;refine LE none (some ⟨b,0,none⟩) (R:=λe vs W1=>e=.ret/\vs=[.int .i64 (PD m 4)]/\Q0 [] W W1) BS8 (λp hp=>?_) ⟨_,zkx ⟨_,hb⟩,λwr hx=>⟨rfl,by rw[Ft],hx⟩⟩ λe vs a6 W1 hR fo6=>?_
  ·simp only[Ij,List.not_mem_nil,or_false] at hp;subst hp;exact⟨Il rfl,p3⟩
  ·obtain⟨rfl,rfl,bJ⟩:=hR
   have hr:∀w',(results Tryz.f60 a6.tmps).run Tryz.prog w'=.ok (.int .i64 (PD m 4)) w':=λw'=>by
    rw[zkc (t:=2) Qk];have:=fo6.out;simp only[List.map_cons,List.map_nil,I5,and_true] at this;rw[this]
   exact(zod (D:=D) (by rw[fo6.defers]; simp[hd3]) ((bJ.block D (Array.getElem?_eq_some_iff.1 hdD).1 Qs).trans hdD) hr λw' hx=>⟨rfl,(hXW.trans bJ).fresh hx λx hm=>.inl (by
    have:x=D:=by simpa using hm
    have:=hX2.size;omega)⟩).2
section
variable {W:Q7}{m:MW}{w:Wo}{bs:List Nat}{p:OA}
end
theorem z9(cs:List Px){c:Int}(c0:0<=c):∀k:Nat,k<=4->c<(k:Int)->(gi cs c).up=true->Z0 (Vd cs k) c=true
 | 0,_,h,_=>by omega
 | k+1,hk,h,hu=>by
  have hl:=Hs cs k Qo
  have hb:Ue k<=8:=by
   have:k=0\/k=1\/k=2\/k=3:=Qo;rcases this with rfl | rfl | rfl | rfl <;> decide
  have key:=zlo ⟨k,Qo⟩ ⟨(Vd cs k).toNat,Qo⟩ ⟨c.toNat,Qo⟩;rw[show ((⟨(Vd cs k).toNat,Qo⟩:Fin 8).val:Int)=Vd cs k by show (((Vd cs k).toNat:Nat):Int)=Vd cs k; omega,show ((⟨c.toNat,Qo⟩:Fin 4).val:Int)=c by show ((c.toNat:Nat):Int)=c; omega] at key;simp only[Vd]
  by_cases e:c=(k:Int)
  ·subst e;rw[E' hu,key hl.2];simp
  ·have ih:=z9 cs c0 k Qo Qo hu;split
   ·rw[key hl.2,ih]; simp
   ·exact ih
theorem NM{cs:List Px}(h4:cs.length<=4){c:Int}(c0:0<=c)(c1:c<(cs.length:Int))(hu:(gi cs c).up=true):J4 cs≠0:=λe=>by
 have h:=z9 cs c0 cs.length h4 c1 hu;rw[show Vd cs cs.length=0 from e] at h;have hr:=Mh h;have:c=0\/c=1\/c=2\/c=3:=Qo;rcases this with rfl | rfl | rfl | rfl <;> exact Is h Qd
theorem zvk{m c:Int}(c0:0<=c)(c4:c<4)(h:Z0 m c=true)(hn:∀j:Int,0<=j->j<4->j≠c->Z0 m j=false):PD m 4=1:=by
 have h0:=hn 0 Qd Qd;have h1:=hn 1 Qd Qd;have h2:=hn 2 Qd Qd;have h3:=hn 3 Qd Qd;have i0:((0:Nat):Int)=0:=rfl;have i1:((1:Nat):Int)=1:=rfl;have i2:((2:Nat):Int)=2:=rfl;have i3:((3:Nat):Int)=3:=rfl;have:c=0\/c=1\/c=2\/c=3:=Qo;simp only[PD,i0,i1,i2,i3];rcases this with rfl | rfl | rfl | rfl
 ·have e1:=h1 Qd; have e2:=h2 Qd; have e3:=h3 Qd; simp[h,e1,e2,e3]
 ·have e1:=h0 Qd; have e2:=h2 Qd; have e3:=h3 Qd; simp[h,e1,e2,e3]
 ·have e1:=h0 Qd; have e2:=h1 Qd; have e3:=h3 Qd; simp[h,e1,e2,e3]
 ·have e1:=h0 Qd; have e2:=h1 Qd; have e3:=h2 Qd; simp[h,e1,e2,e3]
theorem ztk{cs:List Px}(h4:cs.length<=4){c:Int}(c0:0<=c)(c1:c<(cs.length:Int))(hu:(gi cs c).up=true)(hn:PD (J4 cs) 4≠1):∃j:Int,0<=j/\j<(cs.length:Int)/\j≠c/\(gi cs j).up=true:=by
 refine Classical.byContradiction λfH=>hn (zvk c0 Qo (z9 cs c0 cs.length h4 c1 hu) λj j0 j4 hj=>?_)
 cases h:Z0 (J4 cs) j with
 | false=>rfl
 | true=>
  obtain⟨a,b⟩:=B0 cs (c:=j) cs.length h4 h;exact Is ⟨j,j0,a,hj,b⟩ fH
theorem SW.RX{K:Int}{W:Q7}(h:SW K W){c:Int}(c0:0<=c)(c1:c<(W.IE.length:Int)){x:Px}(hu:J4 (W.IE.set c.toNat x)≠0)(h1 : -1<=x.cur)(h2:x.cur<12):SW K (RX W c x):=by
 have hl:(W.IE.set c.toNat x).length=W.IE.length:=H';have hg:∀d:Int,0<=d->gi (W.IE.set c.toNat x) d=if c=d then x else gi W.IE d:=λd d0=>QI _ _ c0 c1 d0
 refine⟨h.a.cp hl hu,λt a b n=>?_,h.tv,λk d u a b=>?_,λd a b=>?_⟩
 ·show _/\_/\_<(((W.IE.set c.toNat x).length:Nat):Int);rw[hl];exact h.t t a b n
 ·have b:d<(((W.IE.set c.toNat x).length:Nat):Int):=b;rw[hl] at b;exact h.s k d u a b
 ·have b:d<(((W.IE.set c.toNat x).length:Nat):Int):=b;rw[hl] at b;show _<=(gi (W.IE.set c.toNat x) d).cur/\(gi (W.IE.set c.toNat x) d).cur<12;rw[hg _ a];split
  ·exact⟨h1,h2⟩
  ·exact h.cu d a b
noncomputable def Yf(W:Q7)(c:Int)(up:Bool)(last:Int):Int:=if YQ W c=false then 1 else if (gi W.IE c).up≠up then 6 else if last≠0 then last else if QO W=false then 10 else 0
theorem CY{W:Q7}{c:Int}{up:Bool}{last:Int}(h:Yf W c up last=0):YQ W c=true/\(gi W.IE c).up=up/\last=0/\QO W=true:=by
 unfold Yf at h
 split at h
 ·cases h
 ·rename_i h1
  split at h
  ·cases h
  ·rename_i h2
   split at h
   ·rename_i h3; exact Is h h3
   ·rename_i h3
    split at h
    ·cases h
    ·rename_i h4;exact⟨by simpa using h1,by simpa using h2,Qo,by simpa using h4⟩
theorem MD{W:Q7}{c:Int}{up:Bool}{last:Int}(h1:YQ W c=true)(h2:(gi W.IE c).up=up)(h3:last=0):Yf W c up last=if QO W=false then 10 else 0:=by
 unfold Yf;rw[C' (by rw[h1]; decide),C' (by simpa using h2),C' (by simpa using h3)]
def My(x:Px)(b:Bool):Px:={ x with up:=b }
def zvy(W:Q7)(c:Int):Q7:=Qg (Kc (RX W c (My (gi W.IE c) true)))
def JP(W:Q7):Int:=if PD (J4 W.IE) 4=1 then 5 else 0
def Cs(W:Q7)(c:Int):Q7:=Qg (Kc (RD (RX W c (My (gi W.IE c) false)) c))
theorem zvz{W:Q7}{c:Int}(hW:Qy W=true)(hb:Yf W c false 0=0):0<=c/\c<(W.IE.length:Int)/\SF Qn (Qn+Qi) W/\SF Qn (Qn+Qi) (RX W c (My (gi W.IE c) true)):=by
 obtain⟨h1,h2,_,h4⟩:=CY hb;have wp:=Qj.1 hW;have sw:=Mq wp (Qj.1 h4);obtain⟨c0,c1⟩:=Uy h1;have hcu:=sw.cu c c0 c1;have hl:(W.IE.set c.toNat (My (gi W.IE c) true)).length=W.IE.length:=H';have hc2:=wp.a.c2;exact⟨c0,c1,KF sw,KF (sw.RX c0 c1 (x:=My (gi W.IE c) true) (NM Qo c0 Qo (by rw[QI _ _ c0 c1 c0,E' rfl]; rfl)) hcu.1 hcu.2)⟩
theorem zoi{W:Q7}{c:Int}(hW:Qy W=true)(hb:Yf W c true (JP W)=0):0<=c/\c<(W.IE.length:Int)/\SF Qn (Qn+Qi) W/\SF Qn (Qn+Qi) (RX W c (My (gi W.IE c) false)):=by
 obtain⟨h1,h2,h3,h4⟩:=CY hb;have wp:=Qj.1 hW;have sw:=Mq wp (Qj.1 h4);obtain⟨c0,c1⟩:=Uy h1;have hcu:=sw.cu c c0 c1;have hl:(W.IE.set c.toNat (My (gi W.IE c) false)).length=W.IE.length:=H';have hc2:=wp.a.c2;have hn:PD (J4 W.IE) 4≠1:=λe=>by unfold JP at h3; rw[E' e] at h3; cases h3
 obtain⟨j,j0,j1,jc,hj⟩:=ztk hc2 c0 c1 h2 hn;exact⟨c0,c1,KF sw,KF (sw.RX c0 c1 (x:=My (gi W.IE c) false) (NM Qo j0 Qo (by rw[QI _ _ c0 c1 j0,C' λe=>jc e.symm]; exact hj)) hcu.1 hcu.2)⟩
theorem F4(W:Q7)(c:Int)(x:Px)(m:MW):Qa (RX W c x) m=Qa W m:=by simp[Qa,RX]
section
variable {W W':Q7}{m:MW}{w:Wo}
theorem zjq{c:Int}(h:Xl [] w W m)(hl:Xz W) :
  Cz K4 #[.agg (Qa W m).toArray,I c] w λe w'=>∃v,e=.returned v/\QP (YK W (Yf W c false 0) (zvy W c)) w v w':=by
 refine zja _ _ _ _ _ _ _ _ _ _ c (R:=λv w'=>QP (YK W (Yf W c false 0) (zvy W c)) w v w') ?_;intro y hy y1 cX wr R3 Wc;have hm9:=Zo;have tR:=hl.c;refine I4 (Zh (h.ext R3) hl) ?_;rintro e wv (⟨hW,he,SJ⟩ | ⟨hW,m',he,hM,SJ⟩)
 ·exact⟨_,_,_,_,_,_,_,_,_,_,_,he,Qe SJ Wc,λg=>by simp at g,true,λg=>by simp at g,λ_ J' Ra=>QP.bad hW ((R3.trans SJ).fresh Ra λz hm=>.inl (Yw hy cX z hm)),λg=>by simp at g⟩
 have hK:=Wk.begin hy cX R3 Wc hM SJ;have hr:=hK.rd;have wp:=Qj.1 hW;have hm0:=XF;refine⟨_,_,_,_,_,_,_,_,_,_,_,he,Qe SJ Wc,λ_=>⟨Qo,Qo⟩,YQ W c,λ_=>Qr,λg J' Ra=>?_,λg=>?_⟩
 ·have g:YQ W c=false:=by
   cases hc:YQ W c with
   | false=>rfl
   | true=>rw[hc] at g; split at g <;> simp at g
  have hb:Yf W c false 0=1:=by unfold Yf; rw[E' g]
  exact QP.no hW (by rw[hb]; decide) (hK.step Ra) hb
 have g:YQ W c=true:=by
  cases hc:YQ W c with
  | true=>rfl
  | false=>rw[hc] at g; simp at g
 obtain⟨c0,c1⟩:=Uy g;refine⟨hr.c.ix ZT c0 c1,_,hr.c.f c0 c1 (j:=0) rfl,λg2 O' Ra=>?_,λg2=>⟨λg3 Ru Ra=>?_,λg3=>?_⟩⟩
 ·have hb:Yf W c false 0=6:=by unfold Yf; rw[C' (by rw[g]; decide),E' (by rw[g2]; decide)]
  exact QP.no hW (by rw[hb]; decide) (hK.step Ra) hb
 ·have bU:¬QO W=true:=λhr=>by rw[E' hr] at g3; simp at g3
  have hb:Yf W c false 0=10:=by rw[MD g g2 rfl,E' (by simpa using bU)]
  rw[C' bU];exact QP.no hW (by rw[hb]; decide) (hK.step Ra) hb
 have bU:QO W=true:=Ir λhr=>by rw[C' hr] at g3; simp at g3
 have hb:Yf W c false 0=0:=by rw[MD g g2 rfl,C' (by rw[bU]; decide)]
 obtain⟨_,_,_,sf⟩:=zvz hW hb;have SY:Wk 8 [y,y1] w (R8 wv m'.cO (Int.toNat c*5+0) [.bool true]) (RX W c (My (gi W.IE c) true)) m':=hK.R8 (hK.own.AX8 c0 c1 (j:=0) (vs:=[.bool true]) (x:=My (gi W.IE c) true) rfl Qs) NE;refine⟨hr.c.ix ZT c0 c1,zpg hK.own hK.nb c0 c1 Qd,λRC SZ eM=>?_⟩;have e5:Qa (RX W c (My (gi W.IE c) true)) m'=Qa W m':=F4 _ _ _ _;have hE:zvy W c=Qg (Kc (RX W c (My (gi W.IE c) true))):=rfl;rw[hE];generalize RX W c (My (gi W.IE c) true)=V at SY sf e5;have eQ:=SY.step SZ;have Rt:=JE eQ.own sf (I3 _) (by simp only[Qi]; decide);rw[e5] at Rt;refine I4 Rt ?_;rintro e1 R4 ⟨gW,kW⟩;refine⟨_,_,_,_,_,_,_,_,_,_,gW,eQ.kept kW eM,λRQ Sw lV=>?_⟩;have dR:=(eQ.SA kW eM).step Sw;have aS:=Qv dR.own (MN sf (I3 _)).1.w (by simp only[Qi]; decide) (by simp only[Qi]; decide) dR.base;rw[F5 sf (I3 _),e5] at aS;refine I4 aS ?_;rintro e2 Rr ⟨m2,aE,lB⟩;exact⟨_,_,_,_,_,_,_,_,_,_,aE,dR.kept lB lV,λSh bJ=>QP.ok hW hb ((dR.SA lB lV).step bJ)⟩
theorem D6{c:Int}(h:Xl [] w W m)(hl:Xz W) :
  Cz Ta #[.agg (Qa W m).toArray,I c] w λe w'=>∃v,e=.returned v/\QP (YK W (Yf W c true (JP W)) (Cs W c)) w v w':=by
 refine zff _ _ _ _ _ _ _ _ _ _ c (R:=λv w'=>QP (YK W (Yf W c true (JP W)) (Cs W c)) w v w') ?_;intro y hy y1 cX wr R3 Wc;have hm0:=XF;have tR:=hl.c;refine I4 (Zh (h.ext R3) hl) ?_;rintro e wv (⟨hW,he,SJ⟩ | ⟨hW,m',he,hM,SJ⟩)
 ·exact⟨_,_,_,_,_,_,_,_,_,_,_,he,Qe SJ Wc,λg=>by simp at g,true,λg=>by simp at g,λ_ J' Ra=>QP.bad hW ((R3.trans SJ).fresh Ra λz hm=>.inl (Yw hy cX z hm)),λg=>by simp at g⟩
 have hK:=Wk.begin hy cX R3 Wc hM SJ;have hr:=hK.rd;have wp:=Qj.1 hW;refine⟨_,_,_,_,_,_,_,_,_,_,_,he,Qe SJ Wc,λ_=>⟨Qo,Qo⟩,YQ W c,λ_=>Qr,λg J' Ra=>?_,λg=>?_⟩
 ·have g:YQ W c=false:=by
   cases hc:YQ W c with
   | false=>rfl
   | true=>rw[hc] at g; split at g <;> simp at g
  have hb:Yf W c true (JP W)=1:=by unfold Yf; rw[E' g]
  exact QP.no hW (by rw[hb]; decide) (hK.step Ra) hb
 have g:YQ W c=true:=by
  cases hc:YQ W c with
  | true=>rfl
  | false=>rw[hc] at g; simp at g
 obtain⟨c0,c1⟩:=Uy g;refine⟨hr.c.ix ZT c0 c1,_,hr.c.f c0 c1 (j:=0) rfl,λg2 O' Ra=>?_,λg2=>⟨_,KY hr wp.a.c2,_,N0,λg3 Ru Ra=>?_,λg3=>⟨λg4 RC Ra=>?_,λg4=>?_⟩⟩⟩
 ·have g2:(gi W.IE c).up=false:=by simpa using g2
  have hb:Yf W c true (JP W)=6:=by unfold Yf; rw[C' (by rw[g]; decide),E' (by rw[g2]; decide)]
  exact QP.no hW (by rw[hb]; decide) (hK.step Ra) hb
 ·have g2:(gi W.IE c).up=true:=by simpa using g2
  have hL:JP W=5:=by unfold JP; rw[E' (by simpa using g3)]
  have hb:Yf W c true (JP W)=5:=by unfold Yf; rw[C' (by rw[g]; decide),C' (by rw[g2]; decide),hL,E' Qd]
  exact QP.no hW (by rw[hb]; decide) (hK.step Ra) hb
 ·have g2:(gi W.IE c).up=true:=by simpa using g2
  have hL:JP W=0:=by unfold JP; rw[C' (by simpa using g3)]
  have bU:¬QO W=true:=λhr=>by rw[E' hr] at g4; simp at g4
  have hb:Yf W c true (JP W)=10:=by rw[MD g g2 hL,E' (by simpa using bU)]
  rw[C' bU];exact QP.no hW (by rw[hb]; decide) (hK.step Ra) hb
 have g2:(gi W.IE c).up=true:=by simpa using g2
 have hL:JP W=0:=by unfold JP; rw[C' (by simpa using g3)]
 have bU:QO W=true:=Ir λhr=>by rw[C' hr] at g4; simp at g4
 have hb:Yf W c true (JP W)=0:=by rw[MD g g2 hL,C' (by rw[bU]; decide)]
 obtain⟨_,_,_,sf⟩:=zoi hW hb;have SY:Wk 8 [y,y1] w (R8 wv m'.cO (Int.toNat c*5+0) [.bool false]) (RX W c (My (gi W.IE c) false)) m':=hK.R8 (hK.own.AX8 c0 c1 (j:=0) (vs:=[.bool false]) (x:=My (gi W.IE c) false) rfl Qs) NE;refine⟨hr.c.ix ZT c0 c1,zpg hK.own hK.nb c0 c1 Qd,λRQ Sw lV=>?_⟩;have e5:Qa (RX W c (My (gi W.IE c) false)) m'=Qa W m':=F4 _ _ _ _;have hlV:(RX W c (My (gi W.IE c) false)).IE.length=W.IE.length:=by simp[RX]
 have hE:Cs W c=Qg (Kc (RD (RX W c (My (gi W.IE c) false)) c)):=rfl;rw[hE];generalize RX W c (My (gi W.IE c) false)=V at SY sf e5 hlV;have c1V:c<(V.IE.length:Int):=by rw[hlV]; exact c1
 have eQ:=SY.step Sw;have Bv6:=ZA eQ.own c0 c1V;rw[e5] at Bv6;refine I4 Bv6 ?_;rintro e0 wv0 ⟨he0,hy0⟩;refine⟨_,_,_,_,_,_,_,_,_,_,he0,eQ.kept hy0 lV,λSh bJ hs6=>?_⟩;have sfE:=sf.RD c0 c1V;have tB:=(eQ.SA hy0 lV).step bJ;generalize RD V c=U at tB sfE;have Rt:=JE tB.own sfE (I3 _) (by simp only[Qi]; decide);refine I4 Rt ?_;rintro e1 R4 ⟨gW,kW⟩;refine⟨_,_,_,_,_,_,_,_,_,_,gW,tB.kept kW hs6,λSz nN hs7=>?_⟩;have hK7:=(tB.SA kW hs6).step nN;have aS:=Qv hK7.own (MN sfE (I3 _)).1.w (by simp only[Qi]; decide) (by simp only[Qi]; decide) hK7.base;rw[F5 sfE (I3 _)] at aS;refine I4 aS ?_;rintro e2 Rr ⟨m2,aE,lB⟩;exact⟨_,_,_,_,_,_,_,_,_,_,aE,hK7.kept lB hs7,λW8 tG=>QP.ok hW hb ((hK7.SA lB hs7).step tG)⟩
theorem zb9{base pb:Nat}{cap Bu2 Bu3 Bu4:OA}{c:Int}{up:Bool}{last:Int}{lf cf:Fn}{la lk ca ck:Array Va}(h:PW base pb w W m)(hW:Qy W=true)(h0:Q1 [] w cap 0 [I c])(h1:Q1 [] w Bu2 0 [.bool up])(h2:Q1 [] w Bu3 0 [.func lf la lk])(h3:Q1 [] w Bu4 0 [.func cf ca ck])(Al2:∀w1,Q0 [] w w1->OH Tryz.prog (.func lf la lk) [.pointer (pA pb)] w1 λe w2=>(last≠0/\e=.returned (.iface Z1 (.agg #[I last]))\/last=0/\e=.returned .nilIface)/\Q0 [] w1 w2)(Rt:Yf W c up last=0->∀w1,Q0 [] w w1->OH Tryz.prog (.func cf ca ck) [.pointer (pA pb),.agg #[.pointer (pA pb),I c]] w1 λe w2=>e=.returned (.tuple #[])/\∃m2,G1 base pb [] w1 m w2 W' m2) :
  Cz XJ #[.pointer (pA pb),.pointer cap,.pointer Bu2,.pointer Bu3,.pointer Bu4] w λe w2=>(Yf W c up last≠0/\e=.returned (.iface Z1 (.agg #[I (Yf W c up last)]))/\Q0 [] w w2)\/(Yf W c up last=0/\e=.returned .nilIface/\∃m2,G1 base pb [] w m w2 W' m2):=by
 have wp:=Qj.1 hW;have hp:=(Mp.start h).wpt
 refine(HK (pA pb) cap Bu2 Bu3 Bu4 (R:=λv w2=>(Yf W c up last≠0/\v=.iface Z1 (.agg #[I (Yf W c up last)])/\Q0 [] w w2)\/(Yf W c up last=0/\v=.nilIface/\∃m2,G1 base pb [] w m w2 W' m2)) ?_).mono λe w' ⟨v,he,h3⟩=>by
  rw[he];rcases h3 with ⟨a,b,c⟩ | ⟨a,b,c⟩
  ·exact .inl ⟨a,by rw[b],c⟩
  ·exact .inr ⟨a,by rw[b],c⟩
 have hc2:=wp.a.c2;have hm9:=Zo;refine⟨c,h0,YQ W c,C8 hp Qo,λg wr hx=>.inl ?_,λg=>?_⟩
 ·have hb:Yf W c up last=1:=by unfold Yf; rw[E' (by simpa using g)]
  rw[hb];exact⟨Qd,rfl,hx⟩
 have g:YQ W c=true:=by simpa using g
 obtain⟨c0,c1⟩:=Uy g;refine⟨hp.some,_,_,_,hp.IE,c,h0,hp.rd.c.ix ZT c0 c1,_,hp.rd.c.f c0 c1 (j:=0) rfl,up,h1,λg2 wr hx=>.inl ?_,λg2=>⟨lf,la,lk,h2,λwr hx _=>?_⟩⟩
 ·have g2:(gi W.IE c).up≠up:=by simpa using g2
  have hb:Yf W c up last=6:=by unfold Yf; rw[C' (by rw[g]; decide),E' g2]
  rw[hb];exact⟨Qd,rfl,hx⟩
 have g2:(gi W.IE c).up=up:=by simpa using g2
 refine(Al2 wr hx).mono λe w2 ⟨hA,hy⟩=>?_
 rcases hA with ⟨a1,a2⟩ | ⟨a1,a2⟩
 ·have hb:Yf W c up last=last:=by unfold Yf; rw[C' (by rw[g]; decide),C' (by simpa using g2),E' a1]
  refine⟨_,a2,Yo,true,λwq=>by kernel_rfl,λ_ Ru Ra=>.inl ?_,λg=>by cases g⟩;rw[hb];exact⟨a1,rfl,(hx.trans hy).trans Ra⟩
 ·have hM:=(Mp.start h).nil (hx.trans hy);have dQ:=hM.wpt;refine⟨_,a2,Yo,false,λwq=>by kernel_rfl,λg=>(by cases g),λ_=>⟨_,zjo dQ wp.a,λg3 RC SZ=>.inl ?_,λg3=>?_⟩⟩
  ·have g3:QO W=false:=by simpa using g3
   have hb:Yf W c up last=10:=by rw[MD g g2 a1,E' g3]
   rw[hb];exact⟨Qd,rfl,(hx.trans hy).trans SZ⟩
  have g3:QO W=true:=by simpa using g3
  have hb:Yf W c up last=0:=by rw[MD g g2 a1,C' (by rw[g3]; decide)]
  refine⟨cf,ca,ck,h3.ext (hx.trans hy),c,h0.ext (hx.trans hy),pA pb,c,XO,λRQ Sw _=>?_⟩;refine(Rt hb RQ ((hx.trans hy).trans Sw)).mono λe1 w3 ⟨b1,m2,b2⟩=>?_
  exact⟨b1,Yo,λSh bJ=>.inr ⟨hb,rfl,m2,(b2.pre ((hx.trans hy).trans Sw)).post bJ⟩⟩
theorem Fa{c:Int}{up:Bool}{last:Int}{lf cf:Fn}{la lk ca ck:Array Va}(h:Xl [] w W m)(hl:Xz W)(hg:MA w)(Al2:∀(base pb:Nat) (w1:Wo) (m1:MW),Qy W=true->PW base pb w1 W m1->OH Tryz.prog (.func lf la lk) [.pointer (pA pb)] w1 λe w2=>(last≠0/\e=.returned (.iface Z1 (.agg #[I last]))\/last=0/\e=.returned .nilIface)/\Q0 [] w1 w2)(Rt:∀(base pb:Nat) (w1:Wo) (m1:MW),Qy W=true->Yf W c up last=0->Q0 [] w w1->w.heap.size<=base->base<=pb->PW base pb w1 W m1->OH Tryz.prog (.func cf ca ck) [.pointer (pA pb),.agg #[.pointer (pA pb),I c]] w1 λe w2=>e=.returned (.tuple #[])/\∃m2,G1 base pb [] w1 m1 w2 W' m2) :
  Cz JA #[.agg (Qa W m).toArray,I c,.bool up,.func lf la lk,.func cf ca ck] w λe w'=>∃v,e=.returned v/\QP (YK W (Yf W c up last) W') w v w':=by
 refine ER _ _ _ _ _ _ _ _ _ _ c up lf la lk cf ca ck (R:=λv w'=>QP (YK W (Yf W c up last) W') w v w') ?_;intro x hx b1 wb S4 fD wA hn1 b2 wb1 hxb dJ hc2 hn2 b3 wb2 CP3 hb3 hc3 hn3 b4 wb3 B90 hb4 hc4 hn4 b5 hb5 wr R3 hs;have hX0:Q0 [] w wb1:=S4.fresh hxb λy hy=>.inl (q7 hy hx)
 have hX1:Q0 [] w wb2:=hX0.fresh CP3 λy hy=>.inl (q7 hy hx)
 have hX3:Q0 [] w wb3:=hX1.fresh B90 λy hy=>.inl (q7 hy hx)
 have hX:Q0 [] w wr:=hX3.fresh R3 λy hy=>.inl (q7 hy hx)
 have c1:=QQ (QQ (QQ (QQ wA hxb hn1) CP3 hn1) B90 hn1) R3 hn1;have c2:=QQ (QQ (QQ hc2 CP3 hn2) B90 hn2) R3 hn2;have c3:=QQ (QQ hc3 B90 hn3) R3 hn3;have c4:=QQ hc4 R3 hn4;have cell:∀{b:Nat} {v:Va} {t:TypeId} {w1:Wo},wr.heap[b]? = some (Obj.cells ([v]:List Va).toArray t (0,0))->Q0 [] wr w1->Q1 [] w1 (some ⟨b,0,none⟩) 0 [v]:=λhb hx=>VP (QQ hb hx Qs) Qs (k0:=0) rfl
 refine I4 (zsi (bar:=Yf W c up last) (W':=W') (h.ext hX) hl (hg.ext hX) λw1 pb m1 hW Ra hpb hP=>.inl ⟨XJ,_,rfl,zb9 hP hW (cell c1 Ra) (cell c2 Ra) (cell c3 Ra) (cell c4 Ra) (λw9 mF=>Al2 _ pb w9 m1 hW (hP.WG mF)) λhb w9 mF=>Rt _ pb w9 m1 hW hb ((hX.trans Ra).trans mF) hX.size hpb (hP.WG mF)⟩) ?_;rintro e wv ⟨v,he,n',m',hv,hM,hy⟩;subst hv;refine⟨_,_,_,_,_,_,_,_,_,_,_,he,Qe hy hs,λJ' SZ=>⟨n',m',rfl,(hM.ext SZ λy hy hm=>?_).mono hX.size,(hX.trans hy).fresh SZ λy hm=>?_⟩⟩
 ·have:=(hM.lt y hy).1;have:=hs y hm;omega
 ·simp only[Ij,List.not_mem_nil,or_false] at hm;rcases hm with rfl | rfl
  ·exact .inl hx
  ·exact .inl (IB hX3.size hb5)
theorem zsk{p:OA}{bs:List Nat}:PX bs Vi #[.pointer p] w .nilIface:=zc4 p λ_ _=>rfl
theorem zrh{base pb:Nat}{bs:List Nat}{w0:Wo}{m0:MW}{c:Int}{b:Bool}(hM:Mp base pb bs w0 m0 w W m)(c0:0<=c)(c1:c<(W.IE.length:Int)) :
  (m.cO.map (·.add (Int.toNat c*5))).isSome=true/\Yk [] w (m.cO.map (·.add (Int.toNat c*5))) (0+0) 1/\Mp base pb bs w0 m0 (R8 w (m.cO.map (·.add (Int.toNat c*5))) (0+0) [.bool b]) (RX W c (My (gi W.IE c) b)) m:=by
 have hp:=hM.wpt;refine⟨GW (hp.rd.c c c0 c1),B4.2 (zpg hM.own Qs c0 c1 (j:=0) Qd),?_⟩;rw[L7];exact hM.SA (hM.own.AX8 c0 c1 (j:=0) (vs:=[.bool b]) (x:=My (gi W.IE c) b) rfl Qs) NE (F4 _ _ _ _)
theorem zsg{base pb:Nat}{c:Int}(h:PW base pb w W m)(hW:Qy W=true)(hb:Yf W c false 0=0) :
  Cz Ve #[.pointer (pA pb),.agg #[.pointer (pA pb),I c]] w λe w2=>e=.returned (.tuple #[])/\∃m2,G1 base pb [] w m w2 (zvy W c) m2:=by
 refine(zbf (pA pb) (pA pb) c (R:=λv w2=>v=.tuple #[]/\∃m2,G1 base pb [] w m w2 (zvy W c) m2) ?_).mono λe w' ⟨v,he,hv,h3⟩=>⟨by rw[he,hv],h3⟩
 intro b hbb;obtain⟨c0,c1,_,sf⟩:=zvz hW hb;have hM:=Mp.start h;obtain⟨s1,s2,s3⟩:=zrh (b:=true) (hM.add hbb) c0 c1;have hE:zvy W c=Qg (Kc (RX W c (My (gi W.IE c) true))):=rfl;rw[hE];refine⟨_,Mc hM.wpt c0 c1,s1,s2,λwr hx hs=>?_⟩;generalize RX W c (My (gi W.IE c) true)=V at s3 sf;have WN:Mp base pb [b] w m wr V m:=s3.R6 hx;refine I4 (Lk WN.pw sf (I3 _) (by simp only[Qi]; decide)) ?_;rintro e wv ⟨he,hy⟩;refine⟨he,WN.kept hy hs,λRC SZ eM=>?_⟩;have hZ:=(WN.call hy hs).step SZ;refine I4 (D4 hZ.pw (MN sf (I3 _)).1.w (by simp only[Qi]; decide) (by simp only[Qi]; decide)) ?_;rintro e1 Rr ⟨gW,cX⟩;exact⟨gW,hZ.kept cX eM,λRQ Sw=>⟨rfl,m,((hZ.call cX eM).step Sw).close.done⟩⟩
theorem zyf{c:Int}(h:Xl [] w W m)(hl:Xz W)(hg:MA w) :
  Cz HY #[.agg (Qa W m).toArray,I c] w λe w'=>∃v,e=.returned v/\QP (YK W (Yf W c false 0) (zvy W c)) w v w':=by
 refine zi8 _ _ _ _ _ _ _ _ _ _ c (R:=λv w'=>QP (YK W (Yf W c false 0) (zvy W c)) w v w') ?_;intro x hx b1 fD wr S4 hs;refine I4 (Fa (up:=false) (last:=0) (W':=zvy W c) (c:=c) (h.ext S4) hl (hg.ext S4) (λbase pb w1 m1 hW hP=>.inl ⟨Vi,_,rfl,(zsk (bs:=[]) w1 (Q0.refl _ _)).mono λe w2 ⟨he,hx⟩=>⟨.inr ⟨rfl,he⟩,hx⟩⟩) λbase pb w1 m1 hW hb Ra _ _ hP=>.inl ⟨Ve,_,rfl,zsg hP hW hb⟩) ?_;rintro e wv ⟨v,he,n',m',hv,hM,hy⟩;subst hv;refine⟨_,_,_,_,_,_,_,_,_,_,_,he,Qe hy hs,λJ' SZ=>⟨n',m',rfl,(hM.ext SZ λy hy hm=>?_).mono S4.size,(S4.trans hy).fresh SZ λy hm=>.inl (Yw hx fD y hm)⟩⟩;have:=(hM.lt y hy).1;have:=hs y hm;omega
theorem zn6{base pb:Nat}{c:Int}(h:PW base pb w W m)(hW:Qy W=true)(hb:Yf W c true (JP W)=0) :
  Cz UD #[.pointer (pA pb),.agg #[.pointer (pA pb),I c]] w λe w2=>e=.returned (.tuple #[])/\∃m2,G1 base pb [] w m w2 (Cs W c) m2:=by
 refine(AM (pA pb) (pA pb) c (R:=λv w2=>v=.tuple #[]/\∃m2,G1 base pb [] w m w2 (Cs W c) m2) ?_).mono λe w' ⟨v,he,hv,h3⟩=>⟨by rw[he,hv],h3⟩
 intro b hbb;obtain⟨c0,c1,_,sf⟩:=zoi hW hb;have hM:=Mp.start h;obtain⟨s1,s2,s3⟩:=zrh (b:=false) (hM.add hbb) c0 c1;have hlV:(RX W c (My (gi W.IE c) false)).IE.length=W.IE.length:=by simp[RX]
 have hE:Cs W c=Qg (Kc (RD (RX W c (My (gi W.IE c) false)) c)):=rfl;rw[hE];refine⟨_,Mc hM.wpt c0 c1,s1,s2,λwr hx hs=>?_⟩;generalize RX W c (My (gi W.IE c) false)=V at s3 sf hlV;have c1V:c<(V.IE.length:Int):=by rw[hlV]; exact c1
 have WN:Mp base pb [b] w m wr V m:=s3.R6 hx;refine I4 (Oh WN.pw c0 c1V) ?_;rintro e wv ⟨he,hy⟩;refine⟨he,WN.kept hy hs,λRu Ra fX=>?_⟩;have sfE:=sf.RD c0 c1V;have hZ:=(WN.call hy hs).step Ra;generalize RD V c=U at hZ sfE;refine I4 (Lk hZ.pw sfE (I3 _) (by simp only[Qi]; decide)) ?_;rintro e1 R4 ⟨gW,cX⟩;refine⟨gW,hZ.kept cX fX,λRC SZ eM=>?_⟩;have iT:=(hZ.call cX fX).step SZ;refine I4 (D4 iT.pw (MN sfE (I3 _)).1.w (by simp only[Qi]; decide) (by simp only[Qi]; decide)) ?_;rintro e2 Rr ⟨aE,SJ⟩;exact⟨aE,iT.kept SJ eM,λRQ Sw=>⟨rfl,m,((iT.call SJ eM).step Sw).close.done⟩⟩
theorem zn5{base pb:Nat}(h:PW base pb w W m)(hW:Qy W=true) :
  Cz UC #[.pointer (pA pb)] w λe w2=>(JP W≠0/\e=.returned (.iface Z1 (.agg #[I (JP W)]))\/JP W=0/\e=.returned .nilIface)/\Q0 [] w w2:=by
 refine(AL (pA pb) (R:=λv w2=>(JP W≠0/\v=.iface Z1 (.agg #[I (JP W)])\/JP W=0/\v=.nilIface)/\Q0 [] w w2) ?_).mono λe w' ⟨v,he,hv,h3⟩=>⟨by
  rw[he];rcases hv with ⟨a,b⟩ | ⟨a,b⟩
  ·exact .inl ⟨a,by rw[b]⟩
  ·exact .inr ⟨a,by rw[b]⟩,h3⟩
 have wp:=Qj.1 hW;have hp:=(Mp.start h).wpt;refine⟨_,Oz hp wp.a.c2,λwr hx _=>?_⟩;refine I4 BS ?_;rintro e wv ⟨he,hy⟩;refine⟨_,he,Yo,λg J' S4=>⟨.inl ?_,(hx.trans hy).trans S4⟩,λg O' R3=>⟨.inr ?_,(hx.trans hy).trans R3⟩⟩
 ·have:JP W=5:=by unfold JP; rw[E' (by simpa using g)]
  rw[this];exact⟨Qd,rfl⟩
 ·have:JP W=0:=by unfold JP; rw[C' (by simpa using g)]
  exact⟨this,rfl⟩
theorem zfm{c:Int}(h:Xl [] w W m)(hl:Xz W)(hg:MA w) :
  Cz PV #[.agg (Qa W m).toArray,I c] w λe w'=>∃v,e=.returned v/\QP (YK W (Yf W c true (JP W)) (Cs W c)) w v w':=by
 refine zfa _ _ _ _ _ _ _ _ _ _ c (R:=λv w'=>QP (YK W (Yf W c true (JP W)) (Cs W c)) w v w') ?_;intro x hx b1 fD wr S4 hs;refine I4 (Fa (up:=true) (last:=JP W) (W':=Cs W c) (c:=c) (h.ext S4) hl (hg.ext S4) (λbase pb w1 m1 hW hP=>.inl ⟨UC,_,rfl,zn5 hP hW⟩) λbase pb w1 m1 hW hb Ra _ _ hP=>.inl ⟨UD,_,rfl,zn6 hP hW hb⟩) ?_;rintro e wv ⟨v,he,n',m',hv,hM,hy⟩;subst hv;refine⟨_,_,_,_,_,_,_,_,_,_,_,he,Qe hy hs,λJ' SZ=>⟨n',m',rfl,(hM.ext SZ λy hy hm=>?_).mono S4.size,(S4.trans hy).fresh SZ λy hm=>.inl (Yw hx fD y hm)⟩⟩;have:=(hM.lt y hy).1;have:=hs y hm;omega
end
noncomputable def MR(W:Q7)(t:Int):Int:=if Yj W t=false then 2 else if (Q8 W t).state≠2 then 6 else if QO W=false then 10 else 0
def Mt(W:Q7)(t:Int):Int:=if zmh W (Q8 W t).M'>0 then Mx W (Qw W (Q8 W t).group (Q8 W t).mask) else (Q8 W t).M'
def Tx(W:Q7)(t c:Int):MC:={ Oo W t (Q8 W t).group c with state:=1 }
def A3(W:Q7)(t:Int):Q7:=Qg (RD (IU W t (Tx W t (Mt W t))) (Mt W t))
theorem VT(W:Q7)(t:Int)(x:MC):(IU W t x).tasks.length=W.tasks.length:=by simp[IU]
theorem zqz{W:Q7}{t:Int}(h:(Q8 W t).state=2)(c:Int):Uh W t (Q8 W t).group c=IU W t (Oo W t (Q8 W t).group c):=by
 unfold Uh;rw[C' (by rw[h]; decide)]
theorem zkn{W:Q7}{t c:Int}(sf:SF Qn (Qn+Qi) W)(t0:0<=t)(t1:t<(W.tasks.length:Int))(n:(Q8 W t).state≠0)(c0:0<=c)(c1:c<(W.IE.length:Int)):SF Qn (Qn+Qi) (IU W t (Tx W t c)):=by
 have hl:=sf.w.a.t;have hu:=(sf.w.t t t0 Qo n).1;have hv:=zqy sf (I3 _) (t:=t) hu c0 c1;exact sf.IU t0 Qo (x:=Tx W t c) (λ_=>⟨hu,c0,c1⟩) hv.1 hv.2
theorem zrk{W:Q7}{t:Int}(hW:Qy W=true)(hb:MR W t=0):Yj W t=true/\(Q8 W t).state=2/\QO W=true/\SF Qn (Qn+Qi) W/\0<=Mt W t/\Mt W t<(W.IE.length:Int):=by
 have wp:=Qj.1 hW;unfold MR at hb
 split at hb
 ·cases hb
 ·rename_i h1
  split at hb
  ·cases hb
  ·rename_i h2
   split at hb
   ·cases hb
   ·rename_i h3;have h1:Yj W t=true:=by simpa using h1
    have h2:(Q8 W t).state=2:=by simpa using h2
    have h3:QO W=true:=by simpa using h3
    have sw:=Mq wp (Qj.1 h3);obtain⟨t0,t1,n⟩:=X0 h1;have hl:=wp.a.t;have hc:=sw.t t t0 Qo n;refine⟨h1,h2,h3,KF sw,?_⟩;unfold Mt;split
    ·have:=Hn wp.a (Q8 W t).group (Q8 W t).mask;exact⟨this.1,this.2.1⟩
    ·exact hc.2
section
variable {base pb:Nat}{W W':Q7}{m:MW}{w:Wo}
theorem Cf{t:Int}(h:Xl [] w W m)(hl:Xz W) :
  Cz O5 #[.agg (Qa W m).toArray,I t] w λe w'=>∃v,e=.returned v/\QP (YK W (MR W t) (A3 W t)) w v w':=by
 refine AU _ _ _ _ _ _ _ _ _ _ t (R:=λv w'=>QP (YK W (MR W t) (A3 W t)) w v w') ?_;intro y hy y1 cX wr R3 Wc;refine I4 (Zh (h.ext R3) hl) ?_;rintro e wv (⟨hW,he,SJ⟩ | ⟨hW,m',he,hM,SJ⟩)
 ·exact⟨_,_,_,_,_,_,_,_,_,_,_,he,Qe SJ Wc,λ_ J' Ra=>QP.bad hW ((R3.trans SJ).fresh Ra λz hm=>.inl (Yw hy cX z hm)),λg=>by simp at g⟩
 have hK:=Wk.begin hy cX R3 Wc hM SJ;have hr:=hK.rd;have wp:=Qj.1 hW;refine⟨_,_,_,_,_,_,_,_,_,_,_,he,Qe SJ Wc,λg=>by split at g <;> simp at g,λ_=>⟨_,JS hr hl.t,λg O' Ra=>?_,λg=>?_⟩⟩
 ·have g:Yj W t=false:=by simpa using g
  have hb:MR W t=2:=by unfold MR; rw[E' g]
  exact QP.no hW (by rw[hb]; decide) (hK.step Ra) hb
 have g:Yj W t=true:=by simpa using g
 obtain⟨t0,t1,tn⟩:=X0 g;have kG:=wp.a.t;have Wg:=hr.t.ix QM t0 t1;refine⟨Wg,_,hr.t.f t0 t1 (j:=0) rfl,λg2 Ru Ra=>?_,λg2=>⟨λg3 RC Ra=>?_,λg3=>?_⟩⟩
 ·have g2:(Q8 W t).state≠2:=by simpa[Q8] using g2
  have hb:MR W t=6:=by unfold MR; rw[C' (by rw[g]; decide),E' g2]
  exact QP.no hW (by rw[hb]; decide) (hK.step Ra) hb
 ·have g2:¬(Q8 W t).state≠2:=by simpa[Q8] using g2
  have bU:¬QO W=true:=λhr=>by rw[E' hr] at g3; simp at g3
  have hb:MR W t=10:=by unfold MR; rw[C' (by rw[g]; decide),C' g2,E' (by simpa using bU)]
  rw[C' bU];exact QP.no hW (by rw[hb]; decide) (hK.step Ra) hb
 have g2:¬(Q8 W t).state≠2:=by simpa[Q8] using g2
 have bU:QO W=true:=Ir λhr=>by rw[C' hr] at g3; simp at g3
 have hb:MR W t=0:=by unfold MR; rw[C' (by rw[g]; decide),C' g2,C' (by rw[bU]; decide)]
 have Bj1:(Q8 W t).state=2:=by simpa using g2
 obtain⟨_,_,_,sf,_,_⟩:=zrk hW hb;obtain⟨hu,c0,c1⟩:=sf.w.t t t0 Qo tn;refine⟨Wg,_,hr.t.f t0 t1 (j:=2) rfl,_,Pn hr kG,λg4=>?_,λg4=>?_⟩
 ·have g4:zmh W (Q8 W t).M'>0:=Ot g4;have hC:Mt W t=Mx W (Qw W (Q8 W t).group (Q8 W t).mask):=E' g4;obtain⟨d0,d1,_⟩:=Hn wp.a (Q8 W t).group (Q8 W t).mask;refine⟨Wg,_,hr.t.f t0 t1 (j:=1) rfl,Wg,_,hr.t.f t0 t1 (j:=4) rfl,_,Jk hr wp.a.c2 wp.a.tree hu,_,Lm hr wp.a (zvf wp),Wg,_,hr.t.f t0 t1 (j:=1) rfl,λRQ Sw lV=>?_⟩;have iT:=hK.step Sw;have Rt:=V4 iT.own sf (I3 _) (by simp only[Qi]; decide) (t:=t) (g:=(Q8 W t).group) (c:=Mx W (Qw W (Q8 W t).group (Q8 W t).mask)) t0 Qo tn hu d0 d1;refine I4 Rt ?_;rintro e1 R4 ⟨gW,kW⟩;rw[zqz Bj1 (Mx W (Qw W (Q8 W t).group (Q8 W t).mask))] at kW;have dR:=iT.SA kW lV
  have SY:Wk 8 [y,y1] w (R8 R4 m'.tO (Int.toNat t*9+0) [I 1]) (IU W t (Tx W t (Mx W (Qw W (Q8 W t).group (Q8 W t).mask)))) m':=by
   have:Wk 8 [y,y1] w (R8 R4 m'.tO (Int.toNat t*9+0) [I 1]) (IU (IU W t (Oo W t (Q8 W t).group (Mx W (Qw W (Q8 W t).group (Q8 W t).mask)))) t (Tx W t (Mx W (Qw W (Q8 W t).group (Q8 W t).mask)))) m':=dR.R8 (dR.own.vV t0 (by rw[VT]; exact t1) (j:=0) (vs:=[I 1]) (x:=Tx W t (Mx W (Qw W (Q8 W t).group (Q8 W t).mask))) (by rw[show gi (IU W t (Oo W t (Q8 W t).group (Mx W (Qw W (Q8 W t).group (Q8 W t).mask)))).tasks t=_ from L9 t0 t1]; rfl) Qs) L8
   rwa[set_set] at this
  have CM6:Ix m'.tO W.tasks.length t:=by
   have:=dR.rd.t.ix QM t0 (by rw[VT]; exact t1)
   rwa[VT] at this
  refine⟨_,_,_,_,_,_,_,_,_,_,gW,iT.kept kW lV,CM6,zgv dR.own dR.nb t0 (by rw[VT]; exact t1) (j:=0) Qd,λSh bJ hs6=>?_⟩;have e5:Qa (IU W t (Tx W t (Mx W (Qw W (Q8 W t).group (Q8 W t).mask)))) m'=Qa W m':=ME _ _ _ _;have hE:A3 W t=Qg (RD (IU W t (Tx W t (Mx W (Qw W (Q8 W t).group (Q8 W t).mask)))) (Mx W (Qw W (Q8 W t).group (Q8 W t).mask))):=by unfold A3; rw[hC]
  have sfV:=zkn sf t0 t1 tn d0 d1;rw[hE];have hlV:(IU W t (Tx W t (Mx W (Qw W (Q8 W t).group (Q8 W t).mask)))).IE.length=W.IE.length:=rfl;generalize IU W t (Tx W t (Mx W (Qw W (Q8 W t).group (Q8 W t).mask)))=V at SY e5 sfV hlV;have tB:=SY.step bJ;have aS:=ZA tB.own d0 (by rw[hlV]; exact d1);rw[e5] at aS;refine I4 aS ?_;rintro e2 Rr ⟨aE,lB⟩;refine⟨_,_,_,_,_,_,_,_,_,_,aE,tB.kept lB hs6,λSz nN hs7=>?_⟩;have hK7:=(tB.SA lB hs6).step nN;have tP:=Qv hK7.own (sfV.RD d0 (by rw[hlV]; exact d1)).w (by simp only[Qi]; decide) (by simp only[Qi]; decide) hK7.base;refine I4 tP ?_;rintro e3 S5 ⟨m2,iP,hy5⟩;exact⟨_,_,_,_,_,_,_,_,_,_,iP,hK7.kept hy5 hs7,λW8 tG=>QP.ok hW hb ((hK7.SA hy5 hs7).step tG)⟩
 ·have g4:¬zmh W (Q8 W t).M'>0:=Ou g4;have hC:Mt W t=(Q8 W t).M':=C' g4;have d0:=c0;have d1:=c1;refine⟨Wg,_,hr.t.f t0 t1 (j:=1) rfl,λRQ Sw lV=>?_⟩;have iT:=hK.step Sw;have Rt:=V4 iT.own sf (I3 _) (by simp only[Qi]; decide) (t:=t) (g:=(Q8 W t).group) (c:=(Q8 W t).M') t0 Qo tn hu d0 d1;refine I4 Rt ?_;rintro e1 R4 ⟨gW,kW⟩;rw[zqz Bj1 ((Q8 W t).M')] at kW;have dR:=iT.SA kW lV
  have SY:Wk 8 [y,y1] w (R8 R4 m'.tO (Int.toNat t*9+0) [I 1]) (IU W t (Tx W t ((Q8 W t).M'))) m':=by
   have:Wk 8 [y,y1] w (R8 R4 m'.tO (Int.toNat t*9+0) [I 1]) (IU (IU W t (Oo W t (Q8 W t).group ((Q8 W t).M'))) t (Tx W t ((Q8 W t).M'))) m':=dR.R8 (dR.own.vV t0 (by rw[VT]; exact t1) (j:=0) (vs:=[I 1]) (x:=Tx W t ((Q8 W t).M')) (by rw[show gi (IU W t (Oo W t (Q8 W t).group ((Q8 W t).M'))).tasks t=_ from L9 t0 t1]; rfl) Qs) L8
   rwa[set_set] at this
  have CM6:Ix m'.tO W.tasks.length t:=by
   have:=dR.rd.t.ix QM t0 (by rw[VT]; exact t1)
   rwa[VT] at this
  refine⟨_,_,_,_,_,_,_,_,_,_,gW,iT.kept kW lV,CM6,zgv dR.own dR.nb t0 (by rw[VT]; exact t1) (j:=0) Qd,λSh bJ hs6=>?_⟩;have e5:Qa (IU W t (Tx W t ((Q8 W t).M'))) m'=Qa W m':=ME _ _ _ _;have hE:A3 W t=Qg (RD (IU W t (Tx W t ((Q8 W t).M'))) ((Q8 W t).M')):=by unfold A3; rw[hC]
  have sfV:=zkn sf t0 t1 tn d0 d1;rw[hE];have hlV:(IU W t (Tx W t ((Q8 W t).M'))).IE.length=W.IE.length:=rfl;generalize IU W t (Tx W t ((Q8 W t).M'))=V at SY e5 sfV hlV;have tB:=SY.step bJ;have aS:=ZA tB.own d0 (by rw[hlV]; exact d1);rw[e5] at aS;refine I4 aS ?_;rintro e2 Rr ⟨aE,lB⟩;refine⟨_,_,_,_,_,_,_,_,_,_,aE,tB.kept lB hs6,λSz nN hs7=>?_⟩;have hK7:=(tB.SA lB hs6).step nN;have tP:=Qv hK7.own (sfV.RD d0 (by rw[hlV]; exact d1)).w (by simp only[Qi]; decide) (by simp only[Qi]; decide) hK7.base;refine I4 tP ?_;rintro e3 S5 ⟨m2,iP,hy5⟩;exact⟨_,_,_,_,_,_,_,_,_,_,iP,hK7.kept hy5 hs7,λW8 tG=>QP.ok hW hb ((hK7.SA hy5 hs7).step tG)⟩
end
theorem zid{a b w:Int}(ha:0<=a)(hb:0<=b)(h:a+b<=100000000)(w1:1<=w)(w2:w<=20):Zf (a+b) w=Zf a w+Zf b w:=by
 rw[P7 Qo h w1 w2,P7 ha Qo w1 w2,P7 hb Qo w1 w2,Int.add_mul]
theorem zsm{l w:Int}(h0:0<=l)(h1:l<=ZB w):Yh l w=l:=by
 unfold Yh;rw[C' (show ¬ZB w<l by omega)]
 split <;> omega
theorem Ki{p q:Nat->Bool}:∀{n:Nat},(∀j,j<n->p j=q j)->TF p n=TF q n
 | 0,_=>rfl
 | n+1,h=>by simp only[TF]; rw[Ki λj hj=>h j Qo,h n Qo]
theorem MM{p q:Nat->Bool}{v u:Nat->Int}:∀{n:Nat},(∀j,j<n->p j=q j)->(∀j,j<n->p j=true->v j=u j)->QY p v n=QY q u n
 | 0,_,_=>rfl
 | n+1,h,hv=>by
  have ih:=MM (p:=p) (q:=q) (v:=v) (u:=u) (n:=n) (λj hj=>h j Qo) λj hj=>hv j Qo
  simp only[QY];rw[ih,<-h n Qo]
  cases hp:p n with
  | false=>simp
  | true=>
   rw[hv n Qo hp];rcases Zt q u n with ⟨e,_⟩ | ⟨e0,e1,e2,_⟩
   ·rw[e]; simp
   ·rw[hv _ Qo (by rw[h _ Qo]; exact e2)]
theorem YO{gs:List ZN}(ht:Yc gs):∀g:Int,Q6 gs g=true->∀x∈Zb gs g,Q6 gs x=true/\x≠0:=
 Mi ht (λx hx=>by rw[show Zb gs 0=[] from Zq _ _] at hx; cases hx) λh hu hz ih x hx=>by
  rw[YI ht hu hz] at hx;rcases Ij.1 hx with e | e
  ·subst e; exact⟨hu,hz⟩
  ·exact ih x e
def VN(W:Q7)(k c:Int):Prop:=(Qc W (gi W.ID k).parent c).floor<=(Qc W k c).v/\(Qc W k c).v-(Qc W (gi W.ID k).parent c).floor<=ZB (Qc W k c).w
structure Ek (W:Q7) (x:MC):Prop where
 st:x.state=1\/x.state=2
 g:Q6 W.ID x.group=true
 n:Qf x.nice≠0
 m:PE x.mask=true
 m0:x.mask≠0
 s:ZM x.sum=true
 u:ZM x.used=true
 l1:0<=x.load
 l2:x.load<=8000000
 f:x.state=1->(Qc W x.group x.M').floor<=x.v/\x.v-(Qc W x.group x.M').floor<=ZB (Qf x.nice)
structure zne (W:Q7) (k c:Int):Prop where
 s:ZM (Qc W k c).sum=true
 root:k=0->(Qc W k c).on=false/\(Qc W k c).v=0/\(Qc W k c).w=10
 st:k≠0->(Qc W k c).on=true->VN W k c
structure z0a (W:Q7) (c:Int):Prop where
 b:ZM (gi W.IE c).busy=true
 i:ZM (gi W.IE c).idle=true
 c1 : -1<=(gi W.IE c).cur
 c2:(gi W.IE c).cur<12
 no:(gi W.IE c).cur<0->(gi W.IE c).aA=0
 yes:0<=(gi W.IE c).cur->(gi W.IE c).up=true/\1<=(gi W.IE c).aA/\(gi W.IE c).aA<=149
 q:0<=(gi W.IE c).cur->(Q8 W (gi W.IE c).cur).state=1->(Q8 W (gi W.IE c).cur).M'=c->
  (Q8 W (gi W.IE c).cur).v-(Qc W (Q8 W (gi W.IE c).cur).group c).floor<=Zf (gi W.IE c).aA (Qf (Q8 W (gi W.IE c).cur).nice)/\
  ∀x∈Zb W.ID (Q8 W (gi W.IE c).cur).group,VN W x c/\(Qc W x c).v-(Qc W (gi W.ID x).parent c).floor<=Zf (gi W.IE c).aA (Qc W x c).w
structure PreA (W:Q7):Prop where
 a:WA W
 t:∀t:Int,0<=t->t<12->(Q8 W t).state=0/\Q8 W t=TX\/(Q8 W t).state≠0/\Ek W (Q8 W t)
 l:∀t:Int,0<=t->t<12->(Q8 W t).state≠0->0<=(Q8 W t).M'/\(Q8 W t).M'<(W.IE.length:Int)
 s:∀k c:Int,Q6 W.ID k=true->0<=c->c<(W.IE.length:Int)->zne W k c
structure Tz (W:Q7):Prop extends PreA W where
 c:∀c:Int,0<=c->c<(W.IE.length:Int)->z0a W c
def zaa(W:Q7):Prop:=∀t:Int,0<=t->t<12->(Q8 W t).state≠0->Z0 (Qw W (Q8 W t).group (Q8 W t).mask) (Q8 W t).M'=true
def z2z(W:Q7):Prop:=∀k c:Int,Q6 W.ID k=true->0<=c->c<(W.IE.length:Int)->Zw W k c 20=true->Z3 W k c 20<=(Qc W k c).floor
theorem FSx{v f k:Int}(hv:ZM v=true)(hf:ZM f=true):Ke v f k=true↔f<=v/\v-f<=ZB k:=by
 have h1:=Yq.1 hv;have h2:=Yq.1 hf;have hw:IntKind.i64.wrap (v-f)=v-f:=Ql.wrap (k:=.i64) ⟨by show _<=v-f; omega,by show v-f<=_; omega⟩;unfold Ke;rw[hw];simp
theorem UW{W:Q7}(wp:J7 W):zaa W:=λt t0 t1 n=>by
 rcases wp.t t t0 t1 with h | h
 ·exact Is h.1 n
 ·exact h.2.c
theorem E8{W:Q7}(wp:J7 W){k c:Int}(hu:Q6 W.ID k=true)(c0:0<=c)(c1:c<(W.IE.length:Int)):MX W k c:=by
 obtain⟨u0,u1,_⟩:=wp.a.u hu;have hl:=wp.a.sl hu;exact wp.s k c u0 u1 c0 Qo
theorem Xq{W:Q7}(wp:J7 W):Tz W:=by
 have nG:∀k c:Int,Q6 W.ID k=true->k≠0->0<=c->c<(W.IE.length:Int)->(Qc W k c).on=true->VN W k c:=λk c hu hz c0 c1 ho=>by
  have h1:=E8 wp hu c0 c1;have h2:=E8 wp (wp.a.up hu hz) c0 c1;exact(FSx h1.v h2.f).1 (h1.st hz ho)
 refine⟨⟨wp.a,λt t0 t1=>?_,λt t0 t1 n=>?_,λk c hu c0 c1=>?_⟩,λc c0 c1=>?_⟩
 ·rcases wp.t t t0 t1 with h | ⟨n,h⟩
  ·exact .inl h
  ·refine .inr ⟨n,h.st,h.g,h.n,h.m,h.m0,h.s,h.u,h.l1,h.l2,λh1=>?_⟩;obtain⟨d0,d1⟩:=Gb wp.a h.c;exact(FSx h.v (E8 wp h.g d0 d1).f).1 (h.f h1)
 ·rcases wp.t t t0 t1 with h | ⟨_,h⟩
  ·exact Is h.1 n
  ·exact Gb wp.a h.c
 ·have h:=E8 wp hu c0 c1;exact⟨h.s,h.root,λhz ho=>nG k c hu hz c0 c1 ho⟩
 ·have h:=wp.c c c0 c1;have hl:=wp.a.t;refine⟨h.b,h.i,h.c1,by have:=h.c2; omega,h.no,λh0=>⟨(h.yes h0).1,(h.yes h0).2.1,(h.yes h0).2.2.1⟩,λh0 h1 h2=>?_⟩;obtain⟨_,_,_,_,nV,Ba4⟩:=h.yes h0;unfold Mo at Ba4;rw[A',Ik] at Ba4;refine⟨Ba4.1,λx hx=>?_⟩
  have hu:Q6 W.ID (Q8 W (gi W.IE c).cur).group=true:=by
   rcases wp.t _ h0 (by have:=h.c2; omega) with hz | ⟨_,hz⟩
   ·rw[hz.1] at h1; cases h1
   ·exact hz.g
  obtain⟨xu,xz⟩:=YO wp.a.tree _ hu x hx;unfold ZF V6 at nV;rw[A',h2,List.all_eq_true] at nV;have hs:=Ba4.2;unfold TW at hs;rw[List.all_eq_true] at hs;exact⟨nG x c xu xz c0 c1 (nV.2 x hx),Ot (hs x hx)⟩
structure Ba (c:Int) (W W':Q7):Prop where
 n:W'.now=W.now
 t:W'.tasks=W.tasks
 g:Z6 W.ID W'.ID
 len:W'.IE.length=W.IE.length
 b:∀i:Int,0<=i->(gi W'.ID i).IN=(gi W.ID i).IN
 e:∀k d:Int,0<=k->0<=d->d≠c->Qc W' k d=Qc W k d
 cp:∀d:Int,0<=d->d≠c->gi W'.IE d=gi W.IE d
theorem Ba.refl(c:Int)(W:Q7):Ba c W W:=⟨rfl,rfl,Z6.refl _,rfl,λ_ _=>rfl,λ_ _ _ _ _=>rfl,λ_ _ _=>rfl⟩
theorem Ba.trans{c:Int}{A B C:Q7}(h:Ba c A B)(k:Ba c B C):Ba c A C:=⟨k.n.trans h.n,k.t.trans h.t,h.g.trans k.g,k.len.trans h.len,λi hi=>(k.b i hi).trans (h.b i hi),λi d hi hd hn=>(k.e i d hi hd hn).trans (h.e i d hi hd hn),λd hd hn=>(k.cp d hd hn).trans (h.cp d hd hn)⟩
theorem Nh{W:Q7}{g c:Int}{s:KL}(h0:0<=g)(h1:g<(W.ID.length:Int))(c0:0<=c)(c1:c<((gi W.ID g).IF.length:Int)):Ba c W (Rz W g c s):=
 ⟨rfl,rfl,XW h0 h1,rfl,λi hi=>zg0 h0 h1 hi,λk d hk hd hn=>by
  rw[Jo h0 h1 c0 c1 hk hd,C' λh=>hn h.2.symm],λ_ _ _=>rfl⟩
theorem zl7{W:Q7}{c:Int}(c0:0<=c)(c1:c<(W.IE.length:Int)):Ba c W (RD W c):=
 ⟨rfl,rfl,Z6.refl _,H',λ_ _=>rfl,λ_ _ _ _ _=>rfl,λd d0 hn=>by
  show gi (W.IE.set c.toNat (J1 (gi W.IE c))) d=_;rw[QI _ _ c0 c1 d0,C' λh=>hn h.symm]⟩
section
variable {c d:Int}{W W':Q7}
theorem OP(ht:W'.tasks=W.tasks)(hT:Z6 W.ID W'.ID){g:Int}(h:∀j:Nat,j<W.ID.length->1<=j->(gi W.ID (j:Int)).used=true->(gi W.ID (j:Int)).parent=g->(Qc W' (j:Int) d).on=(Qc W (j:Int) d).on):QV W' g d=QV W g d:=by
 unfold QV;rw[ht,hT.len]
 congr 1
 ·refine Ki λj _=>?_
  unfold OO;rw[ht]
 ·refine Ki λj hj=>?_
  unfold J8;rw[hT.u,hT.p]
  by_cases h1:1<=j
  ·cases hu:(gi W.ID (j:Int)).used with
   | false=>simp
   | true=>
    by_cases hp:(gi W.ID (j:Int)).parent=g
    ·rw[h j hj h1 hu hp]
    ·rw[show ((gi W.ID (j:Int)).parent==g)=false from beq_false_of_ne hp]; simp
  ·simp[h1]
theorem zss(ht:W'.tasks=W.tasks)(hT:Z6 W.ID W'.ID)(hl:W.ID.length=8)(h:∀k:Int,0<=k->(Qc W' k d).on=(Qc W k d).on)(g:Int){j:Nat}(hj:j<20):Zp W' g d j=Zp W g d j:=by
 unfold Zp;split
 ·unfold OO; rw[ht]
 ·unfold J8;rw[hT.u,hT.p,h _ Qo]
theorem zhh(ht:W'.tasks=W.tasks)(h:∀k:Int,0<=k->(Qc W' k d).v=(Qc W k d).v)(j:Nat):Zk W' d j=Zk W d j:=by
 unfold Zk;split
 ·unfold Q8; rw[ht]
 ·rw[h _ Qo]
theorem BA(ht:W'.tasks=W.tasks)(hT:Z6 W.ID W'.ID)(hl:W.ID.length=8)(h:∀k:Int,0<=k->(Qc W' k d).on=(Qc W k d).on)(hv:∀k:Int,0<=k->(Qc W' k d).v=(Qc W k d).v)(g:Int):Zw W' g d 20=Zw W g d 20/\Z3 W' g d 20=Z3 W g d 20:=by
 have e:QY (Zp W' g d) (Zk W' d) 20=QY (Zp W g d) (Zk W d) 20:=MM (λj hj=>zss ht hT hl h g hj) λj _ _=>zhh ht hv j
 unfold Zw Z3;rw[e];refine⟨rfl,?_⟩;split
 ·rfl
 ·exact zhh ht hv _
theorem Jp(ht:W'.tasks=W.tasks)(t:Int):Q8 W' t=Q8 W t:=by unfold Q8; rw[ht]
theorem Tv(hT:Z6 W.ID W'.ID)(g:Int):Zb W'.ID g=Zb W.ID g:=hT.path 3 g
theorem zi6{g:Int}(hb:(gi W'.ID g).IN=(gi W.ID g).IN):Uf W' g d=Uf W g d:=by unfold Uf; rw[hb]
end
theorem zpu{W:Q7}{g c:Int}{j:Nat}(hj:j<20)(h:Zp W g c j=true):Zw W g c 20=true/\Z3 W g c 20<=Zk W c j:=by
 unfold Zw Z3;rcases Zt (Zp W g c) (Zk W c) 20 with ⟨_,h2⟩ | ⟨h1,_,_,h4,_⟩
 ·rw[h2 j hj] at h; cases h
 ·rw[C' Qo];exact⟨Ii h1,h4 j hj h⟩
theorem zrt{W:Q7}(ha:WA W){t:Int}(t0:0<=t)(t1:t<12)(hs:(Q8 W t).state=1):Zw W (Q8 W t).group (Q8 W t).M' 20=true/\Z3 W (Q8 W t).group (Q8 W t).M' 20<=(Q8 W t).v:=by
 have e:((t.toNat:Nat):Int)=t:=Qo
 have h:Zp W (Q8 W t).group (Q8 W t).M' t.toNat=true:=by
  rw[UX Qo];unfold OO;rw[e];show (((Q8 W t).state==1)&&((Q8 W t).group==_)&&((Q8 W t).M'==_))=true;rw[hs]; simp
 have:=zpu Qo h
 rwa[DS Qo,e] at this
theorem znm{W:Q7}(ha:WA W){k c:Int}(hu:Q6 W.ID k=true)(hz:k≠0)(ho:(Qc W k c).on=true):Zw W (gi W.ID k).parent c 20=true/\Z3 W (gi W.ID k).parent c 20<=(Qc W k c).v:=by
 obtain⟨k0,k1,ku⟩:=Q5.1 hu;have hl:=ha.gl;have e:((k.toNat:Nat):Int)=k:=Qo
 have h:Zp W (gi W.ID k).parent c (12+k.toNat)=true:=by
  rw[JZ];unfold J8;rw[e,ku,ho];simp;omega
 have:=zpu Qo h
 rwa[DR,e] at this
structure LC (c:Int) (W W':Q7):Prop where
 o:Ba c W W'
 cs:W'.IE=W.IE
 f:∀k d:Int,0<=k->0<=d->(Qc W' k d).floor=(Qc W k d).floor
 w:∀k d:Int,0<=k->0<=d->(Qc W' k d).w=(Qc W k d).w
 s:∀k d:Int,0<=k->0<=d->(Qc W' k d).sum=(Qc W k d).sum
 r:∀d:Int,0<=d->Qc W' 0 d=Qc W 0 d
 v:∀k d:Int,Q6 W.ID k=true->k≠0->0<=d->VN W k d->(Qc W' k d).v=(Qc W k d).v
theorem LC.refl(c:Int)(W:Q7):LC c W W:=⟨Ba.refl _ _,rfl,λ_ _ _ _=>rfl,λ_ _ _ _=>rfl,λ_ _ _ _=>rfl,λ_ _=>rfl,λ_ _ _ _ _ _=>rfl⟩
theorem LC.st{c:Int}{W W':Q7}(ht:Yc W.ID)(h:LC c W W'){k d:Int}(hu:Q6 W.ID k=true)(hz:k≠0)(d0:0<=d)(hs:VN W k d):VN W' k d:=by
 have hp:=(Q5.1 (Yd ht hu hz).1).1;have k0:=(Q5.1 hu).1;unfold VN;rw[h.o.g.p,h.f _ d hp d0,h.v k d hu hz d0 hs,h.w k d k0 d0];exact hs
theorem LC.trans{c:Int}{A B C:Q7}(ht:Yc A.ID)(h:LC c A B)(k:LC c B C):LC c A C:=
 ⟨h.o.trans k.o,k.cs.trans h.cs,λi d a b=>(k.f i d a b).trans (h.f i d a b),λi d a b=>(k.w i d a b).trans (h.w i d a b),λi d a b=>(k.s i d a b).trans (h.s i d a b),λd a=>(k.r d a).trans (h.r d a),λi d hu hz d0 hs=>by
  rw[k.v i d (by rw[h.o.g.eO]; exact hu) hz d0 (h.st ht hu hz d0 hs),h.v i d hu hz d0 hs]⟩
theorem Tz.lc{c:Int}{W W':Q7}(p:Tz W)(h:LC c W W')(ha:WA W')(hon:∀k d:Int,Q6 W.ID k=true->k≠0->0<=d->d<(W.IE.length:Int)->(Qc W' k d).on=true->VN W' k d):Tz W':=by
 have et:∀t,Q8 W' t=Q8 W t:=Jp h.o.t;refine⟨⟨ha,λt t0 t1=>?_,λt t0 t1 n=>?_,λk d hu d0 d1=>?_⟩,λd d0 d1=>?_⟩
 ·rw[et];rcases p.t t t0 t1 with hz | ⟨n,hx⟩
  ·exact .inl hz
  ·refine .inr ⟨n,hx.st,by rw[h.o.g.eO]; exact hx.g,hx.n,hx.m,hx.m0,hx.s,hx.u,hx.l1,hx.l2,λh1=>?_⟩;rw[h.f _ _ (Q5.1 hx.g).1 (p.l t t0 t1 n).1];exact hx.f h1
 ·rw[et] at n ⊢;rw[h.o.len];exact p.l t t0 t1 n
 ·rw[h.o.g.eO] at hu;rw[h.cs] at d1;have hs:=p.s k d hu d0 d1;have k0:=(Q5.1 hu).1;refine⟨by rw[h.s k d k0 d0]; exact hs.s,λhz=>?_,λhz ho=>hon k d hu hz d0 d1 ho⟩;subst hz;rw[h.r d d0];exact hs.root rfl
 ·rw[h.cs] at d1;have hc:=p.c d d0 d1;refine⟨by rw[h.cs]; exact hc.b,by rw[h.cs]; exact hc.i,by rw[h.cs]; exact hc.c1,by rw[h.cs]; exact hc.c2,by rw[h.cs]; exact hc.no,by rw[h.cs]; exact hc.yes,?_⟩;rw[h.cs];simp only[et];intro h0 h1 h2;obtain⟨q1,q2⟩:=hc.q h0 h1 h2
  have hu:Q6 W.ID (Q8 W (gi W.IE d).cur).group=true:=by
   rcases p.t _ h0 hc.c2 with hz | ⟨_,hx⟩
   ·rw[hz.1] at h1; cases h1
   ·exact hx.g
  refine⟨by rw[h.f _ d (Q5.1 hu).1 d0]; exact q1,λx hx=>?_⟩;rw[Tv h.o.g] at hx;obtain⟨xu,xz⟩:=YO p.a.tree _ hu x hx;obtain⟨s1,s2⟩:=q2 x hx;refine⟨h.st p.a.tree xu xz d0 s1,?_⟩;rw[h.o.g.p,h.v x d xu xz d0 s1,h.f _ d (Q5.1 (p.a.up xu xz)).1 d0,h.w x d (Q5.1 xu).1 d0];exact s2
def VW(W:Q7)(c k:Int):Prop:=(Qc W k c).on=(QV W k c && !Uf W k c)
theorem zvh{W:Q7}(p:Tz W){k c d:Int}(hu:Q6 W.ID k=true)(hd:dep 3 W.ID k=d)(d1:1<=d)(c0:0<=c)(c1:c<(W.IE.length:Int)) :
  LC c W (Rz W k c (ZY W k c))/\Tz (Rz W k c (ZY W k c))/\VW (Rz W k c (ZY W k c)) c k/\∀g:Int,Q6 W.ID g=true->g≠k->(gi W.ID k).parent≠g->VW W c g->VW (Rz W k c (ZY W k c)) c g:=by
 have hz:k≠0:=λe=>by subst e; rw[Y8] at hd; omega
 obtain⟨u0,u1,_⟩:=Q5.1 hu;have hl:=p.a.gl;have hsl:=p.a.sl hu;have tA:c<((gi W.ID k).IF.length:Int):=Qo;have hpu:=p.a.up hu hz
 have hpk:(gi W.ID k).parent≠k:=λe=>by
  obtain⟨_,_,_,n,e1,e2,_⟩:=Yd p.a.tree hu hz;rw[e] at e2; omega
 have e:∀{i j:Int},0<=i->0<=j->Qc (Rz W k c (ZY W k c)) i j=if k=i/\c=j then ZY W k c else Qc W i j:=λhi hj=>Jo u0 u1 c0 tA hi hj
 have ev:VN W k c->(ZY W k c).v=(Qc W k c).v:=λhs=>by
  simp only[ZY];split
  ·rw[zsm (by have:=hs.1; omega) hs.2]; omega
  ·rfl
 have eq0:∀{i j:Int},k=i/\c=j->(ZY W k c).floor=(Qc W i j).floor/\(ZY W k c).w=(Qc W i j).w/\(ZY W k c).sum=(Qc W i j).sum:=λh=>by
  obtain⟨rfl,rfl⟩:=h; exact⟨rfl,rfl,rfl⟩
 have hT:=XW (W:=W) (g:=k) (c:=c) (s:=ZY W k c) u0 u1
 have lc:LC c W (Rz W k c (ZY W k c)):=by
  refine⟨Nh u0 u1 c0 tA,rfl,λi j hi hj=>?_,λi j hi hj=>?_,λi j hi hj=>?_,λj hj=>?_,λi j iu iz hj hs=>?_⟩
  ·rw[e hi hj]; split
   ·rename_i h; exact(eq0 h).1
   ·rfl
  ·rw[e hi hj]; split
   ·rename_i h; exact(eq0 h).2.1
   ·rfl
  ·rw[e hi hj]; split
   ·rename_i h; exact(eq0 h).2.2
   ·rfl
  ·rw[e (I3 0) hj,C' λh=>hz h.1]
  ·rw[e (Q5.1 iu).1 hj]; split
   ·rename_i h;obtain⟨rfl,rfl⟩:=h;exact ev hs
   ·rfl
 have act:∀g:Int,(gi W.ID k).parent≠g->QV (Rz W k c (ZY W k c)) g c=QV W g c:=λg hg=>by
  refine OP (W:=W) (W':=Rz W k c (ZY W k c)) rfl hT λj hj _ _ hp=>?_
  rw[e Qo c0,C'];rintro⟨h,_⟩;exact hg (by rw[h]; exact hp)
 have hoe:VW (Rz W k c (ZY W k c)) c k:=by
  unfold VW;rw[e u0 c0,E' ⟨rfl,rfl⟩,act k hpk,He u0 u1 u0];rfl
 refine⟨lc,p.lc lc (p.a.Rz u0 Qo) λi j iu iz j0 j1 ho=>?_,hoe,λg gu gk hg h=>?_⟩
 ·by_cases h:k=i/\c=j
  ·obtain⟨rfl,rfl⟩:=h
   by_cases hs:VN W k c
   ·exact lc.st p.a.tree hu hz c0 hs
   ·have C26:(Qc W k c).on=false:=by
     cases hb:(Qc W k c).on with
     | false=>rfl
     | true=>exact Is ((p.s k c hu c0 c1).st hz hb) hs
    rw[e u0 c0,E' ⟨rfl,rfl⟩] at ho;have ho:(QV W k c && !Uf W k c)=true:=ho;unfold VN;rw[hT.p,e u0 c0,E' ⟨rfl,rfl⟩,lc.f _ c (Q5.1 hpu).1 c0];simp only[ZY];rw[E' ⟨ho,C26⟩];have:=ZU ((Qc W k c).v-(Qc W (gi W.ID k).parent c).floor) (Qc W k c).w;omega
  ·rw[e (Q5.1 iu).1 j0,C' h] at ho;exact lc.st p.a.tree iu iz j0 ((p.s i j iu j0 j1).st iz ho)
 ·unfold VW;have g0:=(Q5.1 gu).1;rw[e g0 c0,C' λh=>gk h.1.symm,act g hg,He u0 u1 g0];exact h
theorem zl0{W:Q7}(p:Tz W){c d:Int}(d1:1<=d)(c0:0<=c)(c1:c<(W.IE.length:Int))(hI:∀g:Int,Q6 W.ID g=true->d<dep 3 W.ID g->VW W c g):∀k:Nat,k<=8->
  LC c W (Zn W c d k)/\Tz (Zn W c d k)/\∀g:Int,Q6 W.ID g=true->d<dep 3 W.ID g\/dep 3 W.ID g=d/\g<(k:Int)->VW (Zn W c d k) c g
 | 0,_=>⟨LC.refl _ _,p,λg gu h=>hI g gu (by
   rcases h with h | h
   ·exact h
   ·have:=(Q5.1 gu).1;have:=h.2;omega)⟩
 | k+1,hk=>by
  obtain⟨a,b,ih⟩:=zl0 p d1 c0 c1 hI k Qo;have hl:=b.a.gl;have hT:=a.o.g;simp only[Zn];split
  ·rename_i hc;have hu:Q6 (Zn W c d k).ID (k:Int)=true:=Q5.2 ⟨Qo,Qo,hc.1⟩;obtain⟨l1,l2,l3,l4⟩:=zvh b hu hc.2 d1 c0 (c:=c) (by rw[a.cs]; exact c1);refine⟨a.trans p.a.tree l1,l2,λg gu h=>?_⟩
   by_cases e:g=(k:Int)
   ·subst e; exact l3
   ·have hkz:(k:Int)≠0:=λe=>by have:=hc.2; rw[e,Y8] at this; omega
    obtain⟨_,_,_,n,e1,e2,_⟩:=Yd b.a.tree hu hkz;refine l4 g (by rw[hT.eO]; exact gu) e (λhp=>?_) (ih g gu ?_)
    ·rw[hp,hT.dep] at e2;have:=hc.2;omega
    ·rcases h with h | h
     ·exact .inl h
     ·exact .inr ⟨h.1,by have:=h.2; omega⟩
  ·rename_i hc;refine⟨a,b,λg gu h=>ih g gu ?_⟩;rcases h with h | h
   ·exact .inl h
   ·refine .inr ⟨h.1,?_⟩
    by_cases e:g=(k:Int)
    ·subst e;exact Is ⟨by rw[hT.u]; exact(Q5.1 gu).2.2,by rw[hT.dep]; exact h.1⟩ hc
    ·have:=h.2;omega
theorem zhf{W:Q7}(p:Tz W){c:Int}(c0:0<=c)(c1:c<(W.IE.length:Int)):LC c W (QG W c)/\Tz (QG W c)/\∀g:Int,Q6 W.ID g=true->g≠0->VW (QG W c) c g:=by
 have key:∀j:Nat,j<=3->LC c W (YV W c j)/\Tz (YV W c j)/\∀g:Int,Q6 W.ID g=true->3-(j:Int)<dep 3 W.ID g->VW (YV W c j) c g:=by
  intro j
  induction j with
  | zero=>exact λ_=>⟨LC.refl _ _,p,λg gu h=>by have:=(Gd p.a gu).2; omega⟩
  | succ j ih=>
   intro hj;obtain⟨a,b,h⟩:=ih Qo;have hT:=a.o.g;obtain⟨a2,b2,h2⟩:=zl0 b (c:=c) (d:=3-(j:Int)) Qo c0 (by rw[a.cs]; exact c1) (λg gu hd=>h g (by rwa[hT.eO] at gu) (by rwa[hT.dep] at hd)) 8 (I8 _);refine⟨a.trans p.a.tree a2,b2,λg gu hd=>h2 g (by rw[hT.eO]; exact gu) ?_⟩;rw[hT.dep];have:=(Q5.1 gu).2.1;have:=p.a.gl
   by_cases e:dep 3 W.ID g=3-(j:Int)
   ·exact .inr ⟨e,Qo⟩
   ·exact .inl Qo
 obtain⟨a,b,h⟩:=key 3 (I8 _);refine⟨a,b,λg gu gz=>h g gu ?_⟩;obtain⟨_,_,_,n,e1,_⟩:=Yd p.a.tree gu gz;omega
theorem zcq{W:Q7}(p:Tz W):∀c:Nat,c<=W.IE.length->Tz (Yi W c)/\(Yi W c).IE=W.IE
 | 0,_=>⟨p,rfl⟩
 | c+1,hc=>by
  obtain⟨a,e⟩:=zcq p c Qo;obtain⟨l,b,_⟩:=zhf a (c:=(c:Int)) Qo (by rw[e]; omega);exact⟨b,l.cs.trans e⟩
theorem Tz.BI1{W W':Q7}(p:Tz W)(ho:VZ W W')(ha:WA W'):Tz W':=by
 have et:∀t,Q8 W' t=Q8 W t:=Jp ho.t;have es:∀k d:Int,0<=k->Qc W' k d=Qc W k d:=λk d hk=>by unfold Qc; rw[ho.s k hk]
 have est:∀k d:Int,Q6 W.ID k=true->k≠0->(VN W' k d↔VN W k d):=λk d hu hz=>by
  unfold VN;rw[ho.g.p,es _ _ (Q5.1 (p.a.up hu hz)).1,es _ _ (Q5.1 hu).1]
 refine⟨⟨ha,λt t0 t1=>?_,λt t0 t1 n=>?_,λk d hu d0 d1=>?_⟩,λd d0 d1=>?_⟩
 ·rw[et];rcases p.t t t0 t1 with hz | ⟨n,hx⟩
  ·exact .inl hz
  ·refine .inr ⟨n,hx.st,by rw[ho.g.eO]; exact hx.g,hx.n,hx.m,hx.m0,hx.s,hx.u,hx.l1,hx.l2,λh1=>?_⟩;rw[es _ _ (Q5.1 hx.g).1];exact hx.f h1
 ·rw[et] at n ⊢;rw[ho.c];exact p.l t t0 t1 n
 ·rw[ho.g.eO] at hu;rw[ho.c] at d1;have hs:=p.s k d hu d0 d1;have k0:=(Q5.1 hu).1;exact⟨by rw[es k d k0]; exact hs.s,by rw[es k d k0]; exact hs.root,λhz h=>(est k d hu hz).2 (hs.st hz (by rwa[es k d k0] at h))⟩
 ·rw[ho.c] at d1;have hc:=p.c d d0 d1;refine⟨by rw[ho.c]; exact hc.b,by rw[ho.c]; exact hc.i,by rw[ho.c]; exact hc.c1,by rw[ho.c]; exact hc.c2,by rw[ho.c]; exact hc.no,by rw[ho.c]; exact hc.yes,?_⟩;rw[ho.c];simp only[et];intro h0 h1 h2;obtain⟨q1,q2⟩:=hc.q h0 h1 h2
  have hu:Q6 W.ID (Q8 W (gi W.IE d).cur).group=true:=by
   rcases p.t _ h0 hc.c2 with hz | ⟨_,hx⟩
   ·rw[hz.1] at h1; cases h1
   ·exact hx.g
  refine⟨by rw[es _ d (Q5.1 hu).1]; exact q1,λx hx=>?_⟩;rw[Tv ho.g] at hx;obtain⟨xu,xz⟩:=YO p.a.tree _ hu x hx;obtain⟨s1,s2⟩:=q2 x hx;refine⟨(est x d xu xz).2 s1,?_⟩;rw[ho.g.p,es x d (Q5.1 xu).1,es _ d (Q5.1 (p.a.up xu xz)).1];exact s2
structure FC (c:Int) (W W':Q7):Prop where
 o:Ba c W W'
 cs:W'.IE=W.IE
 on:∀k d:Int,0<=k->0<=d->(Qc W' k d).on=(Qc W k d).on
 v:∀k d:Int,0<=k->0<=d->(Qc W' k d).v=(Qc W k d).v
 w:∀k d:Int,0<=k->0<=d->(Qc W' k d).w=(Qc W k d).w
 s:∀k d:Int,0<=k->0<=d->(Qc W' k d).sum=(Qc W k d).sum
 up:∀k d:Int,0<=k->0<=d->(Qc W k d).floor<=(Qc W' k d).floor
 fl:∀k:Int,0<=k->(Qc W' k c).floor=(Qc W k c).floor\/Zw W k c 20=true/\(Qc W' k c).floor=Z3 W k c 20
theorem BO{W:Q7}(ha:WA W){c:Int}(c0:0<=c)(c1:c<(W.IE.length:Int)):∀k:Nat,k<=8->FC c W (QS W c k)/\WA (QS W c k)/\∀g:Int,Q6 W.ID g=true->g<(k:Int)->Zw W g c 20=true->Z3 W g c 20<=(Qc (QS W c k) g c).floor
 | 0,_=>⟨⟨Ba.refl _ _,rfl,λ_ _ _ _=>rfl,λ_ _ _ _=>rfl,λ_ _ _ _=>rfl,λ_ _ _ _=>rfl,λ_ _ _ _=>I3 _,λ_ _=>.inl rfl⟩,ha,λg gu h=>by have:=(Q5.1 gu).1; omega⟩
 | k+1,hk=>by
  obtain⟨f,hA,ih⟩:=BO ha c0 c1 k Qo;have hl:=hA.gl;have hT:=f.o.g;have hb:=BA f.o.t hT ha.gl (λi hi=>f.on i c hi c0) (λi hi=>f.v i c hi c0);simp only[QS];split
  ·rename_i hc;have hu:Q6 (QS W c k).ID (k:Int)=true:=Q5.2 ⟨Qo,Qo,hc.1⟩;have hsl:=hA.sl hu;have tA:c<((gi (QS W c k).ID (k:Int)).IF.length:Int):=by rw[hsl,f.cs]; exact c1
   have e:∀{i j:Int},0<=i->0<=j->Qc (Rz (QS W c k) (k:Int) c (DI (QS W c k) (k:Int) c)) i j=if (k:Int)=i/\c=j then DI (QS W c k) (k:Int) c else Qc (QS W c k) i j:=λhi hj=>Jo Qo Qo c0 tA hi hj
   refine⟨⟨f.o.trans (Nh Qo Qo c0 tA),f.cs,λi j hi hj=>?_,λi j hi hj=>?_,λi j hi hj=>?_,λi j hi hj=>?_,λi j hi hj=>?_,λi hi=>?_⟩,hA.Rz Qo Qo,λg gu hg hB=>?_⟩
   ·rw[e hi hj]; split
    ·rename_i h; obtain⟨rfl,rfl⟩:=h; exact f.on _ _ hi hj
    ·exact f.on i j hi hj
   ·rw[e hi hj]; split
    ·rename_i h; obtain⟨rfl,rfl⟩:=h; exact f.v _ _ hi hj
    ·exact f.v i j hi hj
   ·rw[e hi hj]; split
    ·rename_i h; obtain⟨rfl,rfl⟩:=h; exact f.w _ _ hi hj
    ·exact f.w i j hi hj
   ·rw[e hi hj]; split
    ·rename_i h; obtain⟨rfl,rfl⟩:=h; exact f.s _ _ hi hj
    ·exact f.s i j hi hj
   ·rw[e hi hj]; split
    ·rename_i h; obtain⟨rfl,rfl⟩:=h;have h1:=f.up (k:Int) c hi hj;have h2:=hc.2.2;show _<=Z3 (QS W c k) (k:Int) c 20;omega
    ·exact f.up i j hi hj
   ·rw[e hi c0]; split
    ·rename_i h; obtain⟨rfl,_⟩:=h;refine .inr ⟨(hb _).1▸hc.2.1,?_⟩;show Z3 (QS W c k) (k:Int) c 20=_;exact(hb _).2
    ·exact f.fl i hi
   ·have g0:=(Q5.1 gu).1;rw[e g0 c0];split
    ·rename_i h; obtain⟨rfl,_⟩:=h;show _<=Z3 (QS W c k) (k:Int) c 20;rw[(hb _).2]; exact I3 _
    ·rename_i h;exact ih g gu (by have:g≠(k:Int):=λe=>h ⟨e.symm,rfl⟩; omega) hB
  ·rename_i hc;refine⟨f,hA,λg gu hg hB=>?_⟩
   by_cases e:g=(k:Int)
   ·subst e;rw[hT.u,(hb _).1,(hb _).2] at hc
    by_cases h:Z3 W (k:Int) c 20>(Qc (QS W c k) (k:Int) c).floor
    ·exact Is ⟨(Q5.1 gu).2.2,hB,h⟩ hc
    ·omega
   ·exact ih g gu Qo hB
theorem Ba.W9{c d:Int}{W W':Q7}(h:Ba c W W')(d0:0<=d)(hd:d≠c)(g:Int):QV W' g d=QV W g d:=
 OP h.t h.g λj _ _ _ _=>by rw[h.e _ d Qo d0 hd]
theorem Ba.line{c:Int}{W W':Q7}(h:Ba c W W')(ht:Yc W.ID){t:Int}(hu:Q6 W.ID (Q8 W t).group=true)(d0:0<=(Q8 W t).M')(hd:(Q8 W t).M'≠c):ZF W' t=ZF W t:=by
 unfold ZF V6;rw[Jp h.t,Tv h.g]
 congr 1
 rw[Bool.eq_iff_iff,List.all_eq_true,List.all_eq_true];refine forall_congr' λx=>forall_congr' λhx=>?_
 rw[h.e x _ (Q5.1 (YO ht _ hu x hx).1).1 d0 hd]
structure Dn (W:Q7) (c:Int):Prop where
 on:∀k:Int,Q6 W.ID k=true->k≠0->VW W c k
 cu:0<=(gi W.IE c).cur->(Q8 W (gi W.IE c).cur).M'=c/\ZF W (gi W.IE c).cur=true
 fl:∀k:Int,Q6 W.ID k=true->Zw W k c 20=true->Z3 W k c 20<=(Qc W k c).floor
theorem Dn.oth{c d:Int}{W W':Q7}(h:Dn W d)(p:Tz W)(o:Ba c W W')(d0:0<=d)(d1:d<(W.IE.length:Int))(hd:d≠c):Dn W' d:=by
 refine⟨λk hu hz=>?_,λh0=>?_,λk hu hB=>?_⟩
 ·rw[o.g.eO] at hu;have k0:=(Q5.1 hu).1;have:=h.on k hu hz;unfold VW at this ⊢;rw[o.e k d k0 d0 hd,o.W9 d0 hd,zi6 (o.b k k0)];exact this
 ·rw[o.cp d d0 hd] at h0 ⊢;rw[Jp o.t];obtain⟨h1,h2⟩:=h.cu h0;refine⟨h1,?_⟩
  have hs:(Q8 W (gi W.IE d).cur).state=1:=by
   unfold ZF at h2;rw[A'] at h2;exact Iz h2.1
  have hu:Q6 W.ID (Q8 W (gi W.IE d).cur).group=true:=by
   rcases p.t _ h0 (p.c d d0 d1).c2 with hz | ⟨_,hx⟩
   ·rw[hz.1] at hs; cases hs
   ·exact hx.g
  rw[o.line p.a.tree hu (by rw[h1]; exact d0) (by rw[h1]; exact hd)];exact h2
 ·rw[o.g.eO] at hu;have hb:=BA (d:=d) o.t o.g p.a.gl (λi hi=>by rw[o.e i d hi d0 hd]) (λi hi=>by rw[o.e i d hi d0 hd]) k;rw[hb.1] at hB;rw[hb.2,o.e k d (Q5.1 hu).1 d0 hd];exact h.fl k hu hB
theorem Ek.cp{W:Q7}{x:MC}(h:Ek W x)(cs:List Px):Ek { W with IE:=cs } x:=⟨h.st,h.g,h.n,h.m,h.m0,h.s,h.u,h.l1,h.l2,h.f⟩
theorem zne.cp{W:Q7}{k c:Int}(h:zne W k c)(cs:List Px):zne { W with IE:=cs } k c:=⟨h.s,h.root,h.st⟩
theorem PreA.RD{W:Q7}(p:PreA W){c:Int}(c0:0<=c)(c1:c<(W.IE.length:Int)):PreA (RD W c):=by
 have hlen:(YtnclplgaicdapaaGreatDoor.RD W c).IE.length=W.IE.length:=H';refine⟨?_,λt t0 t1=>?_,λt t0 t1 n=>?_,λk d hu d0 d1=>?_⟩
 ·refine p.a.cp H' ?_;rw[zkl H' λj hj=>?_]
  ·exact p.a.wT
  ·rw[QI _ _ c0 c1 Qo];split
   ·rename_i e; rw[<-e]; rfl
   ·rfl
 ·rcases p.t t t0 t1 with h | h
  ·exact .inl h
  ·exact .inr ⟨h.1,h.2.cp _⟩
 ·rw[hlen]; exact p.l t t0 t1 n
 ·rw[hlen] at d1; exact(p.s k d hu d0 d1).cp _
theorem Tz.RD{W:Q7}(p:Tz W){c:Int}(c0:0<=c)(c1:c<(W.IE.length:Int)):Tz (RD W c):=by
 refine⟨p.toPreA.RD c0 c1,λd d0 d1=>?_⟩;have hlen:(YtnclplgaicdapaaGreatDoor.RD W c).IE.length=W.IE.length:=H';have mB:gi (YtnclplgaicdapaaGreatDoor.RD W c).IE d=if c=d then J1 (gi W.IE c) else gi W.IE d:=QI _ _ c0 c1 d0;rw[hlen] at d1;have hc:=p.c d d0 d1
 by_cases e:c=d
 ·subst e;rw[E' rfl] at mB;have n1:(J1 (gi W.IE c)).cur = -1:=rfl;exact⟨by rw[mB]; exact hc.b,by rw[mB]; exact hc.i,by rw[mB,n1]; exact I3 _,by rw[mB,n1]; decide,λ_=>by rw[mB]; rfl,λh=>by rw[mB,n1] at h; omega,λh=>by rw[mB,n1] at h; omega⟩
 ·rw[C' e] at mB;exact⟨by rw[mB]; exact hc.b,by rw[mB]; exact hc.i,by rw[mB]; exact hc.c1,by rw[mB]; exact hc.c2,by rw[mB]; exact hc.no,by rw[mB]; exact hc.yes,by rw[mB]; exact hc.q⟩
theorem zwq{W:Q7}(p:Tz W){c:Int}(c0:0<=c)(c1:c<(W.IE.length:Int)):Tz (Vb W c)/\Ba c W (Vb W c)/\Dn (Vb W c) c:=by
 obtain⟨l,p1,hon⟩:=zhf p c0 c1;obtain⟨f,hA,rJ⟩:=BO p1.a c0 (c:=c) (by rw[l.cs]; exact c1) 8 (I8 _);have f:FC c (QG W c) (Za (QG W c) c):=f;have hA:WA (Za (QG W c) c):=hA;have rJ:∀g:Int,Q6 (QG W c).ID g=true->g<((8:Nat):Int)->Zw (QG W c) g c 20=true->Z3 (QG W c) g c 20<=(Qc (Za (QG W c) c) g c).floor:=rJ;have hon:∀g:Int,Q6 (QG W c).ID g=true->g≠0->VW (QG W c) c g:=λg gu gz=>hon g (by rwa[l.o.g.eO] at gu) gz
 have cJ:=p1.a.gl;have tR:(QG W c).IE.length=W.IE.length:=by rw[l.cs]
 have Wf:Vb W c=if M7 (Za (QG W c) c) c=true then RD (Za (QG W c) c) c else Za (QG W c) c:=rfl;have hO:Ba c W (Za (QG W c) c):=l.o.trans f.o;rw[Wf];clear Wf;have tA:c<((QG W c).IE.length:Int):=by rw[tR]; exact c1
 generalize QG W c=V at p1 hon f hA rJ cJ tR hO tA;generalize Za V c=F at f hA rJ hO;have et:∀t,Q8 F t=Q8 V t:=Jp f.o.t;have hT:=f.o.g;have aX:=BA (d:=c) f.o.t hT cJ (λi hi=>f.on i c hi c0) (λi hi=>f.v i c hi c0)
 have low:∀k:Int,Q6 V.ID k=true->∀v:Int,(Zw V k c 20=true/\Z3 V k c 20<=v)->(Qc V k c).floor<=v->(Qc F k c).floor<=v:=λk hu v hv hf=>by
  rcases f.fl k (Q5.1 hu).1 with e | ⟨_,e⟩
  ·rw[e]; exact hf
  ·rw[e]; exact hv.2
 have st:∀k d:Int,Q6 V.ID k=true->k≠0->0<=d->(Qc V k d).on=true->VN V k d->VN F k d:=λk d hu hz d0 ho hs=>by
  have pu:=p1.a.up hu hz;have k0:=(Q5.1 hu).1;have q0:=(Q5.1 pu).1;unfold VN;rw[hT.p,f.v k d k0 d0,f.w k d k0 d0];have hup:=f.up _ d q0 d0;refine⟨?_,by have:=hs.2; omega⟩
  by_cases hd:d=c
  ·subst hd;exact low _ pu _ (znm p1.a hu hz ho) hs.1
  ·rw[f.o.e _ d q0 d0 hd]; exact hs.1
 have pa:PreA F:=by
  refine⟨hA,λt t0 t1=>?_,λt t0 t1 n=>?_,λk d hu d0 d1=>?_⟩
  ·rw[et];rcases p1.t t t0 t1 with hz | ⟨n,hx⟩
   ·exact .inl hz
   ·refine .inr ⟨n,hx.st,by rw[hT.eO]; exact hx.g,hx.n,hx.m,hx.m0,hx.s,hx.u,hx.l1,hx.l2,λh1=>?_⟩;obtain⟨d0,d1⟩:=p1.l t t0 t1 n;have g0:=(Q5.1 hx.g).1;have hup:=f.up _ _ g0 d0;have hs:=hx.f h1;refine⟨?_,Qo⟩
    by_cases hd:(Q8 V t).M'=c
    ·have hb:=zrt p1.a t0 t1 h1;rw[hd] at hb hs ⊢;exact low _ hx.g _ hb hs.1
    ·rw[f.o.e _ _ g0 d0 hd]; exact hs.1
  ·rw[et] at n ⊢;rw[f.cs];exact p1.l t t0 t1 n
  ·rw[hT.eO] at hu;rw[f.cs] at d1;have hs:=p1.s k d hu d0 d1;have k0:=(Q5.1 hu).1;refine⟨by rw[f.s k d k0 d0]; exact hs.s,λhz=>?_,λhz h=>?_⟩
   ·rw[f.on k d k0 d0,f.v k d k0 d0,f.w k d k0 d0]; exact hs.root hz
   ·rw[f.on k d k0 d0] at h;exact st k d hu hz d0 h (hs.st hz h)
 have ptu:∀t:Int,0<=t->t<12->(Q8 V t).state=1->Q6 V.ID (Q8 V t).group=true:=λt t0 t1 h=>by
  rcases p1.t t t0 t1 with hz | ⟨_,hx⟩
  ·rw[hz.1] at h; cases h
  ·exact hx.g
 have pc:∀d:Int,0<=d->d<(V.IE.length:Int)->(d=c->M7 F c=false)->z0a F d:=λd d0 d1 hg=>by
  have hc:=p1.c d d0 d1;refine⟨by rw[f.cs]; exact hc.b,by rw[f.cs]; exact hc.i,by rw[f.cs]; exact hc.c1,by rw[f.cs]; exact hc.c2,by rw[f.cs]; exact hc.no,by rw[f.cs]; exact hc.yes,?_⟩;rw[f.cs];simp only[et];intro h0 h1 h2;obtain⟨q1,q2⟩:=hc.q h0 h1 h2;have hu:=ptu _ h0 hc.c2 h1;have hup:=f.up _ d (Q5.1 hu).1 d0;refine⟨Qo,λx hx=>?_⟩;rw[Tv hT] at hx;obtain⟨xu,xz⟩:=YO p1.a.tree _ hu x hx;obtain⟨s1,s2⟩:=q2 x hx;have x0:=(Q5.1 xu).1;have q0:=(Q5.1 (p1.a.up xu xz)).1;have DX4:=f.up _ d q0 d0;refine⟨?_,by rw[hT.p,f.v x d x0 d0,f.w x d x0 d0]; omega⟩
  by_cases hd:d=c
  ·subst hd
   have hl:ZF F (gi V.IE d).cur=true:=by
    have:=hg rfl;unfold M7 at this;rw[f.cs,et,Ii h0,h2] at this
    simpa using this
   unfold ZF V6 at hl;rw[et,h2,Tv hT,A',List.all_eq_true] at hl;have ho:=hl.2 x hx;rw[f.on x d x0 d0] at ho;exact st x d xu xz d0 ho s1
  ·unfold VN;rw[hT.p,f.o.e x d x0 d0 hd,f.o.e _ d q0 d0 hd];exact s1
 have Bj0:∀k:Int,Q6 F.ID k=true->k≠0->VW F c k:=λk hu hz=>by
  rw[hT.eO] at hu;have k0:=(Q5.1 hu).1;have:=hon k hu hz;unfold VW at this ⊢;rw[f.on k c k0 c0,OP f.o.t hT λj _ _ _ _=>f.on _ c Qo c0,zi6 (f.o.b k k0)];exact this
 have Ca6:∀k:Int,Q6 F.ID k=true->Zw F k c 20=true->Z3 F k c 20<=(Qc F k c).floor:=λk hu hB=>by
  rw[hT.eO] at hu;rw[(aX k).1] at hB;rw[(aX k).2];exact rJ k hu (by have:=(Q5.1 hu).2.1; omega) hB
 split
 ·rename_i hg;have cF:c<(F.IE.length:Int):=by rw[f.cs]; exact tA
  have mB:∀d:Int,0<=d->gi (RD F c).IE d=if c=d then J1 (gi F.IE c) else gi F.IE d:=λd d0=>QI _ _ c0 cF d0
  have hlen:(RD F c).IE.length=F.IE.length:=H';refine⟨⟨pa.RD c0 cF,λd d0 d1=>?_⟩,hO.trans (zl7 c0 cF),Bj0,λh0=>?_,Ca6⟩
  ·rw[hlen] at d1
   by_cases e:c=d
   ·subst e;have hc:=p1.c c c0 tA;have e1:gi (RD F c).IE c=J1 (gi V.IE c):=by rw[mB c c0,E' rfl,f.cs]
    have n1:(J1 (gi V.IE c)).cur = -1:=rfl;exact⟨by rw[e1]; exact hc.b,by rw[e1]; exact hc.i,by rw[e1,n1]; exact I3 _,by rw[e1,n1]; decide,λ_=>by rw[e1]; rfl,λh=>by rw[e1,n1] at h; omega,λh=>by rw[e1,n1] at h; omega⟩
   ·have hc:=pc d d0 (by rw[<-f.cs]; exact d1) λh=>Is h.symm e
    have e1:gi (RD F c).IE d=gi F.IE d:=by rw[mB d d0,C' e]
    exact⟨by rw[e1]; exact hc.b,by rw[e1]; exact hc.i,by rw[e1]; exact hc.c1,by rw[e1]; exact hc.c2,by rw[e1]; exact hc.no,by rw[e1]; exact hc.yes,by rw[e1]; exact hc.q⟩
  ·rw[mB c c0,E' rfl] at h0;have h0:(0:Int)<=-1:=h0;omega
 ·rename_i hg;have hg:M7 F c=false:=by simpa using hg
  refine⟨⟨pa,λd d0 d1=>pc d d0 (by rw[<-f.cs]; exact d1) λ_=>hg⟩,hO,Bj0,λh0=>?_,Ca6⟩;unfold M7 at hg;rw[Ii h0,Bool.true_and,I0] at hg;exact⟨by simpa using hg.1,by simpa using hg.2⟩
theorem zmv{W:Q7}(p:Tz W):∀c:Nat,c<=W.IE.length->Tz (XS W c)/\(XS W c).IE.length=W.IE.length/\(XS W c).tasks=W.tasks/\Z6 W.ID (XS W c).ID/\∀d:Int,0<=d->d<(c:Int)->Dn (XS W c) d
 | 0,_=>⟨p,rfl,rfl,Z6.refl _,λd a b=>by omega⟩
 | c+1,hc=>by
  obtain⟨a,e,et,eg,ih⟩:=zmv p c Qo;obtain⟨p1,o,dn⟩:=zwq a (c:=(c:Int)) Qo (by rw[e]; omega);refine⟨p1,o.len.trans e,o.t.trans et,eg.trans o.g,λd d0 d1=>?_⟩
  by_cases h:d=(c:Int)
  ·subst h; exact dn
  ·exact(ih d d0 Qo).oth a o d0 (by rw[e]; omega) h
theorem ztc{K:Int}{W:Q7}(sw:SW K W)(p:Tz W)(hK:0<=K):Tz (Qg W)/\Fr W (Qg W)/\∀d:Int,0<=d->d<(W.IE.length:Int)->Dn (Qg W) d:=by
 obtain⟨a,e⟩:=zcq p W.IE.length (I8 _);obtain⟨s1,_⟩:=Ok (F:=K) (K:=K+Qi) (sw.sf.mono (I3 _) (by simp only[Qi]; omega)) (I3 _) W.IE.length (I8 _);obtain⟨s2,b2⟩:=Tp s1 8 (I8 _);have p2:=a.BI1 b2 s2.w.a;have e2:(Ye (Yi W W.IE.length) 8).IE.length=W.IE.length:=by rw[b2.c,e]
 obtain⟨p3,e3,_,_,dn⟩:=zmv p2 W.IE.length (by rw[e2]; exact I8 _);exact⟨p3,(Ov sw hK).2,dn⟩
theorem z1p{K:Int}{W:Q7}(sw:SW K W)(hK:K<=100000000000000000)(p:Tz W)(hl:zaa W)(dn:∀d:Int,0<=d->d<(W.IE.length:Int)->Dn W d):J7 W/\z2z W:=by
 have tm:∀k c:Int,Q6 W.ID k=true->0<=c->c<(W.IE.length:Int)->ZM (Qc W k c).floor=true/\ZM (Qc W k c).v=true:=λk c hu c0 c1=>by
  have:=sw.s k c hu c0 c1;exact⟨Yq.2 Qo,Yq.2 Qo⟩
 have tv:∀t:Int,0<=t->t<12->ZM (Q8 W t).v=true:=λt t0 t1=>by
  have:=sw.tv t t0 t1;exact Yq.2 Qo
 refine⟨⟨p.a,λt t0 t1=>?_,λk c k0 k1 c0 c1=>?_,λc c0 c1=>?_⟩,λk c hu c0 c1 hB=>(dn c c0 c1).fl k hu hB⟩
 ·rcases p.t t t0 t1 with hz | ⟨n,hx⟩
  ·exact .inl hz
  ·obtain⟨d0,d1⟩:=p.l t t0 t1 n;exact .inr ⟨n,hx.st,hx.g,hx.n,hx.m,hx.m0,tv t t0 t1,hx.s,hx.u,hx.l1,hx.l2,hl t t0 t1 n,λh1=>(FSx (tv t t0 t1) (tm _ _ hx.g d0 d1).1).2 (hx.f h1)⟩
 ·have cJ:=p.a.gl
  have hu:Q6 W.ID k=true:=by
   cases hb:(gi W.ID k).used with
   | true=>exact Q5.2 ⟨k0,Qo,hb⟩
   | false=>
    have:=((p.a.grp k k0 k1).1 hb).l;omega
  have hsl:=p.a.sl hu;have c1:c<(W.IE.length:Int):=Qo;have hs:=p.s k c hu c0 c1;have ht:=tm k c hu c0 c1;have hw:=sw.s k c hu c0 c1;exact⟨ht.1,ht.2,hs.s,hw.2.2.2.2.1,hw.2.2.2.2.2,hs.root,λhz=>(dn c c0 c1).on k hu hz,λhz ho=>(FSx ht.2 (tm _ c (p.a.up hu hz) c0 c1).1).2 (hs.st hz ho)⟩
 ·have hc:=p.c c c0 c1;have kG:=p.a.t;refine⟨hc.b,hc.i,hc.c1,by have:=hc.c2; omega,hc.no,λh0=>?_⟩;obtain⟨y1,y2,y3⟩:=hc.yes h0;obtain⟨z1,z2⟩:=(dn c c0 c1).cu h0
  have hs:(Q8 W (gi W.IE c).cur).state=1:=by
   unfold ZF at z2;rw[A'] at z2;exact Iz z2.1
  obtain⟨q1,q2⟩:=hc.q h0 hs z1;refine⟨y1,y2,y3,z1,z2,?_⟩;unfold Mo TW;rw[A',List.all_eq_true];exact⟨Ii q1,λx hx=>Ii (q2 x hx).2⟩
theorem YU{α β:Type}[Inhabited α]{f:α->β}(l:List α)(k:Int){x:α}(h:f x=f (gi l k))(i:Int):f (gi (l.set k.toNat x) i)=f (gi l i):=by
 unfold gi at *;simp only[List.getD_eq_getElem?_getD,List.getElem?_set] at *
 by_cases e:k.toNat=i.toNat
 ·rw[E' e];split
  ·rw[<-e]; simpa using h
  ·rename_i hl;have:l[i.toNat]? = none:=List.getElem?_eq_none_iff.2 Qo;rw[this]
 ·rw[C' e]
structure TC (W W':Q7):Prop where
 g:Z6 W.ID W'.ID
 m:∀i:Int,(gi W'.ID i).IE=(gi W.ID i).IE
 w:∀i:Int,(gi W'.ID i).weight=(gi W.ID i).weight
 len:W'.IE.length=W.IE.length
 u:∀i:Int,(gi W'.IE i).up=(gi W.IE i).up
theorem TC.refl(W:Q7):TC W W:=⟨Z6.refl _,λ_=>rfl,λ_=>rfl,rfl,λ_=>rfl⟩
theorem TC.trans{A B C:Q7}(h:TC A B)(k:TC B C):TC A C:=⟨h.g.trans k.g,λi=>(k.m i).trans (h.m i),λi=>(k.w i).trans (h.w i),k.len.trans h.len,λi=>(k.u i).trans (h.u i)⟩
theorem zo5{W:Q7}{g:Int}{x:ZN}(u:x.used=(gi W.ID g).used)(p:x.parent=(gi W.ID g).parent)(n:x.name=(gi W.ID g).name)(m:x.IE=(gi W.ID g).IE)(w:x.weight=(gi W.ID g).weight):TC W (Re W g x):=
 ⟨⟨H',λi=>YU (f:=ZN.used) _ _ u i,λi=>YU (f:=ZN.parent) _ _ p i,λi=>YU (f:=ZN.name) _ _ n i⟩,λi=>YU (f:=ZN.IE) _ _ m i,λi=>YU (f:=ZN.weight) _ _ w i,rfl,λ_=>rfl⟩
theorem zdw(W:Q7)(g c:Int)(s:KL):TC W (Rz W g c s):=zo5 rfl rfl rfl rfl rfl
theorem zo4(W:Q7)(g:Int)(b:Js):TC W (RP W g b):=zo5 rfl rfl rfl rfl rfl
theorem zo7(W:Q7)(t:Int)(x:MC):TC W (IU W t x):=⟨Z6.refl _,λ_=>rfl,λ_=>rfl,rfl,λ_=>rfl⟩
theorem zkg{W:Q7}{c:Int}{x:Px}(u:x.up=(gi W.IE c).up):TC W (RX W c x):=⟨Z6.refl _,λ_=>rfl,λ_=>rfl,H',λi=>YU (f:=Px.up) _ _ u i⟩
theorem Hq(W:Q7)(c:Int):TC W (RD W c):=zkg rfl
theorem ND(W:Q7)(c d:Int):∀k:Nat,TC W (Zn W c d k)
 | 0=>TC.refl _
 | k+1=>by
  simp only[Zn];split
  ·exact(ND W c d k).trans (zdw _ _ _ _)
  ·exact ND W c d k
theorem Ea(W:Q7)(c:Int):∀j:Nat,TC W (YV W c j)
 | 0=>TC.refl _
 | j+1=>(Ea W c j).trans (ND _ _ _ _)
theorem zdv(W:Q7):∀c:Nat,TC W (Yi W c)
 | 0=>TC.refl _
 | c+1=>(zdv W c).trans (Ea (Yi W c) (c:Int) 3)
theorem NA(W:Q7)(k:Int):∀c:Nat,TC W (ZR W k c)
 | 0=>TC.refl _
 | c+1=>by
  simp only[ZR];split
  ·exact(NA W k c).trans (zo4 _ _ _)
  ·exact NA W k c
theorem NC(W:Q7):∀k:Nat,TC W (Ye W k)
 | 0=>TC.refl _
 | k+1=>by
  simp only[Ye];split
  ·exact(NC W k).trans (NA _ _ _)
  ·exact NC W k
theorem E9(W:Q7)(c:Int):∀k:Nat,TC W (QS W c k)
 | 0=>TC.refl _
 | k+1=>by
  simp only[QS];split
  ·exact(E9 W c k).trans (zdw _ _ _ _)
  ·exact E9 W c k
theorem ztf(W:Q7)(c:Int):TC W (Vb W c):=by
 have h:=(Ea W c 3).trans (E9 (QG W c) c 8);unfold Vb;split
 ·exact h.trans (Hq _ _)
 ·exact h
theorem zh4(W:Q7):∀c:Nat,TC W (XS W c)
 | 0=>TC.refl _
 | c+1=>(zh4 W c).trans (ztf (XS W c) (c:Int))
theorem zo6(W:Q7):TC W (Qg W):=((zdv W W.IE.length).trans (NC (Yi W W.IE.length) 8)).trans (zh4 (Lg (Yi W W.IE.length)) W.IE.length)
theorem TC.wT{W W':Q7}(h:TC W W'):J4 W'.IE=J4 W.IE:=zkl h.len λj _=>h.u j
theorem TC.pin{W W':Q7}(h:TC W W')(g u:Int):VX W'.ID g u=VX W.ID g u:=by
 unfold VX;rw[show Zb W'.ID g=Zb W.ID g from h.g.path 3 g]
 congr 1
 funext s x
 rw[h.m]
theorem TC.wh{W W':Q7}(h:TC W W')(g m:Int):Qw W' g m=Qw W g m:=by
 unfold Qw;rw[h.wT,h.pin]
theorem TC.loc{W W':Q7}(h:TC W W')(ht:W'.tasks=W.tasks)(hl:zaa W):zaa W':=λt t0 t1 n=>by
 rw[Jp ht] at n ⊢;rw[h.wh];exact hl t t0 t1 n
theorem zdt{K:Int}{W:Q7}(sw:SW K W)(hK:0<=K)(gV:K+UZ<=100000000000000000)(p:Tz W)(hl:zaa W):J7 (Qg W)/\z2z (Qg W):=by
 obtain⟨p1,hf,dn⟩:=ztc sw p hK;exact z1p (Ov sw hK).1 gV p1 ((zo6 W).loc hf.t hl) λd d0 d1=>dn d d0 (by rw[<-hf.c]; exact d1)
theorem zne.Bu5{W W':Q7}{k c:Int}(h:zne W k c)(e:Qc W' k c=Qc W k c)(ep:k≠0->(Qc W' (gi W'.ID k).parent c).floor=(Qc W (gi W.ID k).parent c).floor):zne W' k c:=
 ⟨by rw[e]; exact h.s,by rw[e]; exact h.root,λhz ho=>by
  rw[e] at ho;have:=h.st hz ho;unfold VN at this ⊢;rw[e,ep hz]; exact this⟩
theorem Tz.IU{W:Q7}(p:Tz W){t:Int}(t0:0<=t)(t1:t<12){x:MC}(hx:x.state=0/\x=TX\/x.state≠0/\Ek W x/\0<=x.M'/\x.M'<(W.IE.length:Int))(hc:∀c:Int,0<=c->c<(W.IE.length:Int)->(gi W.IE c).cur=t->x.state=1->x.M'=c->x.v-(Qc W x.group c).floor<=Zf (gi W.IE c).aA (Qf x.nice)/\∀y∈Zb W.ID x.group,VN W y c/\(Qc W y c).v-(Qc W (gi W.ID y).parent c).floor<=Zf (gi W.IE c).aA (Qc W y c).w):Tz (IU W t x):=by
 have hl:=p.a.t;have e:∀i:Int,0<=i->Q8 (YtnclplgaicdapaaGreatDoor.IU W t x) i=if t=i then x else Q8 W i:=λi i0=>QI _ _ t0 Qo i0
 refine⟨⟨p.a.tk H',λi a b=>?_,λi a b n=>?_,λk c hu c0 c1=>?_⟩,λc c0 c1=>?_⟩
 ·rw[e i a];split
  ·rcases hx with h | ⟨h1,h2,_⟩
   ·exact .inl h
   ·exact .inr ⟨h1,h2.st,h2.g,h2.n,h2.m,h2.m0,h2.s,h2.u,h2.l1,h2.l2,h2.f⟩
  ·rcases p.t i a b with h | ⟨h1,h2⟩
   ·exact .inl h
   ·exact .inr ⟨h1,h2.st,h2.g,h2.n,h2.m,h2.m0,h2.s,h2.u,h2.l1,h2.l2,h2.f⟩
 ·rw[e i a] at n ⊢;split
  ·rename_i h;rw[E' h] at n;rcases hx with h | ⟨_,_,h2⟩
   ·exact Is h.1 n
   ·exact h2
  ·rename_i h;rw[C' h] at n;exact p.l i a b n
 ·exact(p.s k c hu c0 c1).Bu5 rfl λ_=>rfl
 ·have h:=p.c c c0 c1;refine⟨h.b,h.i,h.c1,h.c2,h.no,h.yes,λh0=>?_⟩;rw[e _ h0];split
  ·rename_i he;exact λh1 h2=>hc c c0 c1 he.symm h1 h2
  ·exact h.q h0
def DJ(p:Nat->Bool):Nat->Int
 | 0 => -1
 | k+1=>if (decide (DJ p k<0)&&p k)=true then (k:Int) else DJ p k
theorem Kn(p:Nat->Bool):∀k:Nat,(DJ p k = -1/\∀j,j<k->p j=false)\/(0<=DJ p k/\DJ p k<(k:Int)/\p (DJ p k).toNat=true/\∀j:Nat,(j:Int)<DJ p k->p j=false)
 | 0=>.inl ⟨rfl,λj hj=>Is hj (Nat.not_lt_zero j)⟩
 | k+1=>by
  simp only[DJ];rcases Kn p k with ⟨h1,h2⟩ | ⟨h1,h2,h3,h4⟩
  ·cases hp:p k with
   | true=>
    rw[h1,E' (by rfl)];exact .inr ⟨Qo,Qo,by simpa using hp,λj hj=>h2 j Qo⟩
   | false=>
    rw[C' Qs,h1];refine .inl ⟨rfl,λj hj=>?_⟩
    by_cases e:j=k
    ·rw[e]; exact hp
    ·exact h2 j Qo
  ·rw[C' (by rw[decide_eq_false (by omega:¬DJ p k<0)]; simp)];exact .inr ⟨h1,Qo,h3,h4⟩
theorem zqa{p:Nat->Bool}{n:Nat}(h:∀j,j<n->p j=false):DJ p n = -1:=by
 rcases Kn p n with ⟨h1,_⟩ | ⟨h1,h2,h3,_⟩
 ·exact h1
 ·rw[h _ Qo] at h3; cases h3
theorem zp9{p:Nat->Bool}{n:Nat}{a:Int}(a0:0<=a)(a1:a<(n:Int))(hp:p a.toNat=true)(hn:∀j:Nat,(j:Int)<a->p j=false):DJ p n=a:=by
 rcases Kn p n with ⟨_,h2⟩ | ⟨h1,h2,h3,h4⟩
 ·rw[h2 _ Qo] at hp; cases hp
 ·by_cases l:DJ p n<a
  ·rw[hn _ Qo] at h3; cases h3
  ·by_cases g:a<DJ p n
   ·rw[h4 _ Qo] at hp; cases hp
   ·omega
def M9(W:Q7)(j:Nat):Bool:=(Q8 W (j:Int)).state==0
def Tm(W:Q7):Int:=DJ (M9 W) 12
noncomputable def P1(W:Q7)(g n x:Int):Int:=if Qf n=0\/PE x=false\/x=0 then 1 else if Q6 W.ID g=false then 2 else if Tm W<0 then 3 else if QO W=false then 10 else 0
def Lf(W:Q7)(g x:Int):Int:=Mx W (Qw W g x)
def Gk(W:Q7)(g n x:Int):MC:=⟨1,g,Lf W g x,n,x,(Qc W g (Lf W g x)).floor,0,0,0⟩
def zlh(W:Q7)(g n x:Int):Q7:=Qg (RD (IU W (Tm W) (Gk W g n x)) (Lf W g x))
noncomputable def T1(W:Q7)(bar:Int)(W':Q7)(a:Int):Q7×Int×Int:=if Qy W=false then (KK,-1,1) else if bar≠0 then (W,-1,bar) else (W',a,0)
def OG(r:Q7×Int×Int)(w:Wo)(v:Va)(w':Wo):Prop:=∃n m',v=.tuple #[.agg (Qa r.1 m').toArray,.int .i64 r.2.1,.int .i64 r.2.2]/\Zj n w.heap.size w' r.1 m'/\Q0 [] w w'
structure z12 (W:Q7) (g n x:Int):Prop where
 w:Qf n≠0
 m:PE x=true
 m0:x≠0
 u:Q6 W.ID g=true
 f0:0<=Tm W
 f1:Tm W<12
 f2:(Q8 W (Tm W)).state=0
 r:QO W=true
 sw:SW Qn W
 c0:0<=Lf W g x
 c1:Lf W g x<(W.IE.length:Int)
 ch:Z0 (Qw W g x) (Lf W g x)=true
 sw2:SW Qn (IU W (Tm W) (Gk W g n x))
theorem zp7{W:Q7}{g n x:Int}(hW:Qy W=true)(hb:P1 W g n x=0):z12 W g n x:=by
 have wp:=Qj.1 hW;unfold P1 at hb
 split at hb
 ·cases hb
 ·rename_i h1
  split at hb
  ·cases hb
  ·rename_i h2
   split at hb
   ·cases hb
   ·rename_i h3
    split at hb
    ·cases hb
    ·rename_i h4;have h4:QO W=true:=by simpa using h4
     have h2:Q6 W.ID g=true:=by simpa using h2
     have sw:=Mq wp (Qj.1 h4)
     have hf:0<=Tm W/\Tm W<12/\M9 W (Tm W).toNat=true:=by
      rcases Kn (M9 W) 12 with ⟨a,_⟩ | ⟨a,b,c,_⟩
      ·unfold Tm at h3; omega
      ·exact⟨a,b,c⟩
     obtain⟨c0,c1,ch⟩:=Hn wp.a g x;have hs:=sw.s g _ h2 c0 c1;have e:(((Tm W).toNat:Nat):Int)=Tm W:=Qo;refine⟨λh=>h1 (.inl h),?_,λh=>h1 (.inr (.inr h)),h2,hf.1,hf.2.1,?_,h4,sw,c0,c1,ch,sw.IU hf.1 hf.2.1 (x:=Gk W g n x) (λ_=>⟨h2,c0,c1⟩) hs.1 hs.2.1⟩
     ·cases hm:PE x with
      | true=>rfl
      | false=>exact Is (.inr (.inl hm)) h1
     ·have:=hf.2.2;unfold M9 at this;rw[e] at this;exact Iz this
section
variable {W W':Q7}{m:MW}{w:Wo}{bar a:Int}
theorem OG.bad{w':Wo}(hW:Qy W=false)(hx:Q0 [] w w'):OG (T1 W bar W' a) w (.tuple #[.agg (Qa KK zw8).toArray,.int .i64 (-1),.int .i64 1]) w':=by
 rw[show T1 W bar W' a=(KK,-1,1) from E' hW];exact⟨0,zw8,rfl,Zj.zero _ _,hx⟩
theorem OG.no{n:Nat}{bs:List Nat}{w':Wo}{m':MW}(hW:Qy W=true)(hb:bar≠0)(hk:Wk n bs w w' W m'){c:Int}(hc:bar=c):OG (T1 W bar W' a) w (.tuple #[.agg (Qa W m').toArray,.int .i64 (-1),.int .i64 c]) w':=by
 rw[show T1 W bar W' a=(W,-1,c) by unfold T1; rw[C' (by rw[hW]; decide),E' hb,hc]];exact⟨n,m',rfl,hk.fin⟩
theorem OG.ok{n:Nat}{bs:List Nat}{w':Wo}{m':MW}(hW:Qy W=true)(hb:bar=0)(hk:Wk n bs w w' W' m'):OG (T1 W bar W' a) w (.tuple #[.agg (Qa W' m').toArray,.int .i64 a,.int .i64 0]) w':=by
 rw[show T1 W bar W' a=(W',a,0) by unfold T1; rw[C' (by rw[hW]; decide),C' (by simpa using hb)]];exact⟨n,m',rfl,hk.fin⟩
theorem Ll{g n x:Int}(h:Xl [] w W m)(hl:Xz W) :
  Cz Xh #[.agg (Qa W m).toArray,.int .i64 g,.int .i64 n,.int .i64 x] w λe w'=>∃v,e=.returned v/\OG (T1 W (P1 W g n x) (zlh W g n x) (Tm W)) w v w':=by
 refine AQ W.now m.cO W.IE.length m.cC m.tO W.tasks.length m.tC m.gO W.ID.length m.gC g n x (R:=λv w'=>OG (T1 W (P1 W g n x) (zlh W g n x) (Tm W)) w v w') ?_;intro y hy y1 cX wr R3 Wc;refine I4 (Zh (h.ext R3) hl) ?_;rintro e wv (⟨hW,he,SJ⟩ | ⟨hW,m',he,hM,SJ⟩)
 ·exact⟨_,_,_,_,_,_,_,_,_,_,_,he,Qe SJ Wc,λ_ J' Ra=>OG.bad hW ((R3.trans SJ).fresh Ra λz hm=>.inl (Yw hy cX z hm)),λg=>by simp at g⟩
 have hK:=Wk.begin hy cX R3 Wc hM SJ;have hr:=hK.rd;have wp:=Qj.1 hW;have kG:=wp.a.t;refine⟨_,_,_,_,_,_,_,_,_,_,_,he,Qe SJ Wc,λg=>by split at g <;> simp at g,λ_=>⟨_,ZP,_,λ_=>Xe,λg1 O' Ra=>?_,λg1=>⟨_,Xf hr.g,λg2 Ru Ra=>?_,λg2=>⟨⟨Qo,Qo⟩,?_⟩⟩⟩⟩
 ·have hb:P1 W g n x=1:=by
   unfold P1;rw[E'];simp only[Iv,It,IC] at g1;rcases g1 with (g1 | g1) | g1
   ·exact .inl g1
   ·exact .inr (.inl g1)
   ·exact .inr (.inr g1)
  exact OG.no hW (by rw[hb]; decide) (hK.step Ra) hb
 ·have n1:¬(Qf n=0\/PE x=false\/x=0):=by
   simp only[I0,beq_eq_false_iff_ne,I7,ne_eq] at g1;rintro (h | h | h)
   ·exact g1.1.1 h
   ·rw[g1.1.2] at h; cases h
   ·exact g1.2 h
  have hb:P1 W g n x=2:=by unfold P1; rw[C' n1,E' (by simpa using g2)]
  exact OG.no hW (by rw[hb]; decide) (hK.step Ra) hb
 have n1:¬(Qf n=0\/PE x=false\/x=0):=by
  simp only[I0,beq_eq_false_iff_ne,I7,ne_eq] at g1;rintro (h | h | h)
  ·exact g1.1.1 h
  ·rw[g1.1.2] at h; cases h
  ·exact g1.2 h
 have hu:Q6 W.ID g=true:=by simpa using g2
 have n2:¬Q6 W.ID g=false:=by rw[hu]; decide
 refine⟨λvs w1=>∃a t:Int,vs=[.int .i64 a,.int .i64 t]/\-1<=t/\t<12/\(a = -1/\(∀j:Nat,t<(j:Int)->j<12->M9 W j=false)\/t<a/\a<12/\M9 W a.toNat=true/\∀j:Nat,t<(j:Int)->(j:Int)<a->M9 W j=false)/\Q0 [y,y1] wv w1,
  λvs _=>(ZW 1 vs+1).toNat,λw1 tF _=>⟨-1,_,rfl,Qo,Qo,.inl ⟨rfl,λj h1 h2=>by omega⟩,tF⟩,?_⟩
 rintro av tv R4 fX ⟨a,t,aE,ht0,ht1,AS2,hxw⟩;simp only[I5,I6,true_and,and_true] at aE;obtain⟨rfl,rfl⟩:=aE;have hK1:=hK.step hxw;have wC:=hK1.rd;refine⟨λIT=>?_,λRN=>?_⟩
 ·have IT:=Ot IT;have e:((tv.toNat:Nat):Int)=tv:=Qo;have nG:M9 W tv.toNat=((Q8 W tv).state==0):=by unfold M9; rw[e]
  refine⟨wC.t.ix QM IT Qo,_,wC.t.f IT Qo (j:=0) rfl,λg3=>⟨⟨Qo,Qo⟩,λRQ Sw _=>⟨⟨tv,tv-1,rfl,Qo,Qo,.inr ⟨Qo,ht1,by rw[nG]; exact g3,λj h1 h2=>by omega⟩,hxw.trans Sw⟩,?_⟩⟩,λg3=>⟨⟨Qo,Qo⟩,λSh bJ _=>⟨⟨av,tv-1,rfl,Qo,Qo,?_,hxw.trans bJ⟩,?_⟩⟩⟩
  ·simp only[ZW,Ig,List.getElem?_cons_succ]; omega
  ·have g3:M9 W tv.toNat=false:=by rw[nG]; exact g3
   have one:∀j:Nat,tv-1<(j:Int)->¬tv<(j:Int)->M9 W j=false:=λj h1 h2=>by
    have:j=tv.toNat:=Qo;rw[this]; exact g3
   rcases AS2 with ⟨h1,h2⟩ | ⟨h1,h2,h3,h4⟩
   ·exact .inl ⟨h1,λj j1 j2=>if h:tv<(j:Int) then h2 j h j2 else one j j1 h⟩
   ·exact .inr ⟨Qo,h2,h3,λj j1 j2=>if h:tv<(j:Int) then h4 j h j2 else one j j1 h⟩
  ·simp only[ZW,Ig,List.getElem?_cons_succ]; omega
 ·have RN:=Ou RN;have ht:tv = -1:=Qo;subst ht
  have tQ:av=Tm W:=by
   rcases AS2 with ⟨h1,h2⟩ | ⟨h1,h2,h3,h4⟩
   ·rw[h1]; exact(zqa λj hj=>h2 j Qo hj).symm
   ·exact(zp9 Qo h2 h3 λj hj=>h4 j Qo hj).symm
  subst tQ;refine⟨λg4 Sz nN=>?_,λg4=>⟨λg5 W8 tG=>?_,λg5=>?_⟩⟩
  ·have g4:=Ot g4;have hb:P1 W g n x=3:=by unfold P1; rw[C' n1,C' n2,E' g4]
   exact OG.no hW (by rw[hb]; decide) (hK1.step nN) hb
  ·have g4:=Ou g4;have bU:¬QO W=true:=λhr=>by rw[E' hr] at g5; simp at g5
   have hb:P1 W g n x=10:=by unfold P1; rw[C' n1,C' n2,C' g4,E' (by simpa using bU)]
   rw[C' bU];exact OG.no hW (by rw[hb]; decide) (hK1.step tG) hb
  have g4:=Ou g4;have bU:QO W=true:=Ir λhr=>by rw[C' hr] at g5; simp at g5
  have hb:P1 W g n x=0:=by unfold P1; rw[C' n1,C' n2,C' g4,C' (by rw[bU]; decide)]
  have hf:=zp7 hW hb;obtain⟨u0,u1,_⟩:=Q5.1 hu;have hsl:=wp.a.sl hu;have c0:=hf.c0;have c1:=hf.c1;have f0:=hf.f0;have f1:=hf.f1;have SY:Wk 8 [y,y1] w (R8 R4 m'.tO (Int.toNat (Tm W)*9) (Xa (Gk W g n x))) (IU W (Tm W) (Gk W g n x)) m':=hK1.R8 (hK1.own.vV f0 (by rw[kG]; exact f1) (j:=0) (vs:=Xa (Gk W g n x)) (x:=Gk W g n x) (by simp[Xa]) (by simp[Xa])) L8;refine⟨_,Jk wC wp.a.c2 wp.a.tree hu,_,Lm wC wp.a (zvf wp),wC.g.ix u0 u1,_,_,_,wC.g.RE u0 u1,(wC.g.IF g u0 u1).ix ZZ c0 (by rw[hsl]; exact c1),(Qc W g (Lf W g x)).floor,zna.f (wC.g.IF g u0 u1) c0 (by rw[hsl]; exact c1) (j:=0) rfl,wC.t.ix QM f0 (by rw[kG]; exact f1),zgv hK1.own hK1.nb f0 (by rw[kG]; exact f1) (j:=0) (k:=9) Qd,λWQ mF hs9=>?_⟩;have e5:Qa (IU W (Tm W) (Gk W g n x)) m'=Qa W m':=ME _ _ _ _;have eQ:=SY.step mF;have aS:=ZA eQ.own c0 (show Lf W g x<((IU W (Tm W) (Gk W g n x)).IE.length:Int) from c1);rw[e5] at aS;refine I4 aS ?_;rintro e2 Rr ⟨aE,lB⟩;refine⟨_,_,_,_,_,_,_,_,_,_,aE,eQ.kept lB hs9,λS9 AD0 oP=>?_⟩;have hK7:=(eQ.SA lB hs9).step AD0;have tP:=Qv hK7.own (hf.sw2.RD c0 c1) Qd Qd hK7.base;refine I4 tP ?_;rintro e3 S5 ⟨m2,iP,hy5⟩;exact⟨_,_,_,_,_,_,_,_,_,_,iP,hK7.kept hy5 oP,λW8 tG=>OG.ok hW hb ((hK7.SA hy5 oP).step tG)⟩
end
section
variable {base pb:Nat}{W W':Q7}{m:MW}{w:Wo}
end
structure JH (W:Q7):Prop where
 wp:J7 W
 fl:z2z W
theorem Zz{K:Int}{W:Q7}(sw:SW K W)(hK:0<=K)(gV:K+UZ<=100000000000000000)(p:Tz W)(hl:zaa W):JH (Qg W):=by
 obtain⟨a,b⟩:=zdt sw hK gV p hl;exact⟨a,b⟩
theorem zaa.RD{W:Q7}(h:zaa W)(c:Int):zaa (RD W c):=(Hq W c).loc rfl h
theorem zaa.IU{W:Q7}(h:zaa W)(ha:WA W){t:Int}(t0:0<=t)(t1:t<12){x:MC}(hx:x.state≠0->Z0 (Qw W x.group x.mask) x.M'=true):zaa (IU W t x):=λi i0 i1 n=>by
 have hl:=ha.t;have e:Q8 (YtnclplgaicdapaaGreatDoor.IU W t x) i=if t=i then x else Q8 W i:=QI _ _ t0 Qo i0;rw[e] at n ⊢;rw[(zo7 W t x).wh]
 split at n
 ·rename_i he;rw[E' he]; exact hx n
 ·rename_i he;rw[C' he]; exact h i i0 i1 n
theorem zxu(W:Q7)(t c:Int)(x:MC):RD (IU W t x) c=IU (RD W c) t x:=rfl
theorem OC{W:Q7}(p:Tz W){t:Int}(t0:0<=t)(t1:t<12)(n:(Q8 W t).state≠0):Ek W (Q8 W t):=by
 rcases p.t t t0 t1 with h | h
 ·exact Is h.1 n
 ·exact h.2
theorem zsd{W:Q7}{t:Int}(hW:Qy W=true)(hb:T2 W t=0):JH (ziz W t):=by
 have wp:=Qj.1 hW;obtain⟨h1,h2,sw,sw2⟩:=zkw hW hb;obtain⟨t0,t1,n⟩:=X0 h1;have hl:=wp.a.t;have p:=Xq wp;have h:=OC p t0 Qo n;have oN:=UW wp;refine Zz sw2 Qd Qd (p.IU t0 Qo (.inr ⟨by show (2:Int)≠0; decide,⟨.inr rfl,h.g,h.n,h.m,h.m0,h.s,h.u,h.l1,h.l2,λh=>by cases h⟩,p.l t t0 Qo n⟩) λc c0 c1 _ hs _=>by cases hs) (oN.IU wp.a t0 Qo λ_=>oN t t0 Qo n)
theorem zu3{W:Q7}{t:Int}(hW:Qy W=true)(hb:OZ W t=0):JH (NT W t):=by
 have wp:=Qj.1 hW;obtain⟨h1,_,sw,_,sw2⟩:=zjf hW hb;obtain⟨t0,t1,n⟩:=X0 h1;have hl:=wp.a.t;have p:=Xq wp;obtain⟨c0,c1⟩:=p.l t t0 Qo n
 have key:Tz (Z4 W t)/\zaa (Z4 W t):=by
  unfold Z4;split
  ·exact⟨p.RD c0 c1,(UW wp).RD _⟩
  ·exact⟨p,UW wp⟩
 exact Zz sw2 Qd Qd (key.1.IU t0 Qo (.inl ⟨rfl,rfl⟩) λc c0 c1 _ hs _=>by cases hs) (key.2.IU key.1.a t0 Qo λh=>Is rfl h)
theorem y7{W:Q7}(p:Tz W){t c:Int}(t0:0<=t)(t1:t<12){x:MC}(n:x.state≠0)(hx:Ek W x)(hc:x.M'=c)(c0:0<=c)(c1:c<(W.IE.length:Int)):Tz (RD (IU W t x) c):=by
 rw[zxu];have hl:(RD W c).IE.length=W.IE.length:=H';refine(p.RD c0 c1).IU t0 t1 (.inr ⟨n,⟨hx.st,hx.g,hx.n,hx.m,hx.m0,hx.s,hx.u,hx.l1,hx.l2,hx.f⟩,by rw[hl,hc]; exact⟨c0,c1⟩⟩) λd d0 d1 rI _ hd=>?_
 rw[hc] at hd;subst hd;have e1:gi (RD W c).IE c=J1 (gi W.IE c):=(QI _ _ c0 c1 c0).trans (E' rfl);rw[e1] at rI;have rI:(-1:Int)=t:=rI;omega
theorem z04(f v w:Int):f<=f+Yh (v-f) w/\f+Yh (v-f) w-f<=ZB w:=by
 have:=ZU (v-f) w;omega
theorem zu5{W:Q7}{t n:Int}(hW:Qy W=true)(hb:Pw W t n=0):JH (GI W t n):=by
 have wp:=Qj.1 hW;have hq:=zqs hW hb;obtain⟨t0,t1,tn⟩:=X0 hq.th;have hl:=wp.a.t;have p:=Xq wp;have hw:Qf n≠0:=λh=>by unfold Pw at hb; rw[E' h] at hb; cases hb
 have h:=OC p t0 Qo tn;obtain⟨c0,c1⟩:=p.l t t0 Qo tn;have oN:=UW wp;have hL:zaa (IU W t (Jm W t n)):=oN.IU wp.a t0 Qo λ_=>oN t t0 Qo tn
 have hT:Ek W (Jm W t n):=⟨h.st,h.g,hw,h.m,h.m0,h.s,h.u,h.l1,h.l2,λhs=>by
  have hs:(Q8 W t).state=1:=hs;rw[zqr hs];exact z04 _ _ _⟩
 have hK:K1+UZ<=100000000000000000:=by simp only[K1,Qi,UZ]; decide
 have hK0:0<=K1:=by simp only[K1,Qi]; decide
 unfold GI;split
 ·rename_i hs
  have hlv:Z4 (IU W t (Jm W t n)) t=if (gi W.IE (Q8 W t).M').cur=t then RD (IU W t (Jm W t n)) (Q8 W t).M' else IU W t (Jm W t n):=by
   unfold Z4;rw[L9 t0 t1]; rfl
  have s2:=hq.s2;rw[hlv] at s2 ⊢;split
  ·rename_i rI;rw[E' rI] at s2;exact Zz s2 hK0 hK (y7 p t0 Qo tn hT rfl c0 c1) (hL.RD _)
  ·rename_i rI;rw[C' rI] at s2;refine Zz s2 hK0 hK (p.IU t0 Qo (.inr ⟨tn,hT,c0,c1⟩) λd d0 d1 hd _ hx=>?_) hL;have hx:(Q8 W t).M'=d:=hx;rw[hx] at rI;exact Is hd rI
 ·rename_i hs;exact Zz hq.s1 hK0 hK (p.IU t0 Qo (.inr ⟨tn,hT,c0,c1⟩) λd d0 d1 hd hx _=>Is hx hs) hL
theorem zu7{W:Q7}{t:Int}(hW:Qy W=true)(hb:MR W t=0):JH (A3 W t):=by
 have wp:=Qj.1 hW;obtain⟨h1,h2,_,sf,c0,c1⟩:=zrk hW hb;obtain⟨t0,t1,tn⟩:=X0 h1;have hl:=wp.a.t;have p:=Xq wp;have h:=OC p t0 Qo tn;have oN:=UW wp
 have hT:Ek W (Tx W t (Mt W t)):=⟨.inl rfl,h.g,h.n,h.m,h.m0,h.s,h.u,h.l1,h.l2,λ_=>by
  have:=ZU ((Q8 W t).v-(Qc W (Q8 W t).group (Q8 W t).M').floor) (Qf (Q8 W t).nice);show (Qc W (Q8 W t).group (Mt W t)).floor<=(Qc W (Q8 W t).group (Mt W t)).floor+HO W t/\(Qc W (Q8 W t).group (Mt W t)).floor+HO W t-(Qc W (Q8 W t).group (Mt W t)).floor<=ZB (Qf (Q8 W t).nice);unfold HO;exact⟨Qo,Qo⟩⟩
 have hwh:Z0 (Qw W (Q8 W t).group (Q8 W t).mask) (Mt W t)=true:=by
  unfold Mt;split
  ·exact(Hn wp.a _ _).2.2
  ·exact oN t t0 Qo tn
 exact Zz ((zkn sf t0 t1 tn c0 c1).RD c0 c1).w (by simp only[Qi]; decide) (by simp only[Qi,UZ]; decide) (y7 p t0 Qo (show (1:Int)≠0 by decide) hT rfl c0 c1) ((oN.IU wp.a t0 Qo (x:=Tx W t (Mt W t)) λ_=>hwh).RD _)
def EM(l u:Int):Int:=if YJ l 0 8000000=true/\YJ u 0 1000000=true then l-Int.tdiv l 8+u else 0
def ze9(x:MC):MC:={ x with used:=0,load:=ZC (EM x.load (ZC x.used 1000000)) 8000000 }
def Pa(W:Q7):Nat->Q7
 | 0=>W
 | t+1=>IU (Pa W t) (t:Int) (ze9 (Q8 (Pa W t) (t:Int)))
def GH(next p now:Int):Nat->Int
 | 0=>next
 | i+1=>if GH next p now i<=now+((i:Int)+1) then GH next p now i+p else GH next p now i
structure ztu (next p now v:Int):Prop where
 gt:now<v
 pK:∃j:Nat,v=next+p*(j:Int)/\(j=0\/v-p<=now)
theorem DV{next p now:Int}(hp:1<=p)(hn:now<next):∀i:Nat,ztu next p (now+(i:Int)) (GH next p now i)
 | 0=>⟨by simp only[GH]; omega,0,by simp only[GH]; omega,.inl rfl⟩
 | i+1=>by
  obtain⟨h1,j,h2,h3⟩:=DV hp hn i;simp only[GH]
  push_cast
  split
  ·refine⟨Qo,j+1,?_,.inr Qo⟩;rw[h2]; push_cast; rw[Int.mul_add,Int.mul_one,Int.add_assoc]
  ·exact⟨Qo,j,h2,h3.imp id λh=>by omega⟩
theorem zyc{next p now v v':Int}(hp:1<=p)(h:ztu next p now v)(h':ztu next p now v'):v=v':=by
 obtain⟨h1,j,h2,h3⟩:=h;obtain⟨k1,k,k2,k3⟩:=h'
 have key:∀a b:Nat,a<b->p*(a:Int)+p<=p*(b:Int):=λa b hab=>by
  have:p*((a:Int)+1)<=p*(b:Int):=Int.mul_le_mul_of_nonneg_left Qo Qo;rw[Int.mul_add,Int.mul_one] at this;exact this
 rcases Nat.lt_trichotomy j k with h | h | h
 ·have:=key j k h; omega
 ·subst h; omega
 ·have:=key k j h; omega
def XQ(now:Int)(n:Nat)(G:ZN):ZN:=if (G.used&&(G.IN.IY != 0))=true/\G.next<=now+(n:Int) then { G with next:=GH G.next G.period now n,IN:=Jt G.IN } else G
theorem zom{now:Int}{G:ZN}(h:G.IN.IY≠0->now<G.next):XQ now 0 G=G:=by
 unfold XQ;rw[C'];rintro⟨h1,h2⟩;simp only[A',Iu,ne_eq] at h1;have:=h h1.2;simp at h2;omega
def Tu(W:Q7)(n:Nat):Nat->Q7
 | 0=>{ W with now:=W.now+(n:Int) }
 | k+1=>Re (Tu W n k) (k:Int) (XQ W.now n (gi W.ID (k:Int)))
def ZS(W:Q7)(n:Nat):Q7:=Tu W n 8
noncomputable def Lq(W:Q7)(n:Int):Int:=if YJ n 1 1000=false then 1 else if QO W=false then 10 else 0
def zia(W:Q7)(n:Int):Q7:=Qg (Pa (ZS W n.toNat) 12)
theorem Hl(now:Int)(n:Nat)(G:ZN):(XQ now n G).used=G.used/\(XQ now n G).parent=G.parent/\(XQ now n G).name=G.name/\(XQ now n G).IF=G.IF/\(XQ now n G).weight=G.weight/\(XQ now n G).IE=G.IE/\(XQ now n G).sum=G.sum/\(XQ now n G).period=G.period/\(XQ now n G).IN.IY=G.IN.IY:=by
 unfold XQ; split <;> exact⟨rfl,rfl,rfl,rfl,rfl,rfl,rfl,rfl,rfl⟩
theorem Om(W:Q7)(n:Nat):∀k:Nat,(Tu W n k).ID.length=W.ID.length/\(Tu W n k).now=W.now+(n:Int)/\(Tu W n k).IE=W.IE/\(Tu W n k).tasks=W.tasks
 | 0=>⟨rfl,rfl,rfl,rfl⟩
 | k+1=>by
  obtain⟨a,b,c,d⟩:=Om W n k;exact⟨by show (List.set _ _ _).length=_; rw[H']; exact a,b,c,d⟩
theorem Kz(W:Q7)(n:Nat):∀k:Nat,k<=W.ID.length->∀i:Int,0<=i->gi (Tu W n k).ID i=if i<(k:Int) then XQ W.now n (gi W.ID i) else gi W.ID i
 | 0,_,i,i0=>by rw[C' Qo]; rfl
 | k+1,hk,i,i0=>by
  have ih:=Kz W n k Qo i i0;have hl:=(Om W n k).1;show gi (Re (Tu W n k) (k:Int) _).ID i=_;rw[Yv Qo Qo i0]
  by_cases e:(k:Int)=i
  ·subst e;rw[E' rfl,E' Qo]
  ·rw[C' e,ih]
   by_cases h:i<(k:Int)
   ·rw[E' h,E' Qo]
   ·rw[C' h,C' Qo]
theorem zp1(W:Q7):∀k:Nat,(Pa W k).ID=W.ID/\(Pa W k).now=W.now/\(Pa W k).IE=W.IE/\(Pa W k).tasks.length=W.tasks.length
 | 0=>⟨rfl,rfl,rfl,rfl⟩
 | k+1=>by
  obtain⟨a,b,c,d⟩:=zp1 W k;exact⟨a,b,c,by show (List.set _ _ _).length=_; rw[H']; exact d⟩
theorem zp2{K:Int}{W:Q7}(h:SW K W):∀k:Nat,k<=12->SW K (Pa W k)
 | 0,_=>h
 | k+1,hk=>by
  have ih:=zp2 h k Qo;have hv:=ih.tv (k:Int) Qo Qo;exact ih.IU Qo Qo (x:=ze9 (Q8 (Pa W k) (k:Int))) (λhs=>ih.t (k:Int) Qo Qo hs) hv.1 hv.2
theorem zld{b:Js}(h:UP b):UP (Jt b)/\(Jt b).locals.length=b.locals.length:=by
 have hd:=h.dl;refine⟨⟨h.q1,h.q2,by simp only[Jt,List.length_replicate]; have:=h.l1; omega,by simp only[Jt,List.length_replicate]; have:=h.l2; omega,by simp[Jt],by simp only[Jt]; have:=h.q1; omega,I3 _,by simp[Jt],by simp only[Jt]; have:=h.q1; omega,λc c0 c1=>?_,?_⟩,by simp[Jt,hd]⟩
 ·simp only[Jt,List.length_replicate] at c1 ⊢;rw[Pk _ _ c0 c1,Pk _ _ c0 c1];have:=h.q1;exact⟨I3 _,Qo,λh=>by cases h⟩
 ·simp only[Jt,List.length_replicate];rw[NG _ _ (I8 _)]; omega
theorem zv1{W W':Q7}{n:Nat}{k:Int}{G:ZN}(hg:znc W k G)(hu:G.used=true)(hn:W'.now=W.now+(n:Int))(hc:W'.IE.length=W.IE.length):znc W' k (XQ W.now n G):=by
 obtain⟨_,_,_,u4,u5,u6,u7,u8,u9⟩:=Hl W.now n G;refine⟨by rw[u5]; exact hg.w1,by rw[u5]; exact hg.w2,by rw[u6]; exact hg.m,by rw[u6]; exact hg.m0,by rw[u7]; exact hg.s,by rw[u4,hc]; exact hg.len,λh=>by rw[u5,u6,u9]; exact hg.root h,λhq=>?_,λhq=>?_⟩
 ·rw[u9] at hq
  have:XQ W.now n G=G:=by
   unfold XQ;rw[C'];rintro⟨h1,_⟩;simp only[A',Iu,ne_eq] at h1;exact h1.2 hq
  rw[this];exact hg.none hq
 ·rw[u9] at hq;obtain⟨b1,b2,b3,b4,b5,b6⟩:=hg.IN hq;rw[hn,hc];unfold XQ;split
  ·obtain⟨f1,f2⟩:=zld b1;have hj:=DV b3 b5 n;refine⟨f1,by show (Jt G.IN).locals.length=_; rw[f2]; exact b2,b3,b4,hj.gt,?_⟩;obtain⟨h1,j,h2,h3⟩:=hj;show GH G.next G.period W.now n-(W.now+(n:Int))<=G.period;rcases h3 with rfl | h3
   ·simp at h2; omega
   ·omega
  ·rename_i hcnd;have IT:W.now+(n:Int)<G.next:=Int.not_le.1 λhle=>hcnd ⟨by rw[hu]; simpa using hq,hle⟩
   exact⟨b1,b2,b3,b4,IT,Qo⟩
theorem E4(W:Q7)(n:Nat):∀k:Nat,k<=W.ID.length->Z6 W.ID (Tu W n k).ID
 | 0,_=>Z6.refl _
 | k+1,hk=>by
  have ih:=E4 W n k Qo;have hl:=(Om W n k).1;have e:=Kz W n k Qo (k:Int) Qo;rw[C' Qo] at e;obtain⟨u1,u2,u3,_⟩:=Hl W.now n (gi W.ID (k:Int));exact ih.trans (JV (W:=Tu W n k) (g:=(k:Int)) (x:=XQ W.now n (gi W.ID (k:Int))) Qo Qo (by rw[u1,e]) (by rw[u2,e]) (by rw[u3,e]))
theorem zv2{K:Int}{W:Q7}{n:Nat}(h:SW K W)(h1:W.now+(n:Int)<=100000000000000000):SW K (ZS W n):=by
 have hl:=h.a.gl;have hT:=E4 W n 8 Qo;obtain⟨l1,l2,l3,l4⟩:=Om W n 8
 have e:∀i:Int,0<=i->i<8->gi (ZS W n).ID i=XQ W.now n (gi W.ID i):=λi a b=>by
  have:=Kz W n 8 Qo i a
  rwa[E' (show i<((8:Nat):Int) by omega)] at this
 have n1:=h.a.n1;have et:∀t:Int,Q8 (ZS W n) t=Q8 W t:=λt=>by unfold Q8; rw[show (ZS W n).tasks=W.tasks from l4]
 have ec:(ZS W n).IE=W.IE:=l3;have hT:Z6 W.ID (ZS W n).ID:=hT;refine⟨⟨by rw[show (ZS W n).now=_ from l2]; omega,by rw[show (ZS W n).now=_ from l2]; exact h1,by rw[ec]; exact h.a.c1,by rw[ec]; exact h.a.c2,by rw[show (ZS W n).tasks=W.tasks from l4]; exact h.a.t,hT.tree h.a.tree,by rw[ec]; exact h.a.wT,λk a b=>?_⟩,λt a b hs=>?_,λt a b=>?_,λk c u a b=>?_,λc a b=>?_⟩
 ·have hg:=h.a.grp k a b;obtain⟨u1,u2,u3,u4,u5,u6,u7,u8,u9⟩:=Hl W.now n (gi W.ID k);unfold MV;rw[e k a b];refine⟨λhu=>?_,λhu=>?_⟩
  ·rw[u1] at hu
   have:XQ W.now n (gi W.ID k)=gi W.ID k:=by
    unfold XQ;rw[C'];rintro⟨h1,_⟩;rw[hu] at h1;cases h1
   rw[this];exact hg.1 hu
  ·rw[u1] at hu;exact zv1 (hg.2 hu) hu l2 (by rw[ec])
 ·rw[et] at hs ⊢;rw[hT.eO,ec];exact h.t t a b hs
 ·rw[et]; exact h.tv t a b
 ·rw[hT.eO] at u;rw[ec] at b;have hk:=Q5.1 u
  have:Qc (ZS W n) k c=Qc W k c:=by
   unfold Qc;rw[e k hk.1 Qo,(Hl W.now n (gi W.ID k)).2.2.2.1]
  rw[this];exact h.s k c u a b
 ·rw[ec] at b ⊢;exact h.cu c a b
theorem z1j{W:Q7}(ha:WA W):ZS W 0=W:=by
 have hl:=ha.gl;obtain⟨l1,l2,l3,l4⟩:=Om W 0 8
 have hg:(ZS W 0).ID=W.ID:=zn1 l1 λk hk=>by
  have hk8:k<8:=by have:(ZS W 0).ID.length=W.ID.length:=l1; omega
  have:=Kz W 0 8 Qo (k:Int) Qo;rw[E' Qo] at this;refine this.trans (zom λhq=>?_);have hgp:=ha.grp (k:Int) Qo Qo
  cases hu:(gi W.ID (k:Int)).used with
  | true=>exact((hgp.2 hu).IN hq).2.2.2.2.1
  | false=>
   have:=(hgp.1 hu).b;exact Is (by unfold Ol at this; simp only[A',It] at this; exact this.1.1.1.1) hq
 have h2:(ZS W 0).now=W.now:=by rw[show (ZS W 0).now=_ from l2]; simp
 have h3:(ZS W 0).IE=W.IE:=l3;have h4:(ZS W 0).tasks=W.tasks:=l4;generalize ZS W 0=V at hg h2 h3 h4;cases V;cases W;simp only at hg h2 h3 h4;subst hg; subst h2; subst h3; subst h4;rfl
theorem zre{W:Q7}{n:Int}(hW:Qy W=true)(hb:Lq W n=0):YJ n 1 1000=true/\QO W=true/\SW Qn W/\W.now<=Qn/\SW Qn (ZS W n.toNat)/\SW Qn (Pa (ZS W n.toNat) 12):=by
 have wp:=Qj.1 hW;unfold Lq at hb
 split at hb
 ·cases hb
 ·rename_i h1
  split at hb
  ·cases hb
  ·rename_i h3;have h1:YJ n 1 1000=true:=by simpa using h1
   have h3:QO W=true:=by simpa using h3
   have hr:=Qj.1 h3;have sw:=Mq wp hr;have hn:=hr.n;have hi:=Qt.1 h1;have hh:Qn=50000000000000000:=rfl;have s1:=zv2 (n:=n.toNat) sw Qo;exact⟨h1,h3,sw,hn,s1,zp2 s1 12 (I8 _)⟩
section
variable {W W':Q7}{m:MW}{w:Wo}{bar:Int}
theorem zxl{l u:Int}(h1:YJ l 0 8000000=true)(h2:YJ u 0 1000000=true):0<=Int.tdiv l 8/\Int.tdiv l 8<=l:=by
 have:=Qt.1 h1;rw[Int.tdiv_eq_ediv_of_nonneg this.1];omega
theorem BY{bs:List Nat}{l u:Int}:PX bs Tb #[I l,I u] w (I (EM l u)):=
 Nl l u λwr hx=>⟨_,Qr,_,λ_=>Qr,λg=>(by
  unfold EM;rw[C'];rintro⟨h1,h2⟩;rw[h1,h2] at g
  cases g),λg=>by
  have h1:YJ l 0 8000000=true:=by cases h:YJ l 0 8000000 <;> simp_all
  have h2:YJ u 0 1000000=true:=by cases h:YJ u 0 1000000 <;> simp_all
  have hb:=zxl h1 h2;have i1:=Qt.1 h1;have i2:=Qt.1 h2;refine⟨⟨Qd,Qo,Qo⟩,⟨Qo,Qo⟩,⟨Qo,Qo⟩,?_⟩;unfold EM;rw[E' ⟨h1,h2⟩]⟩
theorem zo0{W:Q7}{k:Int}(h0:0<=k)(h1:k<(W.ID.length:Int)):Re W k (gi W.ID k)=W:=by
 unfold Re;rw[KD h0 h1]
theorem Cg{n:Int}(h:Xl [] w W m)(hl:Xz W) :
  Cz O6 #[.agg (Qa W m).toArray,I n] w λe w'=>∃v,e=.returned v/\QP (YK W (Lq W n) (zia W n)) w v w':=by
 refine AV _ _ _ _ _ _ _ _ _ _ n (R:=λv w'=>QP (YK W (Lq W n) (zia W n)) w v w') ?_;intro x hx x1 S4 wr R3 Wc;refine I4 (Zh (h.ext R3) hl) ?_;rintro e wv (⟨hW,he,hy⟩ | ⟨hW,m',he,hM,hy⟩)
 ·exact⟨_,_,_,_,_,_,_,_,_,_,_,he,Qe hy Wc,false,λg=>by simp at g,λ_ J' Ra=>QP.bad hW ((R3.trans hy).fresh Ra λy hm=>.inl (Yw hx S4 y hm)),λg=>by simp at g⟩
 have hK:=Wk.begin hx S4 R3 Wc hM hy;have wA:((if QO W=true then 0 else 10:Int)==1)=false:=by split <;> rfl
 refine⟨_,_,_,_,_,_,_,_,_,_,_,he,Qe hy Wc,_,λ_=>Qr,λg J' Ra=>?_,λg=>⟨λg3 O' Ra=>?_,λg3=>?_⟩⟩
 ·rw[wA] at g;have g:YJ n 1 1000=false:=by simpa using g
  have hb:Lq W n=1:=by unfold Lq; rw[E' g]
  exact QP.no hW (by rw[hb]; decide) (hK.step Ra) hb
 ·rw[wA] at g;have g:YJ n 1 1000=true:=by simpa using g
  have bU:¬QO W=true:=λhr=>by rw[E' hr] at g3; simp at g3
  have hb:Lq W n=10:=by unfold Lq; rw[C' (by rw[g]; decide),E' (by simpa using bU)]
  rw[C' bU];exact QP.no hW (by rw[hb]; decide) (hK.step Ra) hb
 rw[wA] at g;have g:YJ n 1 1000=true:=by simpa using g
 have bU:QO W=true:=Ir λhr=>by rw[C' hr] at g3; simp at g3
 have hb:Lq W n=0:=by unfold Lq; rw[C' (by rw[g]; decide),C' (by rw[bU]; decide)]
 obtain⟨_,_,sw,Cd6,sp,sd⟩:=zre hW hb;have hn:=Qt.1 g;obtain⟨N,rfl⟩:=Int.eq_ofNat_of_zero_le (show 0<=n by omega);have hE:zia W (N:Int)=Qg (Pa (ZS W N) 12):=by unfold zia; rw[Ih]
 rw[Ih] at sp sd;rw[hE];have cJ:=sw.a.gl;have kG:=sw.a.t;have hn1:=sw.a.n1;have hh:Qn=50000000000000000:=rfl;refine⟨⟨Qo,Qo⟩,?_⟩;refine XC W.ID.length 0 rfl (λk w2=>k<=8/\∃m2,Wk 8 [x,x1] w w2 (Tu W N k) m2/\m2={ m' with ms:=m2.ms }) (λw2 Ra _=>⟨Qd,m',(show Wk 8 [x,x1] w wv (Tu W N 0) m' from ⟨hK.s,⟨⟨hK.own.c,hK.own.t,hK.own.g,hK.own.len⟩,hK.nb⟩⟩).step Ra,rfl⟩) λk w2 fX ⟨hk8,m2,gV,hd2⟩=>?_
 obtain⟨l1,l2,l3,l4⟩:=Om W N k;have eG:=Kz W N k Qo (k:Int) Qo;rw[C' Qo] at eG;have Wf:Tu W N (k+1)=Re (Tu W N k) (k:Int) (XQ W.now N (gi W.ID (k:Int))):=rfl;have oM:k=8->ZS W N=Tu W N k:=λe=>by rw[e]; rfl
 have CF9:(k:Int)<(W.ID.length:Int)->Re (Tu W N k) (k:Int) (gi W.ID (k:Int))=Tu W N k:=λIT=>by
  have:=zo0 (W:=Tu W N k) (k:=(k:Int)) Qo Qo
  rwa[eG] at this
 have emg:m2.gO=m'.gO:=by rw[hd2]
 have emc:m2.gC=m'.gC:=by rw[hd2]
 refine⟨λIT=>?_,λRN=>?_⟩
 ·have IT:=Ot IT;generalize Tu W N k=V at gV l1 l2 l3 l4 eG Wf oM CF9;have hr:=gV.rd;have B82:(k:Int)<(V.ID.length:Int):=Qo;have Wg:Ix m'.gO W.ID.length (k:Int):=by have:=hr.g.ix (i:=(k:Int)) Qo B82; rwa[l1,emg] at this
  have hcs:=hr.g.cells (k:Int) Qo B82;rw[eG,emg] at hcs;refine⟨Wg,_,_,_,_,_,_,_,_,_,_,_,_,_,_,_,_,_,_,_,_,hcs,λb2 dJ=>⟨λg4=>⟨⟨Qo,Qo⟩,λw3 Ra _=>Qp Qo ⟨Qo,m2,?_,hd2⟩⟩,λg4 RQ Sw lV=>?_⟩⟩
  ·have:XQ W.now N (gi W.ID (k:Int))=gi W.ID (k:Int):=by
    unfold XQ;rw[C'];rintro⟨a,b⟩;simp only[Iv,IC,It,Ik] at g4;simp only[A',Iu,ne_eq] at a;rcases g4 with (h1 | h1) | h1
    ·rw[a.1] at h1; cases h1
    ·exact a.2 h1
    ·omega
   rw[Wf,this,CF9 IT];exact gV.step Ra
  ·simp only[I0,I7,beq_eq_false_iff_ne,ne_eq,decide_eq_false_iff_not] at g4;obtain⟨⟨hu,hq⟩,DS9⟩:=g4;have lM:=(sw.a.grp (k:Int) Qo Qo).2 hu;obtain⟨fQ,hbl,hp1,dQ,hnx,hnp⟩:=lM.IN hq
   have hP:XQ W.now N (gi W.ID (k:Int))={ gi W.ID (k:Int) with next:=GH (gi W.ID (k:Int)).next (gi W.ID (k:Int)).period W.now N,IN:=Jt (gi W.ID (k:Int)).IN }:=by
    unfold XQ;rw[E' ⟨by rw[hu]; simpa using hq,Qo⟩]
   have hJ:=DV hp1 hnx N;have oJ:=(gV.add dJ).step (Sw.mono λy hy=>Ib _ hy);have hr5:=oJ.o.rd0;have hLo:=hr5.g.locals (k:Int) Qo B82;have hDo:=hr5.g.Ry (k:Int) Qo B82;rw[eG] at hLo hDo;refine I4 (JR (op:=⟨4,0,0⟩) fQ hLo hDo) ?_;rintro e Rr ⟨pb,he,hO,SJ⟩;have Cy3:ZE (gi W.ID (k:Int)).IN ⟨4,0,0⟩=(Jt (gi W.ID (k:Int)).IN,0):=by unfold ZE; rw[E' rfl]
   rw[Cy3] at he hO
   dsimp only at he hO
   refine⟨_,_,_,_,_,_,_,_,_,_,he,Qe SJ lV,λb3 hb3=>?_⟩;have eQ:=(oJ.R6 SJ).add hb3
   have hOb:∀y∈ZI pb,y∉QC 8 m2/\y∉[x,x1]++[b2]++[b3]:=λy hy=>by
    have:=hO.lt y hy;refine⟨λhm=>by have:=(oJ.own.lt y hm).2; omega,λhm=>?_⟩;rcases Io.1 hm with h1 | h1
    ·have:=lV y h1; omega
    ·have:y=b3:=by simpa using h1
     omega
   have hO4:Z5 w.heap.size Rr (Jt (gi W.ID (k:Int)).IN) pb:=hO.mono oJ.base;refine⟨λvs w'=>∃v:Int,vs=Yt { gi W.ID (k:Int) with next:=v,IN:=Jt (gi W.ID (k:Int)).IN } (TL (m2.ms k) pb)/\(∃j:Nat,v=(gi W.ID (k:Int)).next+(gi W.ID (k:Int)).period*(j:Int)/\(j=0\/v-(gi W.ID (k:Int)).period<=W.now+(N:Int)))/\0<=v/\Wk 8 ([x,x1]++[b2]++[b3]) w w' V m2/\Z5 w.heap.size w' (Jt (gi W.ID (k:Int)).IN) pb,λvs _=>(W.now+(N:Int)+1-ZW 6 vs).toNat,λSz nN hs7=>⟨(gi W.ID (k:Int)).next,by simp[Yt,TL],⟨0,Qs,.inl rfl⟩,Qo,eQ.step (nN.mono λy hy=>Ib _ hy),hO4.ext nN λy hy hm=>(hOb y hy).2 (Ib _ hm)⟩,?_⟩;rintro l0 a1 a2 a3 a4 a5 a6 a7 a8 a9 a10 DL1 DL0 DK9 DL4 DL3 DL2 DL7 DL6 DL5 bV eM ⟨v,hv,hj,hv0,dR,hO5⟩;simp only[Yt,QZ,List.cons_append,List.nil_append,I5,Value.bool.injEq,I6,Value.string.injEq,Iw,true_and,and_true] at hv;obtain⟨rfl,rfl,rfl,rfl,rfl,rfl,rfl,rfl,rfl,rfl,rfl,⟨rfl,rfl,rfl⟩,⟨rfl,rfl,rfl⟩,rfl,rfl,rfl⟩:=hv;refine⟨λhle=>?_,λhgt=>?_⟩
   ·have hle:=Ot hle;refine⟨⟨Qo,Qo⟩,λW8 tG hs8=>⟨⟨a6+(gi W.ID (k:Int)).period,rfl,?_,Qo,dR.step tG,hO5.ext tG λy hy=>(hOb y hy).2⟩,?_⟩⟩
    ·obtain⟨j,h1,_⟩:=hj;exact⟨j+1,by rw[h1]; push_cast; rw[Int.mul_add,Int.mul_one,Int.add_assoc],.inr Qo⟩
    ·show (_-(a6+(gi W.ID (k:Int)).period)).toNat<(_-a6).toNat;omega
   ·have hgt:=Ou hgt;have hv6:a6=GH (gi W.ID (k:Int)).next (gi W.ID (k:Int)).period W.now N:=zyc hp1 ⟨Qo,hj⟩ hJ;have vR:=zd7 dR.own dR.nb (i:=(k:Int)) Qo Qo (j:=0) (k:=14) Qd;rw[emg] at vR;refine⟨Wg,vR,⟨Qo,Qo⟩,λWQ mF hs9=>Qp Qo ⟨Qo,PG m2 k (TL (m2.ms k) pb),?_,by rw[hd2]; rfl⟩⟩;rw[Wf];have tB:=dR.gr (g:=(k:Int)) Qo Qo (G:=XQ W.now N (gi W.ID (k:Int))) (p:=pb) (j:=0) (vs:=Yt (XQ W.now N (gi W.ID (k:Int))) (TL (m2.ms k) pb)) (by rw[hP]; exact hO5) hOb (by rw[eG]; exact(Hl _ _ _).2.2.2.1) (by simp[Yt]) (by simp[Yt]);refine(tB.step (w':=WQ) ?_).sub λy hy=>Ib _ (Ib _ hy)
    rw[hP,<-hv6,emg];exact mF
 ·have RN:=Ou RN;rw[<-oM Qo] at gV l1 l2 l3 l4;have emt:m2.tO=m'.tO:=by rw[hd2]
  refine XC W.tasks.length 0 rfl (λt w2=>t<=12/\Wk 8 [x,x1] w w2 (Pa (ZS W N) t) m2) (λw2 Ra _=>⟨Qd,gV.step Ra⟩) λt w2 eM ⟨CO8,oJ⟩=>?_
  obtain⟨q1,q2,q3,q4⟩:=zp1 (ZS W N) t;have AK8:Pa (ZS W N) (t+1)=IU (Pa (ZS W N) t) (t:Int) (ze9 (Q8 (Pa (ZS W N) t) (t:Int))):=rfl;have AS4:t=12->Pa (ZS W N) 12=Pa (ZS W N) t:=λe=>by rw[e]
  generalize hU:Pa (ZS W N) t=U at oJ q1 q2 q3 q4 AK8 AS4;have hr:=oJ.rd;refine⟨λIT=>?_,λbK Sv wL AT1=>?_⟩
  ·have IT:=Ot IT;have t1:(t:Int)<(U.tasks.length:Int):=by rw[q4,l4]; exact IT
   have Wg:Ix m'.tO W.tasks.length (t:Int):=by have:=hr.t.ix QM (i:=(t:Int)) Qo t1; rwa[q4,l4,emt] at this
   have hcs:=hr.t (t:Int) Qo t1;rw[emt] at hcs;have vR:=zgv oJ.own oJ.nb (i:=(t:Int)) Qo t1 (j:=0) (k:=9) Qd;rw[emt] at vR;refine⟨Wg,_,_,_,_,_,_,_,_,_,hcs,λb4 hb4=>⟨_,JF,_,BY,_,JF,Wg,vR,⟨Qo,Qo⟩,λSm AT2 AC9=>Qp Qo ⟨Qo,?_⟩⟩⟩;rw[AK8];have SY:=oJ.own.vV (i:=(t:Int)) Qo t1 (j:=0) (vs:=Xa (ze9 (Q8 U (t:Int)))) (x:=ze9 (Q8 U (t:Int))) (by simp[Xa]) (by simp[Xa]);have eQ:=oJ.R8 SY L8;rw[emt] at eQ;exact eQ.step AT2
  ·have bK:=Ou bK;rw[AS4 Qo] at sd ⊢;have eQ:=oJ.step wL;have Rt:=Qv eQ.own sd Qd Qd eQ.base
   have e5:Qa U m2=[I (W.now+(N:Int)),.slice m'.cO W.IE.length m'.cC,.slice m'.tO W.tasks.length m'.tC,.slice m'.gO W.ID.length m'.gC]:=by
    unfold Qa;rw[q2,q3,q4,q1,l1,l2,l3,l4,hd2]
   rw[e5] at Rt;refine I4 Rt ?_;rintro e2 Rr ⟨m3,aE,SJ⟩;exact⟨_,_,_,_,_,_,_,_,_,_,aE,eQ.kept SJ AT1,λW5 Bx4=>QP.ok hW hb ((eQ.SA SJ AT1).step Bx4)⟩
structure Mn (base pb:Nat) (w0:Wo) (m0:MW) (w:Wo) (W:Q7) (m:MW):Prop where
 own:Zj 8 base w W m
 pt:w.heap[pb]? = some (.cells (Qa W m).toArray Q4 (0,0))
 pn:pb∉QC 8 m
 ext:Q0 (pb::QC 8 m0) w0 w
 sub:∀x∈QC 8 m,x∈QC 8 m0\/w0.heap.size<=x
section
variable {base pb:Nat}{w0 w':Wo}{m0 m':MW}
theorem Mn.start(h:PW base pb w W m):Mn base pb w m w W m:=⟨h.own,h.pt,h.pn,Q0.refl _ _,λ_ hx=>.inl hx⟩
end
end
theorem Tz.same{W W':Q7}(p:Tz W)(ha:WA W')(ht:W'.tasks=W.tasks)(hc:W'.IE=W.IE)(hT:Z6 W.ID W'.ID)(hs:∀k c:Int,Qc W' k c=Qc W k c):Tz W':=by
 have est:∀k c:Int,VN W' k c↔VN W k c:=λk c=>by
  unfold VN;rw[hT.p,hs,hs]
 refine⟨⟨ha,λt t0 t1=>?_,λt t0 t1 n=>by rw[Jp ht] at n ⊢; rw[hc]; exact p.l t t0 t1 n,λk c hk c0 c1=>?_⟩,λc c0 c1=>?_⟩
 ·rw[Jp ht];rcases p.t t t0 t1 with h | ⟨h1,h2⟩
  ·exact .inl h
  ·exact .inr ⟨h1,h2.st,by rw[hT.eO]; exact h2.g,h2.n,h2.m,h2.m0,h2.s,h2.u,h2.l1,h2.l2,λh=>by rw[hs]; exact h2.f h⟩
 ·rw[hT.eO] at hk;rw[hc] at c1;exact(p.s k c hk c0 c1).Bu5 (hs _ _) λ_=>by rw[hT.p,hs]
 ·rw[hc] at c1;have h:=p.c c c0 c1;refine⟨by rw[hc]; exact h.b,by rw[hc]; exact h.i,by rw[hc]; exact h.c1,by rw[hc]; exact h.c2,by rw[hc]; exact h.no,by rw[hc]; exact h.yes,λh0 h1 h2=>?_⟩;rw[hc,Jp ht] at *;obtain⟨q1,q2⟩:=h.q h0 h1 h2;refine⟨by rw[hs]; exact q1,λy hy=>?_⟩;rw[Tv hT] at hy;rw[est,hT.p,hs,hs];exact q2 y hy
theorem zzk{W W':Q7}(hT:Z6 W.ID W'.ID)(hm:∀i:Int,(gi W'.ID i).IE=(gi W.ID i).IE)(hu:J4 W'.IE=J4 W.IE)(g m:Int):Qw W' g m=Qw W g m:=by
 unfold Qw
 have hp:VX W'.ID g (J4 W.IE)=VX W.ID g (J4 W.IE):=by
  unfold VX;rw[show Zb W'.ID g=Zb W.ID g from hT.path 3 g]
  congr 1
  funext s x
  rw[hm]
 rw[hu,hp]
theorem zaa.same{W W':Q7}(h:zaa W)(ht:W'.tasks=W.tasks)(hT:Z6 W.ID W'.ID)(hm:∀i:Int,(gi W'.ID i).IE=(gi W.ID i).IE)(hu:J4 W'.IE=J4 W.IE):zaa W':=λt t0 t1 n=>by
 rw[Jp ht] at n ⊢;rw[zzk hT hm hu];exact h t t0 t1 n
theorem zo3{W:Q7}{g:Int}{x:ZN}(s:x.IF=(gi W.ID g).IF)(k c:Int):Qc (Re W g x) k c=Qc W k c:=by
 unfold Qc;rw[show (gi (Re W g x).ID k).IF=(gi W.ID k).IF from YU (f:=ZN.IF) _ _ s k]
theorem zx5{W:Q7}{g q p:Int}(hW:Qy W=true)(hb:zly W g q p=0):JH (zyo W g q p):=by
 have wp:=Qj.1 hW;obtain⟨hu,hz,_,_,sw,sw2⟩:=zvg hW hb;obtain⟨u0,u1,_⟩:=Q5.1 hu;have h:=zjt (W:=W) (g:=g) (q:=q) (p:=p);have hT:=JV (W:=W) (x:=Ka W g q p) u0 u1 h.1 h.2.1 h.2.2.1;exact Zz sw2 Qd Qd ((Xq wp).same sw2.a rfl rfl hT (zo3 h.2.2.2.1)) ((UW wp).same rfl hT (λi=>YU (f:=ZN.IE) _ _ h.2.2.2.2.2.1 i) rfl)
theorem zu6{W:Q7}{n:Int}(hW:Qy W=true)(hb:Lq W n=0):JH (zia W n):=by
 have wp:=Qj.1 hW;obtain⟨_,_,sw,_,sp,sd⟩:=zre hW hb;have cJ:=wp.a.gl;obtain⟨l1,l2,l3,l4⟩:=Om W n.toNat 8;have hT:Z6 W.ID (ZS W n.toNat).ID:=E4 W n.toNat 8 Qo
 have key:∀i:Int,(gi (ZS W n.toNat).ID i).IF=(gi W.ID i).IF/\(gi (ZS W n.toNat).ID i).IE=(gi W.ID i).IE:=λi=>by
  have hu:=Hl W.now n.toNat (gi W.ID ((i.toNat:Nat):Int));have e:=Kz W n.toNat 8 Qo ((i.toNat:Nat):Int) Qo;rw[zb1 (ZS W n.toNat).ID i,zb1 W.ID i];unfold ZS;rw[e];split
  ·exact⟨hu.2.2.2.1,hu.2.2.2.2.2.1⟩
  ·exact⟨rfl,rfl⟩
 have p1:Tz (ZS W n.toNat):=(Xq wp).same sp.a l4 l3 hT λk c=>by unfold Qc; rw[(key k).1]
 have q1:zaa (ZS W n.toNat):=(UW wp).same l4 hT (λi=>(key i).2) (by rw[show (ZS W n.toNat).IE=W.IE from l3])
 have all:∀k:Nat,k<=12->Tz (Pa (ZS W n.toNat) k)/\zaa (Pa (ZS W n.toNat) k):=by
  intro k
  induction k with
  | zero=>exact λ_=>⟨p1,q1⟩
  | succ k ih=>
   intro hk;obtain⟨a,b⟩:=ih Qo;show Tz (IU (Pa (ZS W n.toNat) k) (k:Int) (ze9 (Q8 (Pa (ZS W n.toNat) k) (k:Int))))/\zaa (IU (Pa (ZS W n.toNat) k) (k:Int) (ze9 (Q8 (Pa (ZS W n.toNat) k) (k:Int))));generalize Pa (ZS W n.toNat) k=V at a b
   by_cases hs:(Q8 V (k:Int)).state=0
   ·have hz:Q8 V (k:Int)=TX:=by
     rcases a.t (k:Int) Qo Qo with h | h
     ·exact h.2
     ·exact Is hs h.1
    rw[hz];have hd:ze9 TX=TX:=Qd;rw[hd];exact⟨a.IU Qo Qo (.inl ⟨rfl,rfl⟩) λc _ _ _ h _=>(by cases h),b.IU a.a Qo Qo λh=>Is rfl h⟩
   ·have h:=OC a (t:=(k:Int)) Qo Qo hs;have hlo:=a.l (k:Int) Qo Qo hs
    have hld:0<=(ze9 (Q8 V (k:Int))).load/\(ze9 (Q8 V (k:Int))).load<=8000000:=by
     have h1:=h.l1;have h2:=h.l2;have h3:=Yq.1 h.u
     have ht:0<=Int.tdiv (Q8 V (k:Int)).load 8/\Int.tdiv (Q8 V (k:Int)).load 8<=(Q8 V (k:Int)).load:=by
      rw[Int.tdiv_eq_ediv_of_nonneg h1];omega
     show 0<=ZC (EM (Q8 V (k:Int)).load (ZC (Q8 V (k:Int)).used 1000000)) 8000000/\ZC (EM (Q8 V (k:Int)).load (ZC (Q8 V (k:Int)).used 1000000)) 8000000<=8000000;have hm:0<=ZC (Q8 V (k:Int)).used 1000000:=by unfold ZC; split <;> omega
     have hbt:0<=EM (Q8 V (k:Int)).load (ZC (Q8 V (k:Int)).used 1000000):=by unfold EM; split <;> omega
     generalize EM (Q8 V (k:Int)).load (ZC (Q8 V (k:Int)).used 1000000)=y at hbt;unfold ZC
     split <;> omega
    refine⟨a.IU Qo Qo (.inr ⟨hs,⟨h.st,h.g,h.n,h.m,h.m0,h.s,by show ZM 0=true; decide,hld.1,hld.2,h.f⟩,hlo⟩) λc c0 c1 rI h1 h2=>?_,b.IU a.a Qo Qo λ_=>b (k:Int) Qo Qo hs⟩;have hc:=(a.c c c0 c1).q (by rw[rI]; omega);rw[rI] at hc;exact hc h1 h2
 obtain⟨p2,q2⟩:=all 12 (I8 _);exact Zz sd Qd Qd p2 q2
theorem zdl{W:Q7}(p:Tz W){t g c:Int}(t0:0<=t)(t1:t<12)(n:(Q8 W t).state≠0)(hg:Q6 W.ID g=true)(c0:0<=c)(c1:c<(W.IE.length:Int)):Tz (Uh W t g c):=by
 have h:=OC p t0 t1 n
 have hT:Ek W (Oo W t g c):=⟨h.st,hg,h.n,h.m,h.m0,h.s,h.u,h.l1,h.l2,λ_=>by
  have:=ZU ((Q8 W t).v-(Qc W (Q8 W t).group (Q8 W t).M').floor) (Qf (Q8 W t).nice);show (Qc W g c).floor<=(Qc W g c).floor+HO W t/\(Qc W g c).floor+HO W t-(Qc W g c).floor<=ZB (Qf (Q8 W t).nice);unfold HO;exact⟨Qo,Qo⟩⟩
 unfold Uh;split
 ·exact y7 p t0 t1 n hT rfl c0 c1
 ·rename_i hs;exact p.IU t0 t1 (.inr ⟨n,hT,c0,c1⟩) λd _ _ _ h _=>Is h hs
theorem z7(W:Q7)(t g c:Int):TC W (Uh W t g c):=by
 unfold Uh;split
 ·exact(zo7 _ _ _).trans (Hq _ _)
 ·exact zo7 _ _ _
theorem zou{W:Q7}(hl:W.tasks.length=12){t g c:Int}(t0:0<=t)(t1:t<12){i:Int}(i0:0<=i):Q8 (Uh W t g c) i=if t=i then Oo W t g c else Q8 W i:=by
 have e:Q8 (IU W t (Oo W t g c)) i=if t=i then Oo W t g c else Q8 W i:=QI _ _ t0 Qo i0;unfold Uh;split
 ·exact e
 ·exact e
theorem zq0{W:Q7}(p:Tz W):∀k:Nat,k<=12->Tz (XA W k)/\TC W (XA W k)/\(∀t:Int,0<=t->t<(k:Int)->(Q8 (XA W k) t).state≠0->Z0 (Qw (XA W k) (Q8 (XA W k) t).group (Q8 (XA W k) t).mask) (Q8 (XA W k) t).M'=true)
 | 0,_=>⟨p,TC.refl _,λt a b=>by omega⟩
 | k+1,hk=>by
  obtain⟨a,b,d⟩:=zq0 p k Qo;simp only[XA];generalize XA W k=V at a b d;have hl:=a.a.t;split
  ·rename_i hm;unfold Pv at hm;simp only[A',Iu,ne_eq] at hm;have h:=OC a (t:=(k:Int)) Qo Qo hm.1;have hf:=KJ a.a (Q8 V (k:Int)).group (Q8 V (k:Int)).mask;have hw:=H9 a.a (Q8 V (k:Int)).group (Q8 V (k:Int)).mask;refine⟨zdl a Qo Qo hm.1 h.g hf.1 hf.2,b.trans (z7 _ _ _ _),λt t0 t1 n=>?_⟩;rw[(z7 V _ _ _).wh];rw[zou hl Qo Qo t0] at n ⊢
   split at n
   ·rename_i he;rw[E' he];exact Fu hw.1 hw.2
   ·rename_i he;rw[C' he];exact d t t0 Qo n
  ·rename_i hm;refine⟨a,b,λt t0 t1 n=>?_⟩
   by_cases he:t=(k:Int)
   ·subst he;have hm:Pv V (k:Int)=false:=by simpa using hm
    unfold Pv at hm;rw[show ((Q8 V (k:Int)).state != 0)=true by simpa using n,Bool.true_and] at hm
    simpa using hm
   ·exact d t t0 Qo n
theorem z6{W:Q7}(sf:SF Qn (Qn+Qi) W)(p:Tz W):JH (Qg (Kc W)):=by
 obtain⟨a,b,d⟩:=zq0 p 12 (I8 _);exact Zz (MN sf (I3 _)).1.w (by simp only[Qi]; decide) (by simp only[Qi,UZ]; decide) a d
theorem zx9{W:Q7}{t x:Int}(hW:Qy W=true)(hb:E6 W t x=0):JH (zv7 W t x):=by
 have wp:=Qj.1 hW;obtain⟨h1,_,sf⟩:=zv8 hW hb;obtain⟨t0,t1,tn⟩:=X0 h1;have hl:=wp.a.t;have p:=Xq wp;have h:=OC p t0 Qo tn
 have hx:PE x=true/\x≠0:=by
  unfold E6 at hb
  split at hb
  ·cases hb
  ·rename_i hn;exact⟨by cases hm:PE x with | true=>rfl | false=>exact Is (.inl hm) hn,λe=>hn (.inr e)⟩
 refine z6 sf (p.IU t0 Qo (.inr ⟨tn,⟨h.st,h.g,h.n,hx.1,hx.2,h.s,h.u,h.l1,h.l2,h.f⟩,p.l t t0 Qo tn⟩) λc c0 c1 rI h1 h2=>?_);have hc:=(p.c c c0 c1).q (by rw[rI]; omega);rw[rI] at hc;exact hc h1 h2
theorem zx4{W:Q7}{g x:Int}(hW:Qy W=true)(hb:zln W g x=0):JH (zux W g x):=by
 have wp:=Qj.1 hW;obtain⟨hu,_,_,sf,hT⟩:=zuy hW hb;exact z6 sf ((Xq wp).same sf.w.a rfl rfl hT (zo3 rfl))
theorem Ek.gr{W W':Q7}{x:MC}(h:Ek W x)(e:W'.ID=W.ID):Ek W' x:=
 ⟨h.st,by rw[e]; exact h.g,h.n,h.m,h.m0,h.s,h.u,h.l1,h.l2,λhs=>by unfold Qc; rw[e]; exact h.f hs⟩
theorem z0w{W:Q7}{c:Int}(hW:Qy W=true)(hb:Yf W c false 0=0):JH (zvy W c):=by
 have wp:=Qj.1 hW;obtain⟨c0,c1,_,sf⟩:=zvz hW hb;have p:=Xq wp;refine z6 sf ⟨⟨sf.w.a,λt t0 t1=>(p.t t t0 t1).imp id λh=>⟨h.1,h.2.gr rfl⟩,λt t0 t1 n=>?_,λk d hk d0 d1=>?_⟩,λd d0 d1=>?_⟩
 ·have:=p.l t t0 t1 n;show _/\_<(((W.IE.set c.toNat _).length:Nat):Int);rw[H']; exact this
 ·have d1:d<(((W.IE.set c.toNat (My (gi W.IE c) true)).length:Nat):Int):=d1;rw[H'] at d1;exact(p.s k d hk d0 d1).Bu5 rfl λ_=>rfl
 ·have d1:d<(((W.IE.set c.toNat (My (gi W.IE c) true)).length:Nat):Int):=d1;rw[H'] at d1;have h:=p.c d d0 d1;have e:gi (RX W c (My (gi W.IE c) true)).IE d=if c=d then My (gi W.IE c) true else gi W.IE d:=QI _ _ c0 c1 d0
  have eb:(gi (RX W c (My (gi W.IE c) true)).IE d).cur=(gi W.IE d).cur/\(gi (RX W c (My (gi W.IE c) true)).IE d).aA=(gi W.IE d).aA/\(gi (RX W c (My (gi W.IE c) true)).IE d).busy=(gi W.IE d).busy/\(gi (RX W c (My (gi W.IE c) true)).IE d).idle=(gi W.IE d).idle/\((gi W.IE d).up=true->(gi (RX W c (My (gi W.IE c) true)).IE d).up=true):=by
   rw[e];split
   ·rename_i he; subst he; exact⟨rfl,rfl,rfl,rfl,λ_=>rfl⟩
   ·exact⟨rfl,rfl,rfl,rfl,id⟩
  obtain⟨e1,e2,e3,e4,e5⟩:=eb;refine⟨by rw[e3]; exact h.b,by rw[e4]; exact h.i,by rw[e1]; exact h.c1,by rw[e1]; exact h.c2,by rw[e1,e2]; exact h.no,λh0=>?_,?_⟩
  ·rw[e1] at h0;have:=h.yes h0;exact⟨e5 this.1,by rw[e2]; exact this.2⟩
  ·rw[e1,e2]; exact h.q
theorem zx8{W:Q7}{c:Int}(hW:Qy W=true)(hb:Yf W c true (JP W)=0):JH (Cs W c):=by
 have wp:=Qj.1 hW;obtain⟨c0,c1,_,sf⟩:=zoi hW hb;have p:=Xq wp;have hl:(RX W c (My (gi W.IE c) false)).IE.length=W.IE.length:=H';have sfE:=sf.RD c0 (by rw[hl]; exact c1)
 have hcs:RD (RX W c (My (gi W.IE c) false)) c=RX W c (J1 (My (gi W.IE c) false)):=by
  have e:gi (RX W c (My (gi W.IE c) false)).IE c=My (gi W.IE c) false:=(QI _ _ c0 c1 c0).trans (E' rfl);unfold RD;rw[e];simp[RX,List.set_set]
 show JH (Qg (Kc (RD (RX W c (My (gi W.IE c) false)) c)));rw[hcs] at sfE ⊢;refine z6 sfE ⟨⟨sfE.w.a,λt t0 t1=>(p.t t t0 t1).imp id λh=>⟨h.1,h.2.gr rfl⟩,λt t0 t1 n=>?_,λk d hk d0 d1=>?_⟩,λd d0 d1=>?_⟩
 ·have:=p.l t t0 t1 n;show _/\_<(((W.IE.set c.toNat _).length:Nat):Int);rw[H']; exact this
 ·have d1:d<(((W.IE.set c.toNat (J1 (My (gi W.IE c) false))).length:Nat):Int):=d1;rw[H'] at d1;exact(p.s k d hk d0 d1).Bu5 rfl λ_=>rfl
 ·have d1:d<(((W.IE.set c.toNat (J1 (My (gi W.IE c) false))).length:Nat):Int):=d1;rw[H'] at d1;have h:=p.c d d0 d1;have e:gi (RX W c (J1 (My (gi W.IE c) false))).IE d=if c=d then J1 (My (gi W.IE c) false) else gi W.IE d:=QI _ _ c0 c1 d0
  by_cases he:c=d
  ·subst he;have e:=e.trans (E' rfl);refine⟨by rw[e]; exact h.b,by rw[e]; exact h.i,by rw[e]; show (-1:Int)<=-1; decide,by rw[e]; show (-1:Int)<12; decide,λ_=>by rw[e]; rfl,λh0=>?_,λh0=>?_⟩
   ·rw[e] at h0;have h0:(0:Int)<=-1:=h0;omega
   ·rw[e] at h0;have h0:(0:Int)<=-1:=h0;omega
  ·have e:=e.trans (C' he);exact⟨by rw[e]; exact h.b,by rw[e]; exact h.i,by rw[e]; exact h.c1,by rw[e]; exact h.c2,by rw[e]; exact h.no,by rw[e]; exact h.yes,by rw[e]; exact h.q⟩
def zd3(W:Q7)(g c x:Int):KL:={ Qc W g c with v:=if (Qc W g c).on=true then (Qc W (gi W.ID g).parent c).floor+Yh ((Qc W g c).v-(Qc W (gi W.ID g).parent c).floor) x else (Qc W g c).v,w:=x }
def zko(W:Q7)(g c:Int):Bool:=decide ((gi W.IE c).cur>=0)&&TI 3 W.ID g (Q8 W (gi W.IE c).cur).group
def Ui(W:Q7)(g c x:Int):Q7:=Rz W g c (zd3 W g c x)
def Lb(W:Q7)(g c x:Int):Q7:=if (Qc W g c).w=x then W else if zko (Ui W g c x) g c=true then RD (Ui W g c x) c else Ui W g c x
def De(W:Q7):Prop:=∀c:Int,0<=c->c<(W.IE.length:Int)->(gi W.IE c).cur>=0->Q6 W.ID (Q8 W (gi W.IE c).cur).group=true
theorem zp0{W:Q7}(wp:J7 W):De W:=λc c0 c1 h=>by
 have hc:=wp.c c c0 c1;have hy:=hc.yes h;have hl:=hy.2.2.2.2.1;have c2:=hc.c2;have ht:=wp.a.t;unfold ZF at hl;simp only[A',It] at hl;rcases wp.t (gi W.IE c).cur h Qo with h1 | h1
 ·rw[h1.1] at hl; exact Is hl.1 Qd
 ·exact h1.2.g
theorem De.Rz{W:Q7}(h:De W){g c:Int}{s:KL}(u0:0<=g)(u1:g<(W.ID.length:Int)):De (Rz W g c s):=λd d0 d1 hc=>by
 rw[(XW u0 u1).eO];exact h d d0 d1 hc
theorem De.RD{W:Q7}(h:De W){c:Int}(c0:0<=c)(c1:c<(W.IE.length:Int)):De (RD W c):=λd d0 d1 hc=>by
 have d1:d<(((W.IE.set c.toNat (J1 (gi W.IE c))).length:Nat):Int):=d1;rw[H'] at d1;have hg:gi (YtnclplgaicdapaaGreatDoor.RD W c).IE d=if c=d then J1 (gi W.IE c) else gi W.IE d:=QI _ _ c0 c1 d0;rw[hg] at hc ⊢
 split at hc
 ·exact Is hc (by show ¬(-1:Int)>=0; decide)
 ·rename_i hn;rw[C' hn];exact h d d0 d1 hc
theorem zzj{F K:Int}{W:Q7}(h:SF F K W)(hk:F+Qi<=K){g c x:Int}(hu:Q6 W.ID g=true)(hz:g≠0)(c0:0<=c)(c1:c<(W.IE.length:Int))(x1:1<=x)(x2:x<=20):SF F K (Ui W g c x):=by
 have hp:=h.w.a.up hu hz;have s1:=h.w.s g c hu c0 c1;have s2:=h.w.s _ c hp c0 c1;have f1:=h.f g c hu c0 c1;have f2:=h.f _ c hp c0 c1;have lc:=ZU ((Qc W g c).v-(Qc W (gi W.ID g).parent c).floor) x;have lm:=ZQ x;refine h.Rz hu c0 c1 s1.1 f1 (by show (Qc W g c).floor<=K; omega) ?_ ?_ x1 x2
 ·simp only[zd3]; split <;> omega
 ·simp only[zd3]; simp only[Qi] at hk; split <;> omega
theorem zrl{F K:Int}{W:Q7}(h:SF F K W)(hk:F+Qi<=K)(hc:De W){g c x:Int}(hu:Q6 W.ID g=true)(hz:g≠0)(c0:0<=c)(c1:c<(W.IE.length:Int))(x1:1<=x)(x2:x<=20):SF F K (Lb W g c x)/\Fr W (Lb W g c x)/\De (Lb W g c x):=by
 obtain⟨u0,u1,_⟩:=Q5.1 hu;have hv:=zzj h hk hu hz c0 c1 x1 x2;have hf:Fr W (Ui W g c x):=(VS u0 u1).fr;have hc2:De (Ui W g c x):=hc.Rz u0 u1;unfold Lb;split
 ·exact⟨h,Fr.refl _,hc⟩
 ·split
  ·exact⟨hv.RD c0 c1,hf.trans (zbz _ _),hc2.RD c0 c1⟩
  ·exact⟨hv,hf,hc2⟩
def H8(W:Q7)(g x:Int):Nat->Q7
 | 0=>W
 | c+1=>Lb (H8 W g x c) g (c:Int) x
theorem zkp{F K:Int}{W:Q7}(h:SF F K W)(hk:F+Qi<=K)(hc:De W){g x:Int}(hu:Q6 W.ID g=true)(hz:g≠0)(x1:1<=x)(x2:x<=20):∀c:Nat,c<=W.IE.length->SF F K (H8 W g x c)/\Fr W (H8 W g x c)/\De (H8 W g x c)
 | 0,_=>⟨h,Fr.refl _,hc⟩
 | c+1,hn=>by
  obtain⟨a,b,d⟩:=zkp h hk hc hu hz x1 x2 c Qo;obtain⟨a2,b2,d2⟩:=zrl a hk d (g:=g) (c:=(c:Int)) (x:=x) (by rw[b.g.eO]; exact hu) hz Qo (by rw[b.c]; omega) x1 x2;exact⟨a2,b.trans b2,d2⟩
def KI(W:Q7)(g x:Int):ZN:={ gi W.ID g with weight:=x }
noncomputable def zm7(W:Q7)(g x:Int):Int:=K5 W g (YJ x 1 20)
def zw3(W:Q7)(g x:Int):Q7:=Qg (H8 (Re W g (KI W g x)) g x W.IE.length)
theorem zw4{W:Q7}{g x:Int}(hW:Qy W=true)(hb:zm7 W g x=0):YJ x 1 20=true/\g≠0/\Q6 W.ID g=true/\QO W=true/\SF Qn (Qn+Qi) W/\SF Qn (Qn+Qi) (Re W g (KI W g x))/\De (Re W g (KI W g x))/\Z6 W.ID (Re W g (KI W g x)).ID:=by
 obtain⟨h1,h2,h3,h4⟩:=zjk hb;have wp:=Qj.1 hW;have sw:=Mq wp (Qj.1 h4);obtain⟨u0,u1,hg⟩:=wp.a.u h3;have hx:=Qt.1 h1;have hl:=wp.a.gl;have s1:=sw.Re (x:=KI W g x) h3 rfl rfl rfl rfl ⟨hx.1,hx.2,hg.m,hg.m0,hg.s,hg.len,λh=>Is h h2,hg.none,hg.IN⟩;have hT:Z6 W.ID (Re W g (KI W g x)).ID:=JV u0 Qo rfl rfl rfl;refine⟨h1,h2,h3,h4,sw.sf.mono (I3 _) (by simp only[Qi]; decide),s1.sf.mono (I3 _) (by simp only[Qi]; decide),λd d0 d1 hc=>?_,hT⟩;rw[hT.eO];exact zp0 wp d d0 d1 hc
theorem zw1{gs:List ZN}(ht:Yc gs){g h:Int}(u1:Q6 gs g=true)(u2:Q6 gs h=true):Pr gs g h=TI 3 gs g h:=by
 unfold Pr;rw[u1,u2,show MP gs=true from @Ii _ (Classical.propDecidable _) ht];rfl
section
variable {base:Nat}{W W':Q7}{m:MW}{w:Wo}{bar:Int}
theorem Ks{F K:Int}(h:Zj 8 base w W m)(gI:SF F K W)(hk:F+Qi<=K)(hK:K<=1000000000000000000)(hcu:De W){g c x:Int}(hu:Q6 W.ID g=true)(hz:g≠0)(c0:0<=c)(c1:c<(W.IE.length:Int)) :
  Cz U5 #[.agg (Qa W m).toArray,I g,I c,I x] w λe w'=>e=.returned (.agg (Qa W m).toArray)/\Mv 8 base [] w m w' (Lb W g c x) m:=by
 refine(BK _ _ _ _ _ _ _ _ _ _ g c x (R:=λv w'=>v=.agg (Qa W m).toArray/\Mv 8 base [] w m w' (Lb W g c x) m) ?_).mono λe w' ⟨v,he,hv,h3⟩=>⟨by rw[he,hv],h3⟩
 intro y hy y1 cX;obtain⟨u0,u1,_⟩:=Q5.1 hu;have cJ:=gI.w.a.gl;have kG:=gI.w.a.t;have hsl:=gI.w.a.sl hu;have hp:=gI.w.a.up hu hz;obtain⟨p0,p1,_⟩:=Q5.1 hp;have hpl:=gI.w.a.sl hp;have s1:=gI.w.s g c hu c0 c1;have s2:=gI.w.s _ c hp c0 c1;have lc:=ZU ((Qc W g c).v-(Qc W (gi W.ID g).parent c).floor) x;have lm:=ZQ x;have hM:=Mv.two h hy cX;have hr:=(Mv.start h).rd;have Wg:=hr.g.ix (i:=g) u0 u1;have AM8:=(hr.g.IF g u0 u1).ix ZZ c0 Qo;have hcx:=hr.c.ix ZT c0 c1;have vR:=zzl h Qs (i:=g) (bs:=[]) u0 Qo c0 Qo (j:=0) (k:=5) Qd;have hcr:=gI.w.cu c c0 c1;have rG:decide ((gi W.IE c).cur>=0)=true->(gi W.IE c).cur<(W.tasks.length:Int):=λ_=>by omega
 have hT:Z6 W.ID (Ui W g c x).ID:=XW u0 u1
 have hE:(decide ((gi W.IE c).cur>=0)&&Pr (Ui W g c x).ID g (gi W.tasks (gi W.IE c).cur).group)=zko (Ui W g c x) g c:=by
  unfold zko;show _=(decide ((gi W.IE c).cur>=0)&&TI 3 (Ui W g c x).ID g (Q8 W (gi W.IE c).cur).group)
  by_cases hc:(gi W.IE c).cur>=0
  ·rw[zw1 (hT.tree gI.w.a.tree) (by rw[hT.eO]; exact hu) (by rw[hT.eO]; exact hcu c c0 c1 hc)]; rfl
  ·rw[decide_eq_false hc]; rfl
 have hlen:(Ui W g c x).ID.length=W.ID.length:=hT.len;have wB:Fr W (Ui W g c x):=(VS u0 u1).fr;have eW:Qa (Ui W g c x) m=Qa W m:=Uz wB;have eE:Qa (RD (Ui W g c x) c) m=Qa W m:=Uz (wB.trans (zbz _ _));refine⟨Wg,_,_,_,hr.g.RE u0 u1,AM8,_,_,_,_,_,(hr.g.IF g u0 u1) c c0 Qo,λb2 dJ=>⟨λg1 wr hx=>⟨rfl,?_⟩,λg1=>⟨λg2=>?_,λg2=>?_⟩⟩⟩
 ·have g1:(Qc W g c).w=x:=Iz g1;unfold Lb;rw[E' g1];exact(Mv.start h).R6 hx
 ·have wD:zd3 W g c x=⟨(Qc W g c).floor,(Qc W g c).on,(Qc W (gi W.ID g).parent c).floor+Yh ((Qc W g c).v-(Qc W (gi W.ID g).parent c).floor) x,x,(Qc W g c).sum⟩:=by
   unfold zd3;rw[E' (show (Qc W g c).on=true from g2)]
  have SY:=zcp gI h hk hu rfl c0 c1 (zd3 W g c x);rw[wD] at SY;have WN:=((hM.add dJ).SA SY (NF Qo));have hV:Rz W g c ⟨(Qc W g c).floor,(Qc W g c).on,(Qc W (gi W.ID g).parent c).floor+Yh ((Qc W g c).v-(Qc W (gi W.ID g).parent c).floor) x,x,(Qc W g c).sum⟩=Ui W g c x:=by unfold Ui; rw[wD]
  rw[hV] at WN;have uN:=WN.rd;have CK5:=WN.close;have bU:=CK5.rd;refine⟨Wg,_,hr.g.parent u0 u1,hr.g.ix p0 p1,_,_,_,hr.g.RE p0 p1,(hr.g.IF _ p0 p1).ix ZZ c0 Qo,_,zna.f (hr.g.IF _ p0 p1) c0 Qo (j:=0) rfl,⟨by show _<=(Qc W g c).v-(Qc W (gi W.ID g).parent c).floor; omega,by show (Qc W g c).v-(Qc W (gi W.ID g).parent c).floor<=_; omega⟩,_,K9,⟨by show _<=(Qc W (gi W.ID g).parent c).floor+Yh ((Qc W g c).v-(Qc W (gi W.ID g).parent c).floor) x; omega,by show (Qc W (gi W.ID g).parent c).floor+Yh ((Qc W g c).v-(Qc W (gi W.ID g).parent c).floor) x<=_; omega⟩,Wg,_,_,_,hr.g.RE u0 u1,AM8,vR,hcx,(gi W.IE c).cur,?_⟩;refine⟨z16.f bU.c c0 c1 (j:=1) rfl,λgc=>bU.t.ix QM (Ot gc) (rG gc),_,λgc=>ztn.f bU.t (Ot gc) (rG gc) (j:=1) rfl,_,λgc=>by rw[<-hlen]; exact Oi bU.g (by have:=Zo; omega),λgc J' Ra fX=>?_,λgc Ru Ra=>?_⟩
  ·have he:zko (Ui W g c x) g c=true:=by rw[<-hE]; exact gc
   have hZ:=WN.step (Ra.of_nil);have Rt:=ZA hZ.own c0 c1;rw[eW,eE] at Rt;refine I4 Rt ?_;rintro e wv ⟨gW,SJ⟩;refine⟨_,_,_,_,_,_,_,_,_,_,gW,hZ.kept SJ fX,λO' SZ=>⟨rfl,?_⟩⟩;unfold Lb;rw[C' (show ¬(Qc W g c).w=x from ne_of_beq_false g1),E' he];exact((hZ.call SJ fX).step SZ).close
  ·have he:zko (Ui W g c x) g c=false:=by rw[<-hE]; exact gc
   refine⟨rfl,?_⟩;unfold Lb;rw[C' (show ¬(Qc W g c).w=x from ne_of_beq_false g1),C' (by rw[he]; decide)];exact(WN.step Ra.of_nil).close
 ·have wD:zd3 W g c x=⟨(Qc W g c).floor,(Qc W g c).on,(Qc W g c).v,x,(Qc W g c).sum⟩:=by
   unfold zd3;rw[C' (by rw[show (Qc W g c).on=false from g2]; decide)]
  have SY:=zcp gI h hk hu rfl c0 c1 (zd3 W g c x);rw[wD] at SY;have WN:=((hM.add dJ).SA SY (NF Qo));have hV:Rz W g c ⟨(Qc W g c).floor,(Qc W g c).on,(Qc W g c).v,x,(Qc W g c).sum⟩=Ui W g c x:=by unfold Ui; rw[wD]
  rw[hV] at WN;have uN:=WN.rd;have CK5:=WN.close;have bU:=CK5.rd;refine⟨Wg,_,_,_,hr.g.RE u0 u1,AM8,vR,hcx,(gi W.IE c).cur,?_⟩;refine⟨z16.f bU.c c0 c1 (j:=1) rfl,λgc=>bU.t.ix QM (Ot gc) (rG gc),_,λgc=>ztn.f bU.t (Ot gc) (rG gc) (j:=1) rfl,_,λgc=>by rw[<-hlen]; exact Oi bU.g (by have:=Zo; omega),λgc J' Ra fX=>?_,λgc Ru Ra=>?_⟩
  ·have he:zko (Ui W g c x) g c=true:=by rw[<-hE]; exact gc
   have hZ:=WN.step (Ra.of_nil);have Rt:=ZA hZ.own c0 c1;rw[eW,eE] at Rt;refine I4 Rt ?_;rintro e wv ⟨gW,SJ⟩;refine⟨_,_,_,_,_,_,_,_,_,_,gW,hZ.kept SJ fX,λO' SZ=>⟨rfl,?_⟩⟩;unfold Lb;rw[C' (show ¬(Qc W g c).w=x from ne_of_beq_false g1),E' he];exact((hZ.call SJ fX).step SZ).close
  ·have he:zko (Ui W g c x) g c=false:=by rw[<-hE]; exact gc
   refine⟨rfl,?_⟩;unfold Lb;rw[C' (show ¬(Qc W g c).w=x from ne_of_beq_false g1),C' (by rw[he]; decide)];exact(WN.step Ra.of_nil).close
theorem Fh{g x:Int}(h:Xl [] w W m)(hl:Xz W) :
  Cz VF #[.agg (Qa W m).toArray,I g,I x] w λe w'=>∃v,e=.returned v/\QP (YK W (zm7 W g x) (zw3 W g x)) w v w':=by
 refine EW _ _ _ _ _ _ _ _ _ _ g x (R:=λv w'=>QP (YK W (zm7 W g x) (zw3 W g x)) w v w') ?_;intro y hy y1 cX;refine⟨_,JO,λwr R3 Wc=>?_⟩;refine I4 (Vq (g:=g) (ok:=YJ x 1 20) (h.ext R3) hl) ?_;rintro e wv (⟨hW,he,SJ⟩ | ⟨hW,m',he,hM,SJ⟩)
 ·exact⟨_,_,_,_,_,_,_,_,_,_,_,he,Qe SJ Wc,λ_ J' Ra=>QP.bad hW ((R3.trans SJ).fresh Ra λz hm=>.inl (Yw hy cX z hm)),λg=>by simp at g⟩
 have hK:=Wk.begin hy cX R3 Wc hM SJ;refine⟨_,_,_,_,_,_,_,_,_,_,_,he,Qe SJ Wc,λg1 J' Ra=>QP.no hW (by simpa[zm7] using g1) (hK.step Ra) rfl,λg1=>?_⟩;have hb:zm7 W g x=0:=by simpa[zm7] using g1
 have hr:=hK.rd;obtain⟨C10,hz,hu,AC8,_,sf,hcu,hT⟩:=zw4 hW hb;have hxr:=Qt.1 C10;obtain⟨u0,u1,_⟩:=Q5.1 hu;have cJ:W.ID.length=8:=by have:=sf.w.a.gl; rwa[hT.len] at this
 have Wg:=hr.g.ix (i:=g) u0 u1;have SY:Wk 8 [y,y1] w (R8 wv m'.gO (Int.toNat g*14+3) [I x]) (Re W g (KI W g x)) m':=hK.R8 (hK.own.An0 u0 Qo (g:=KI W g x) rfl rfl rfl (j:=3) (vs:=[I x]) rfl Qs) FV;have vR:=zd7 hK.own hK.nb (i:=g) u0 Qo (j:=3) (k:=1) Qd;have e0:Qa (Re W g (KI W g x)) m'=Qa W m':=by simp[Qa,Re]
 have huV:Q6 (Re W g (KI W g x)).ID g=true:=by rw[hT.eO]; exact hu
 have sK:(Re W g (KI W g x)).IE.length=W.IE.length:=rfl;have hE:zw3 W g x=Qg (H8 (Re W g (KI W g x)) g x W.IE.length):=rfl;rw[hE];have hc4:=sf.w.a.c2;generalize Re W g (KI W g x)=V at SY sf hcu hT e0 huV sK hc4;refine⟨Wg,vR,λvs w1=>∃(k:Nat),vs=I (k:Int)::Qa W m'/\k<=W.IE.length/\Wk 8 [y,y1] w w1 (H8 V g x k) m',Zs W.IE.length 0,λw1 tF _=>⟨0,rfl,Ie _,SY.step tF⟩,?_⟩;rintro c1 l Sd Sn Sr Sj Sp Sq Sf Sg Si Rr fX ⟨k,aE,hk,gV⟩;obtain⟨hS,hf,hc2⟩:=zkp sf (I3 _) hcu huV hz hxr.1 hxr.2 k Qo;have Wf:H8 V g x (k+1)=Lb (H8 V g x k) g (k:Int) x:=rfl;have oM:k=W.IE.length->H8 V g x W.IE.length=H8 V g x k:=λe=>by rw[e]
 have eU:Qa (H8 V g x k) m'=Qa W m':=(Uz hf).trans e0;have hcU:=hf.c;have huU:Q6 (H8 V g x k).ID g=true:=by rw[hf.g.eO]; exact huV
 simp only[Qa,I5,I6,Iw,true_and,and_true] at aE;obtain⟨rfl,rfl,⟨rfl,rfl,rfl⟩,⟨rfl,rfl,rfl⟩,rfl,rfl,rfl⟩:=aE;generalize H8 V g x k=U at gV hS hf hc2 Wf oM eU hcU huU;refine⟨λIT Ru Ra eM=>?_,λRN RQ Sw lV=>?_⟩
 ·have IT:=Ot IT;have oJ:=gV.step Ra;have Rt:=Ks oJ.own hS (I3 _) (by simp only[Qi]; decide) hc2 (g:=g) (c:=(k:Int)) (x:=x) huU hz Qo Qo;rw[eU] at Rt;refine I4 Rt ?_;rintro e S5 ⟨iP,kW⟩;refine⟨_,_,_,_,_,_,_,_,_,_,iP,oJ.kept kW eM,⟨Qo,Qo⟩,λRC SZ _=>⟨⟨k+1,rfl,Qo,?_⟩,?_⟩⟩
  ·rw[Wf];exact(oJ.SA kW eM).step SZ
  ·simp only[Zs,Xg,ZW,Ig]; omega
 ·have RN:=Ou RN;rw[oM Qo];have dR:=gV.step Sw;have Rt:=Qv dR.own hS.w (by simp only[Qi]; decide) (by simp only[Qi]; decide) dR.base;rw[eU] at Rt;refine I4 Rt ?_;rintro e2 Rr ⟨m2,aE,SJ⟩;exact⟨_,_,_,_,_,_,_,_,_,_,aE,dR.kept SJ lV,λRC Sw=>QP.ok hW hb ((dR.SA SJ lV).step Sw)⟩
section
variable {pb:Nat}
end
end
end Go.Proofs.YtnclplgaicdapaaGreatDoor
