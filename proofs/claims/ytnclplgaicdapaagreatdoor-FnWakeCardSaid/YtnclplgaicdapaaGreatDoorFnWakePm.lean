/- Part 13 of what the law FnWake needs. -/
import Derived.Test.YtnclplgaicdapaaGreatDoorFnWakePl
import Derived.Shelf.Abstract
set_option linter.unusedVariables false
set_option linter.unusedSimpArgs false
set_option maxRecDepth 100000
set_option maxHeartbeats 8000000
namespace Go.Proofs.YtnclplgaicdapaaGreatDoor
open Go.RowKit
theorem AT{P:Program}{fn:Func}{R:Ending->Wo->Prop}{a:Act}{w:Wo}{D:Nat}(hd:a.defers=[Ae D])(hD:w.heap[D]? = some (.deferred (some [])))(h:∀w',Q0 [D] w w'->∃v,(results fn a.tmps).run P w'=.ok v w'/\R (.returned v) w') :
  bodyPostM (UX none) 0 P fn R .normal a w/\bodyPostM (UX none) 0 P fn R .ret a w:=by
 have:LeavesInM (UX none) 0 P fn a.tmps R a.defers .returning w:=by
  rw[hd];obtain⟨v,hr,hR⟩:=h _ (Yi _ _ _);exact⟨Qs,.inl ⟨_,_,rfl,run_takeDeferred hD,⟨v,hr,hR⟩⟩⟩
 exact⟨this,this⟩
theorem z0n:J3 zka Qa=some ⟨false,[.int .i64],.int .i64⟩:=Qk
theorem ziu{fn:Func}{p:Tmp}(h:fn.results=#[.cell p Qa]){tmps:Array Va}{b:Nat}{n:Int}{w:Wo}{t:TypeId}(hp:tmps.getD p undef=.pointer (some ⟨b,0,none⟩))(hb:w.heap[b]? = some (.cells ([I n]:List Va).toArray t (0,0))) :
  (results fn tmps).run Tryz.prog w=.ok (I n) w:=by
 have hl:=Tc z4s z0n (vs:=[I n]) (v:=I n) rfl rfl (a:=⟨b,0,none⟩) (w:=w) (λj x hx=>by rw[Addr.add_lit,Vx hb]; simpa using hx);have hp':tmps[p]?.getD undef=.pointer (some ⟨b,0,none⟩):=by simpa using hp
 simp[results,h,hp',asAddr,hl]
theorem zjk(m:Int):(LX m 4=[]/\O3 m = -1)\/(0<(LX m 4).length/\O3 m=gi (LX m 4) ((0:Nat):Int)):=by
 have e:LX m 4=([0,1,2,3]:List Nat).filterMap λ(i:Nat)=>if Z1 m (i:Int)=true then some (i:Int) else none:=by
  unfold LX;rw[show List.range 4=[0,1,2,3] from rfl]
  cases h0:Z1 m ((0:Nat):Int) <;> cases h1:Z1 m ((1:Nat):Int) <;> cases h2:Z1 m ((2:Nat):Int) <;> cases h3:Z1 m ((3:Nat):Int) <;> simp[List.filter,h0,h1,h2,h3] <;> simp_all
 rw[e];unfold O3;have i1:((1:Nat):Int)=1:=rfl;have i2:((2:Nat):Int)=2:=rfl;have i3:((3:Nat):Int)=3:=rfl
 cases h0:Z1 m 0 <;> cases h1:Z1 m 1 <;> cases h2:Z1 m 2 <;> cases h3:Z1 m 3 <;> simp[h0,h1,h2,h3,gi,i1,i2,i3]
theorem znm:YL Tryz.f119=zmn Xh (.seq (.seq Jj (.block 0 (.rangeFunc (.tmp 5) #[6] Ji XW))) XX):=Qk
theorem L8{m:Int}{w:Wo}:Cz TB #[.int .i64 m] w λe w'=>e=.returned (.int .i64 (O3 m))/\Q0 [] w w':=by
 refine LG (args:=[.int .i64 m]) (n:=8) Tryz.func119 (body:=YL Tryz.f119) rfl Qk Qs λa hn ha hd=>?_
 rw[znm];have a0:=ha 0 _ rfl;refine Hf none (R:=λe vs w1=>e=.normal/\∃b:Nat,vs=[.pointer (some ⟨b,0,none⟩)]/\w.heap.size<=b/\w1.heap[b]? = some (.cells ([.int .i64 0]:List Va).toArray Qa (0,0))/\Q0 [] w w1) hn ?_ ?_ ?_ (λe vs a1 w1 fI hR _=>Ir hR.1 fI)
 ·intro p hp;cases hp
 ·intro b wb hx hb0 SO _ wr R0;exact⟨rfl,b,rfl,hb0,Qg SO R0 Qs,hx.trans R0⟩
 rintro vs a2 w1 ⟨_,b,rfl,hwb,hB,hX⟩ fo
 have o2:a2.tmps.getD 2 undef=.pointer (some ⟨b,0,none⟩):=by
  have:=fo.out
  simpa using this
 have o0:a2.tmps.getD 0 undef=.int .i64 m:=(fo.kept 0 (by decide +kernel)).trans a0;refine wpIn_seq (wpIn_seq (He none m (R:=λe vs w2=>e=.normal/\∃bm:Nat,vs=[.func (.func QE) #[] #[.pointer (some ⟨bm,0,none⟩)]]/\Q1 [] w2 (some ⟨bm,0,none⟩) 0 [.int .i64 m]/\w1.heap.size<=bm/\Q0 [] w1 w2) (by rw[fo.size,hn]) (λp hp=>?_) (λwr hx _=>?_) λe vs a3 w2 hR fo3=>?_))
 ·simp only[Ii,List.not_mem_nil,or_false] at hp;subst hp;exact⟨Ik rfl,o0⟩
 ·refine(A2 (m:=m)).mono λe w2 ⟨bm,hbm,he,hcm,R3⟩=>⟨_,_,_,he,Z3,λI' Si=>⟨rfl,bm,rfl,hcm.ext Si,by have:=hx.size; omega,(hx.trans R3).trans Si⟩⟩
 obtain⟨rfl,bm,rfl,hcm,hbm,R0⟩:=hR
 have p5:a3.tmps.getD 5 undef=.func (.func QE) #[] #[.pointer (some ⟨bm,0,none⟩)]:=by
  have:=fo3.out
  simpa using this
 have p2:=(fo3.kept 2 (by decide +kernel)).trans o2;have AO0:a3.tmps.size=8:=by rw[fo3.size,fo.size,hn]
 have hd3:a3.defers=[]:=by rw[fo3.defers,fo.defers,hd]
 have tW:=hX.trans R0;have hB2:=Qg hB R0 Qs;have hbL:=Yt hB;have Cl4:=Yt hB2;have Cm0:=zrq hcm
 have fin:∀{D:Nat} {W:Wo} {n:Int} {tm:Array Va},tm.getD 2 undef=.pointer (some ⟨b,0,none⟩)->W.heap[b]? = some (.cells ([.int .i64 n]:List Va).toArray Qa (0,0))->w2.heap.size<=D->Q0 [] w W->n=O3 m->∀w',Q0 [D] W w'->∃v,(results Tryz.f119 tm).run Tryz.prog w'=.ok v w'/\(Ending.returned v=.returned (.int .i64 (O3 m))/\Q0 [] w w'):=λ{D W n tm} h2 hW hD hXW hn w' hx=>by
  subst hn;refine⟨_,ziu Qk h2 (Qg hW hx λhm=>?_),rfl,hXW.fresh hx λx hm=>.inl ?_⟩
  ·have:b=D:=by simpa using hm
   omega
  ·have:x=D:=by simpa using hm
   have:=tW.size;omega
 refine wpIn_block (zqu (gf:=QE) (lb:=#[.pointer (some ⟨bm,0,none⟩)]) p5 (enters_of Tryz.func233 Qk rfl)
  (λk W1=>k=0/\W1.heap[b]? = some (.cells ([.int .i64 0]:List Va).toArray Qa (0,0))/\Q1 [] W1 (some ⟨bm,0,none⟩) 0 [.int .i64 m]/\Q0 [] w W1)
  (λcd W1=>cd=.ret/\W1.heap[b]? = some (.cells ([.int .i64 (O3 m)]:List Va).toArray Qa (0,0))/\Q0 [] w W1) (LX m 4).length (λk=>[.int .i64 (gi (LX m 4) (k:Int))])
  (λk W1 W2 ys h hx hy=>⟨h.1,Qg h.2.1 hx λhm=>by have:=hy _ hm; omega,D5 h.2.2.1 hx λhm=>by have:=hy _ hm; omega,h.2.2.2.fresh hx λx hm=>.inl (by have:=hy x hm; have:=tW.size; omega)⟩)
  (λcd W1 W2 ys h hx hy=>⟨h.1,Qg h.2.1 hx λhm=>by have:=hy _ hm; omega,h.2.2.fresh hx λx hm=>.inl (by have:=hy x hm; have:=tW.size; omega)⟩)
  ⟨rfl,hB2,hcm,tW⟩ (λk=>rfl) (EW (m:=m) (bm:=bm) (w:=w2) (I:=λk W1=>k=0/\W1.heap[b]? = some (.cells ([.int .i64 0]:List Va).toArray Qa (0,0))/\Q1 [] W1 (some ⟨bm,0,none⟩) 0 [.int .i64 m]/\Q0 [] w W1) (λk W1 h=>h.2.2.1)) ?_ ?_ ?_)
 ·rintro l k W hk ⟨rfl,hb,hc,hXW⟩ hl
  have tZ:O3 m=gi (LX m 4) ((0:Nat):Int):=by
   rcases zjk m with h | h
   ·rw[h.1] at hk; simp at hk
   ·exact h.2
  rw[zdt];refine Hd (some l) (gi (LX m 4) ((0:Nat):Int)) (R:=λe vs W1=>e=.normal/\vs=[.int .i64 (gi (LX m 4) ((0:Nat):Int))]/\Q0 [] W W1) (by simpa using AO0) (λp hp=>?_) (λwr hx=>⟨rfl,rfl,hx⟩) λe vs a4 W1 hR fo4=>?_
  ·simp only[Ii,List.not_mem_nil,or_false] at hp;subst hp;exact⟨Ik rfl,E8 (i:=6) (by rw[AO0]; decide)⟩
  obtain⟨rfl,rfl,Si⟩:=hR
  have q3:a4.tmps.getD 3 undef=.int .i64 (gi (LX m 4) ((0:Nat):Int)):=by
   have:=fo4.out
   simpa using this
  have q2:a4.tmps.getD 2 undef=.pointer (some ⟨b,0,none⟩):=((fo4.kept 2 (by decide +kernel)).trans (UR (i:=6) (j:=2) Qd)).trans p2;refine⟨⟨[],Si,Qs⟩,λW2 Sb=>?_⟩
  have hbn:b∉[l]:=λhm=>by
   have:b=l:=by simpa using hm
   omega
  have hb5:=Qg (Qg hb Si Qs) Sb hbn
  have hX5:Q0 [] w W2:=(hXW.trans Si).fresh Sb λx hm=>.inl (by
   have:x=l:=by simpa using hm
   have:=tW.size;omega)
  refine Gy (some l) (some ⟨b,0,none⟩) (gi (LX m 4) ((0:Nat):Int)) (R:=λe _ W3=>e=.ret/\(∃X,Q0 X W2 W3/\∀x∈X,x<w2.heap.size)/\W3.heap[b]? = some (.cells ([.int .i64 (O3 m)]:List Va).toArray Qa (0,0))/\Q0 [] w W3) (by rw[fo4.size]; simpa using AO0) (λp hp=>?_) ⟨U7 (k0:=0) hb5 Qs Qs,λwr hx=>?_⟩ λe vs a5 W3 hR _=>?_
  ·simp only[Ii,List.not_mem_nil,or_false] at hp;rcases hp with rfl | rfl
   ·exact⟨Ik rfl,q2⟩
   ·exact⟨Ik rfl,q3⟩
  ·have e1:Q0 [b] W2 (R5 W2 (some ⟨b,0,none⟩) 0 [.int .i64 (gi (LX m 4) ((0:Nat):Int))]):=X3 (bs:=[b]) Qs;have eX:Q0 [b] W2 wr:=e1.trans hx.of_nil;refine⟨rfl,⟨[b],eX,λx hm=>?_⟩,?_,hX5.fresh eX λx hm=>.inl ?_⟩
   ·have:x=b:=by simpa using hm
    omega
   ·rw[tZ];exact Qg (U6 (vs:=[.int .i64 (gi (LX m 4) ((0:Nat):Int))]) (n:=0) hb5) hx Qs
   ·have:x=b:=by simpa using hm
    omega
  ·obtain⟨rfl,hX3,h3⟩:=hR;exact⟨hX3,rfl,h3⟩
 ·intro D W hD ⟨hN,hb,hc,hXW⟩ hdD
  have hm1:O3 m = -1:=by
   rcases zjk m with h | h
   ·exact h.2
   ·omega
  refine Gz none (some ⟨b,0,none⟩) (R:=λe vs W1=>e=.ret/\W1.heap[b]? = some (.cells ([.int .i64 (-1)]:List Va).toArray Qa (0,0))/\(∃X,Q0 X W W1/\D∉X)/\Q0 [] w W1) AO0 (λp hp=>?_) ⟨U7 (k0:=0) hb Qs Qs,λwr hx=>?_⟩ λe vs a6 W1 hR fo6=>?_
  ·simp only[Ii,List.not_mem_nil,or_false] at hp;subst hp;exact⟨Ik rfl,p2⟩
  ·have e1:Q0 [b] W (R5 W (some ⟨b,0,none⟩) 0 [.int .i64 (-1)]):=X3 (bs:=[b]) Qs;have eX:Q0 [b] W wr:=e1.trans hx.of_nil;refine⟨rfl,Qg (U6 (vs:=[.int .i64 (-1)]) (n:=0) hb) hx Qs,⟨[b],eX,λhm=>?_⟩,hXW.fresh eX λx hm=>.inl ?_⟩
   ·have:D=b:=by simpa using hm
    omega
   ·have:x=b:=by simpa using hm
    omega
  ·obtain⟨rfl,hb6,⟨X,Wt,hDX⟩,hX6⟩:=hR;exact(AT (D:=D) (by rw[fo6.defers]; simp[hd3]) ((Wt.block D (Array.getElem?_eq_some_iff.1 hdD).1 hDX).trans hdD) (fin ((fo6.kept 2 (by decide +kernel)).trans p2) hb6 hD hX6 hm1.symm)).2
 ·intro D cd W hD ⟨hcd,hb,hXW⟩ hdD;subst hcd;exact wpIn_ret (AT (a:={ a3 with defers:=Ae D::a3.defers }) (D:=D) (by simp[hd3]) hdD (fin p2 hb hD hXW rfl)).2
theorem zz1{m:Int}{k:Nat}(h4:k<4)(iQ:∀j:Nat,j<k->Z1 m (j:Int)=false)(h:Z1 m (k:Int)=true):O3 m=(k:Int):=by
 have h0:=iQ 0;have h1:=iQ 1;have h2:=iQ 2;have:k=0\/k=1\/k=2\/k=3:=Qo;unfold O3;rcases this with rfl | rfl | rfl | rfl
 ·rw[C' (show Z1 m 0=true from h)]; rfl
 ·rw[B' (by rw[show Z1 m 0=false from h0 Qd]; decide),C' (show Z1 m 1=true from h)]; rfl
 ·rw[B' (by rw[show Z1 m 0=false from h0 Qd]; decide),B' (by rw[show Z1 m 1=false from h1 Qd]; decide),C' (show Z1 m 2=true from h)]; rfl
 ·rw[B' (by rw[show Z1 m 0=false from h0 Qd]; decide),B' (by rw[show Z1 m 1=false from h1 Qd]; decide),B' (by rw[show Z1 m 2=false from h2 Qd]; decide),C' (show Z1 m 3=true from h)]; rfl
theorem zz2{m:Int}(iQ:∀j:Nat,j<4->Z1 m (j:Int)=false):O3 m = -1:=by
 unfold O3;rw[B' (by rw[show Z1 m 0=false from iQ 0 Qd]; decide),B' (by rw[show Z1 m 1=false from iQ 1 Qd]; decide),B' (by rw[show Z1 m 2=false from iQ 2 Qd]; decide),B' (by rw[show Z1 m 3=false from iQ 3 Qd]; decide)]
section
variable {base:Nat}{W W':Q8}{m:MW}{w:Wo}{bar:Int}
theorem Lc{x:Int}{bs:List Nat}:PX bs Uu #[I x] w (I (O3 x)):=
 Aq x λwr hx=>by
  refine J1 4 0 rfl (λk=>k<=4/\∀j:Nat,j<k->Z1 x (j:Int)=false) ⟨Qd,λj hj=>Ir hj (Nat.not_lt_zero j)⟩ λk ⟨hk,iQ⟩=>⟨λIT=>?_,λRC=>?_⟩
  ·have IT:=Ot IT;refine⟨_,Ya,λg=>?_,λg=>⟨⟨Qo,Qo⟩,QH Qo ⟨Qo,λj hj=>?_⟩⟩⟩
   ·rw[zz1 Qo iQ g]
   ·by_cases e:j=k
    ·rw[e]; exact g
    ·exact iQ j Qo
  ·have RC:=Ou RC;have:k=4:=Qo;subst this;rw[zz2 iQ]
theorem VJ(W:Q8)(t:Int)(x:KW)(m:MW):Qb (IM W t x) m=Qb W m:=by simp[Qb,IM]
theorem VB{F K:Int}(h:Zj 8 base w W m)(gJ:SF F K W)(hk:F+Qj<=K)(hK:K<=1000000000000000000){t g c:Int}(t0:0<=t)(t1:t<12)(hs:(Q6 W t).state≠0)(hg:Q7 W.IC g=true)(c0:0<=c)(c1:c<(W.ID.length:Int)) :
  Cz XI #[.agg (Qb W m).toArray,I t,I g,I c] w λe w'=>e=.returned (.agg (Qb W m).toArray)/\Mv 8 base [] w m w' (Uq W t g c) m:=by
 refine(zhk _ _ _ _ _ _ _ _ _ _ t g c (R:=λv w'=>v=.agg (Qb W m).toArray/\Mv 8 base [] w m w' (Uq W t g c) m) ?_).mono λe w' ⟨v,he,hv,h3⟩=>⟨by rw[he,hv],h3⟩
 intro y hy y1 aR;obtain⟨g0,g1,_⟩:=Q4.1 hg;have fZ:=gJ.w.a.t;have dD:=gJ.w.a.gl;have hsl:=gJ.w.a.sl hg;have mR:t<(W.tasks.length:Int):=Qo;obtain⟨hu,d0,d1⟩:=gJ.w.t t t0 t1 hs;obtain⟨q0,q1,_⟩:=Q4.1 hu;have hql:=gJ.w.a.sl hu;have s1:=gJ.w.s g c hg c0 c1;have s2:=gJ.w.s _ _ hu d0 d1;have hv:=gJ.w.tv t t0 t1;have hlr:=EY W t;simp only[Qj] at hlr;have hM:=Mv.two h hy aR;have hr:=(Mv.start h).rd;have W8:=hr.t.ix QG t0 mR;have Sk:=h.pN t0 mR (j:=0) (vs:=Xq (Te W t g c)) (x:=Te W t g c) (by simp[Xq]) (by simp[Xq]);have e5:Qb (IM W t (Te W t g c)) m=Qb W m:=VJ _ _ _ _;have e6:Qb (Rp (IM W t (Te W t g c)) c) m=Qb W m:=(UZ (zdv _ _)).trans e5;refine⟨DP W t,Eh hr t0 mR q0 q1 d0 Qo ⟨by show _<=(Q6 W t).v-(Qc W (Q6 W t).group (Q6 W t).J').floor; omega,by show (Q6 W t).v-(Qc W (Q6 W t).group (Q6 W t).J').floor<=_; omega⟩,W8,_,_,_,_,_,_,_,_,_,hr.t t t0 mR,λb2 bR=>⟨hr.g.ix g0 g1,_,_,_,hr.g.Ry g0 g1,(hr.g.IE g g0 g1).ix X7 c0 Qo,(Qc W g c).floor,zpf.f (hr.g.IE g g0 g1) c0 Qo (j:=0) rfl,⟨Qo,Qo⟩,W8,zkh h Qs t0 mR (j:=0) Qd,λg4 wr hx fT=>?_,λg4 wr hx=>⟨rfl,?_⟩⟩⟩
 ·have g4:(Q6 W t).state=1:=Iy g4;have T':=((hM.add bR).Sl Sk Kd).step (hx.of_nil);have Rt:=ZG T'.own (W:=IM W t (Te W t g c)) c0 c1;rw[e5,e6] at Rt;refine I3 Rt ?_;rintro e wv ⟨eH,Sm⟩;refine⟨_,_,_,_,_,_,_,_,_,_,eH,T'.kept Sm fT,λO' Si=>⟨rfl,?_⟩⟩;unfold Uq;rw[C' g4];exact((T'.call Sm fT).step Si).close
 ·have g4:¬(Q6 W t).state=1:=ne_of_beq_false g4;unfold Uq;rw[B' g4];exact((Mv.start h).Sl Sk Kd).M' hx
theorem U4{F K:Int}(h:Zj 8 base w W m)(gJ:SF F K W)(hk:F+Qj<=K)(hK:K<=1000000000000000000) :
  Cz Yz #[.agg (Qb W m).toArray] w λe w'=>e=.returned (.agg (Qb W m).toArray)/\Mv 8 base [] w m w' (Lq W) m:=by
 refine(EK _ _ _ _ _ _ _ _ _ _ (R:=λv w'=>v=.agg (Qb W m).toArray/\Mv 8 base [] w m w' (Lq W) m) ?_).mono λe w' ⟨v,he,hv,h3⟩=>⟨by rw[he,hv],h3⟩
 intro y hy y1 aR;have fZ:=gJ.w.a.t;refine⟨λvs w1=>∃(k:Nat),vs=I (k:Int)::Qb W m/\k<=12/\Mv 8 base [y,y1] w m w1 (XY W k) m,Zx 12 0,λw1 tZ _=>⟨0,rfl,Qd,(Mv.two h hy aR).M' tZ⟩,?_⟩;rintro c1 l RV Sa Sg S3 Sd Sf S4 S5 S8 Rr SR ⟨k,he,tN,hM⟩;obtain⟨hS,hF⟩:=zb0 gJ hk k tN;have SP:XY W (k+1)=if Mh (XY W k) (k:Int)=true then Uq (XY W k) (k:Int) (Q6 (XY W k) (k:Int)).group (O3 (Qn (XY W k) (Q6 (XY W k) (k:Int)).group (Q6 (XY W k) (k:Int)).mask)) else XY W k:=rfl;have nO:k=12->Lq W=XY W k:=λe=>by rw[e]; rfl
 have e0:Qb (XY W k) m=Qb W m:=by simp only[Qb,hF.n,hF.c,hF.t,hF.g]
 have eC:=hF.c;have eT:=hF.t;simp only[Qb,I4,I5,Iv,true_and,and_true] at he;obtain⟨rfl,rfl,⟨rfl,rfl,rfl⟩,⟨rfl,rfl,rfl⟩,rfl,rfl,rfl⟩:=he;generalize XY W k=V at hM hS hF SP nO e0 eC eT;have hr:=hM.rd;refine⟨λIT=>?_,λRC w3 R3=>⟨rfl,?_⟩⟩
 ·have IT:=Ot IT;have t1:(k:Int)<(V.tasks.length:Int):=Qo;have W8:Ix m.tO W.tasks.length (k:Int):=by have:=hr.t.ix QG (i:=(k:Int)) Qo t1; rwa[eT] at this
  have next:∀{w9 w8:Wo},Q0 [y,y1] Rr w9->Mh V (k:Int)=false->(∃(k':Nat),[I ((k:Int)+1),I W.now,.slice m.cO W.ID.length m.cC,.slice m.tO W.tasks.length m.tC,.slice m.gO W.IC.length m.gC]=I (k':Int)::Qb W m/\k'<=12/\Mv 8 base [y,y1] w m w9 (XY W k') m)/\Zx 12 0 [I ((k:Int)+1),I W.now,.slice m.cO W.ID.length m.cC,.slice m.tO W.tasks.length m.tC,.slice m.gO W.IC.length m.gC] w9<Zx 12 0 [I (k:Int),I W.now,.slice m.cO W.ID.length m.cC,.slice m.tO W.tasks.length m.tC,.slice m.gO W.IC.length m.gC] w8:=λ{w9 w8} hx hm=>by
   refine⟨⟨k+1,rfl,Qo,?_⟩,?_⟩
   ·rw[SP,B' (by rw[hm]; decide)];exact hM.step hx
   ·simp only[Zx,Xm,ZP,Ie]; omega
  refine⟨W8,_,zu6.f hr.t Qo t1 (j:=0) rfl,λg=>⟨⟨Qo,Qo⟩,λRn Si _=>next Si (by unfold Mh; rw[show (Q6 V (k:Int)).state=0 from Iy g]; rfl)⟩,λg=>?_⟩;have gX:(Q6 V (k:Int)).state≠0:=ne_of_beq_false g;obtain⟨hu,d0,d1⟩:=hS.w.t (k:Int) Qo Qo gX;have hwh:=JK (g:=(Q6 V (k:Int)).group) (mask:=(Q6 V (k:Int)).mask) hr hS.w.a.c2 hS.w.a.tree hu;rw[e0] at hwh;have hf:=Ly hS.w.a (Q6 V (k:Int)).group (Q6 V (k:Int)).mask;refine⟨W8,_,zu6.f hr.t Qo t1 (j:=1) rfl,W8,_,zu6.f hr.t Qo t1 (j:=4) rfl,_,hwh,W8,_,zu6.f hr.t Qo t1 (j:=2) rfl,_,Ya,λg2=>⟨W8,_,zu6.f hr.t Qo t1 (j:=1) rfl,_,Lc,λRE Sb hZ=>?_⟩,λg2=>⟨⟨Qo,Qo⟩,λRn Si _=>next Si (by unfold Mh; rw[show Z1 (Qn V (Q6 V (k:Int)).group (Q6 V (k:Int)).mask) (Q6 V (k:Int)).J'=true from (by have h:=g2; rw[I6] at h; exact h)]; simp)⟩⟩;have tV:=hM.step Sb;have Rt:=VB tV.own hS hk hK (t:=(k:Int)) (g:=(Q6 V (k:Int)).group) (c:=O3 (Qn V (Q6 V (k:Int)).group (Q6 V (k:Int)).mask)) Qo Qo gX hu hf.1 hf.2;rw[e0] at Rt;refine I3 Rt ?_;rintro e1 RO ⟨eH,dG⟩;refine⟨_,_,_,_,_,_,_,_,_,_,eH,tV.kept dG hZ,⟨Qo,Qo⟩,λRP Wt _=>⟨⟨k+1,rfl,Qo,?_⟩,?_⟩⟩
  ·have hm:Mh V (k:Int)=true:=by
    unfold Mh;rw[A'];exact⟨by simpa using gX,g2⟩
   rw[SP,C' hm];exact(tV.call dG hZ).step Wt
  ·simp only[Zx,Xm,ZP,Ie]; omega
 ·have RC:=Ou RC;rw[nO Qo];exact(hM.step R3).close
section
variable {pb:Nat}
theorem LR{F K:Int}(h:PW base pb w W m)(gJ:SF F K W)(hk:F+Qj<=K)(hK:K<=1000000000000000000){t g c:Int}(t0:0<=t)(t1:t<12)(hs:(Q6 W t).state≠0)(hg:Q7 W.IC g=true)(c0:0<=c)(c1:c<(W.ID.length:Int)) :
  Cz Y3 #[.pointer (pA pb),I t,I g,I c] w λe w'=>e=.returned (.tuple #[])/\Mp base pb [] w m w' (Uq W t g c) m:=by
 refine(NM (pA pb) t g c (R:=λv w'=>v=.tuple #[]/\Mp base pb [] w m w' (Uq W t g c) m) ?_).mono λe w' ⟨v,he,hv,h3⟩=>⟨by rw[he,hv],h3⟩
 obtain⟨g0,g1,_⟩:=Q4.1 hg;have fZ:=gJ.w.a.t;have dD:=gJ.w.a.gl;have hsl:=gJ.w.a.sl hg;have mR:t<(W.tasks.length:Int):=Qo;obtain⟨hu,d0,d1⟩:=gJ.w.t t t0 t1 hs;obtain⟨q0,q1,_⟩:=Q4.1 hu;have hql:=gJ.w.a.sl hu;have s1:=gJ.w.s g c hg c0 c1;have s2:=gJ.w.s _ _ hu d0 d1;have hv:=gJ.w.tv t t0 t1;have hlr:=EY W t;simp only[Qj] at hlr;have hM:=Mp.start h;have hp:=hM.wH;have CR5:=hM.own.pN t0 mR (j:=1) (vs:=[I g]) (x:={ Q6 W t with group:=g }) rfl Qs;have hM1:Mp base pb [] w m _ (IM W t { Q6 W t with group:=g }) m:=hM.Sl CR5 Kd (VJ _ _ _ _);have ht1:t<((IM W t { Q6 W t with group:=g }).tasks.length:Int):=by simpa[IM] using mR
 have e1:gi (IM W t { Q6 W t with group:=g }).tasks t={ Q6 W t with group:=g }:=P5 t0 mR;have Bh7:=hM1.own.pN t0 ht1 (j:=2) (vs:=[I c]) (x:={ Q6 W t with group:=g,J':=c }) (by rw[e1]; rfl) Qs;have T':Mp base pb [] w m _ (IM (IM W t { Q6 W t with group:=g }) t { Q6 W t with group:=g,J':=c }) m:=hM1.Sl Bh7 Kd (VJ _ _ _ _);rw[set_set] at T';have ht2:t<((IM W t { Q6 W t with group:=g,J':=c }).tasks.length:Int):=by simpa[IM] using mR
 have e2:gi (IM W t { Q6 W t with group:=g,J':=c }).tasks t={ Q6 W t with group:=g,J':=c }:=P5 t0 mR;have e2':Q6 (IM W t { Q6 W t with group:=g,J':=c }) t={ Q6 W t with group:=g,J':=c }:=e2;have gW:=T'.wH;have CM5:=LO (t:=t) gW t0 ht2 (by rw[e2']; exact g0) (by rw[e2']; exact g1) (by rw[e2']; exact c0) (by rw[e2']; show c<(((gi W.IC g).IE.length:Nat):Int); omega);rw[e2'] at CM5;have CR6:=T'.own.pN t0 ht2 (j:=5) (vs:=[I ((Qc W g c).floor+DP W t)]) (x:=Te W t g c) (by rw[e2]; rfl) Qs;have cJ:Mp base pb [] w m _ (IM (IM W t { Q6 W t with group:=g,J':=c }) t (Te W t g c)) m:=T'.Sl CR6 Kd (VJ _ _ _ _);rw[set_set] at cJ;have ht3:t<((IM W t (Te W t g c)).tasks.length:Int):=by simpa[IM] using mR
 have e3:gi (IM W t (Te W t g c)).tasks t=Te W t g c:=P5 t0 mR;have hp3:=cJ.wH;have gX:=zu6.f hp3.rd.t t0 ht3 (j:=0) rfl;rw[e3] at gX;refine⟨hp.some,_,_,_,hp.tasks,hp.rd.t.ix QG t0 mR,_,zu6.f hp.rd.t t0 mR (j:=5) rfl,_,LO hp t0 mR q0 q1 d0 Qo,⟨by show _<=(Q6 W t).v-(Qc W (Q6 W t).group (Q6 W t).J').floor; omega,by show (Q6 W t).v-(Qc W (Q6 W t).group (Q6 W t).J').floor<=_; omega⟩,_,Ec hp t0 mR,_,KK,zkh hM.own hM.nb t0 mR (j:=1) Qd,zkh hM1.own hM1.nb t0 ht1 (j:=2) Qd,_,CM5,⟨by show _<=(Qc W g c).floor+DP W t; omega,by show (Qc W g c).floor+DP W t<=_; omega⟩,zkh T'.own T'.nb t0 ht2 (j:=5) Qd,_,gX,λg4=>⟨_,_,Yr,λwr hx _=>?_⟩,λg4 O' hx=>⟨rfl,?_⟩⟩
 ·have g4:(Q6 W t).state=1:=Iy g4;have eD:=cJ.nil hx;refine I3 (YT eD.pw (W:=IM W t (Te W t g c)) c0 c1) ?_;rintro e wv ⟨he,hy⟩;refine⟨he,Z3,λI' RR=>⟨rfl,?_⟩⟩;unfold Uq;rw[C' g4];exact(eD.call hy Qs).nil RR
 ·have g4:¬(Q6 W t).state=1:=ne_of_beq_false g4;unfold Uq;rw[B' g4];exact cJ.nil hx
theorem zah{F K:Int}(h:PW base pb w W m)(gJ:SF F K W)(hk:F+Qj<=K)(hK:K<=1000000000000000000) :
  Cz U0 #[.pointer (pA pb)] w λe w'=>e=.returned (.tuple #[])/\Mp base pb [] w m w' (Lq W) m:=by
 refine(Gu (pA pb) (R:=λv w'=>v=.tuple #[]/\Mp base pb [] w m w' (Lq W) m) ?_).mono λe w' ⟨v,he,hv,h3⟩=>⟨by rw[he,hv],h3⟩
 have fZ:=gJ.w.a.t;have hp:=(Mp.start h).wH;refine⟨hp.some,_,_,_,hp.tasks,?_⟩;refine XL W.tasks.length 0 rfl (λk w2=>k<=12/\Mp base pb [] w m w2 (XY W k) m) (λw2 R0 _=>⟨Qd,(Mp.start h).nil R0⟩) λk w2 SR ⟨tN,hM⟩=>?_
 obtain⟨hS,hF⟩:=zb0 gJ hk k tN;have SP:XY W (k+1)=if Mh (XY W k) (k:Int)=true then Uq (XY W k) (k:Int) (Q6 (XY W k) (k:Int)).group (O3 (Qn (XY W k) (Q6 (XY W k) (k:Int)).group (Q6 (XY W k) (k:Int)).mask)) else XY W k:=rfl;have nO:k=12->Lq W=XY W k:=λe=>by rw[e]; rfl
 have eC:=hF.c;have eT:=hF.t;generalize XY W k=V at hM hS hF SP nO eC eT;have gW:=hM.wH;refine⟨λIT=>?_,λRC w3 R3=>⟨rfl,?_⟩⟩
 ·have IT:=Ot IT;have t1:(k:Int)<(V.tasks.length:Int):=Qo;have W8:=gW.rd.t.ix QG (i:=(k:Int)) Qo t1;rw[eT] at W8;refine⟨W8,_,_,_,_,_,_,_,_,_,gW.rd.t (k:Int) Qo t1,λb hb=>⟨λg=>⟨⟨Qo,Qo⟩,λI' RR _=>Qp Qo ⟨Qo,?_⟩⟩,λg=>?_⟩⟩
  ·rw[SP,B' (by unfold Mh; rw[show (Q6 V (k:Int)).state=0 from Iy g]; simp)];exact hM.nil RR
  have gX:(Q6 V (k:Int)).state≠0:=ne_of_beq_false g;obtain⟨hu,d0,d1⟩:=hS.w.t (k:Int) Qo Qo gX;have hf:=Ly hS.w.a (Q6 V (k:Int)).group (Q6 V (k:Int)).mask;refine⟨_,K4 gW hS.w.a.c2 hS.w.a.tree Qo t1 hu,_,K3,λg2 O' R0 gI=>?_,λg2=>⟨⟨Qo,Qo⟩,λRE Sb _=>Qp Qo ⟨Qo,?_⟩⟩⟩
  ·have hMb:=(hM.add hb).M' R0;refine I3 L8 ?_;rintro e wv ⟨he,hy⟩;refine⟨_,he,Qf hy gI,rfl,λRj R3 fT=>?_⟩;have cJ:=(hMb.M' hy).step R3;refine I3 (LR cJ.pw hS hk hK (t:=(k:Int)) (g:=(Q6 V (k:Int)).group) (c:=O3 (Qn V (Q6 V (k:Int)).group (Q6 V (k:Int)).mask)) Qo Qo gX hu hf.1 hf.2) ?_;rintro e1 RO ⟨eH,dG⟩;refine⟨eH,cJ.kept dG fT,⟨Qo,Qo⟩,λRn Si _=>Qp Qo ⟨Qo,?_⟩⟩
   have hm:Mh V (k:Int)=true:=by
    unfold Mh;rw[A'];exact⟨by simpa using gX,g2⟩
   rw[SP,C' hm];exact((cJ.call dG fT).step Si).close
  ·rw[SP,B' (by unfold Mh; rw[show Z1 (Qn V (Q6 V (k:Int)).group (Q6 V (k:Int)).mask) (Q6 V (k:Int)).J'=true from (by have h:=g2; rw[I6] at h; exact h)]; simp)];exact hM.nil Sb
 ·have RC:=Ou RC;rw[nO Qo];exact hM.nil R3
end
end
theorem Kt{W:Q8}(sw:SW Qq W):SF Qq (Qq+Qj) W:=sw.sf.mono (I2 _) (by simp only[Qj]; decide)
noncomputable def VE(W:Q8)(t x:Int):Int:=if O7 x=false\/x=0 then 1 else if Z4 W t=false then 2 else if QK W=false then 10 else 0
def zfm(W:Q8)(t x:Int):KW:={ Q6 W t with mask:=x }
def zfn(W:Q8)(t x:Int):Q8:=Qh (Lq (IM W t (zfm W t x)))
theorem zmi{W:Q8}{t x:Int}(hW:QB W=true)(hb:VE W t x=0):Z4 W t=true/\SF Qq (Qq+Qj) W/\SF Qq (Qq+Qj) (IM W t (zfm W t x)):=by
 have wp:=Qm.1 hW;unfold VE at hb
 split at hb
 ·cases hb
 ·split at hb
  ·cases hb
  ·rename_i h2
   split at hb
   ·cases hb
   ·rename_i h3;have h1:Z4 W t=true:=by simpa using h2
    have h3:QK W=true:=by simpa using h3
    have sw:=Mi wp (Qm.1 h3);obtain⟨t0,t1,n⟩:=Y0 h1;have hl:=wp.a.t;have hv:=sw.tv t t0 Qo;exact⟨h1,Kt sw,Kt (sw.IM t0 Qo (λ_=>sw.t t t0 Qo n) hv.1 hv.2)⟩
theorem Be{W:Q8}{m:MW}{F K:Int}(sf:SF F K W)(hk:F+Qj<=K):Qb (Lq W) m=Qb W m:=by
 have hF:=(G4 sf hk).2;simp only[Qb,hF.n,hF.c,hF.t,hF.g]
section
variable {base pb:Nat}{W W':Q8}{m:MW}{w:Wo}{bar:Int}
theorem Hn{t x:Int}(h:XF [] w W m)(hl:UG W) :
  Cz VL #[.agg (Qb W m).toArray,I t,I x] w λe w'=>∃v,e=.returned v/\QL (Yv W (VE W t x) (zfn W t x)) w v w':=by
 refine zdf _ _ _ _ _ _ _ _ _ _ t x (R:=λv w'=>QL (Yv W (VE W t x) (zfn W t x)) w v w') ?_;intro y hy y1 aR wr R0 SR;refine I3 (Zi (h.ext R0) hl) ?_;rintro e wv (⟨hW,he,Sm⟩ | ⟨hW,m',he,hM,Sm⟩)
 ·exact⟨_,_,_,_,_,_,_,_,_,_,_,he,Qf Sm SR,false,λg=>by simp at g,λ_ I' R3=>QL.bad hW ((R0.trans Sm).fresh R3 λz hm=>.inl (X4 hy aR z hm)),λg=>by simp at g⟩
 have hK:=Wk.begin hy aR R0 SR hM Sm;have hr:=hK.rd;have vS:((if QK W=true then 0 else 10:Int)==1)=false:=by split <;> rfl
 refine⟨_,_,_,_,_,_,_,_,_,_,_,he,Qf Sm SR,_,λ_=>XA,λg I' R3=>?_,λg0=>⟨_,Ug hr hl.t,λg O' R3=>?_,λg=>⟨λg3 Rn R3=>?_,λg3=>?_⟩⟩⟩
 ·rw[vS] at g;have g:O7 x=false\/x=0:=by simpa using g
  have hb:VE W t x=1:=by unfold VE; rw[C' g]
  exact QL.no hW (by rw[hb]; decide) (hK.step R3) hb
 ·rw[vS] at g0;have g0:¬(O7 x=false\/x=0):=by simpa using g0
  have g:Z4 W t=false:=by simpa using g
  have hb:VE W t x=2:=by unfold VE; rw[B' g0,C' g]
  exact QL.no hW (by rw[hb]; decide) (hK.step R3) hb
 ·rw[vS] at g0;have g0:¬(O7 x=false\/x=0):=by simpa using g0
  have g:Z4 W t=true:=by simpa using g
  have bQ:¬QK W=true:=λhr=>by rw[C' hr] at g3; simp at g3
  have hb:VE W t x=10:=by unfold VE; rw[B' g0,B' (by rw[g]; decide),C' (by simpa using bQ)]
  rw[B' bQ];exact QL.no hW (by rw[hb]; decide) (hK.step R3) hb
 rw[vS] at g0;have g0:¬(O7 x=false\/x=0):=by simpa using g0
 have g:Z4 W t=true:=by simpa using g
 have bQ:QK W=true:=Iq λhr=>by rw[B' hr] at g3; simp at g3
 have hb:VE W t x=0:=by unfold VE; rw[B' g0,B' (by rw[g]; decide),B' (by rw[bQ]; decide)]
 obtain⟨_,sf0,sf⟩:=zmi hW hb;obtain⟨t0,t1,tn⟩:=Y0 g;have Sk:Wk 8 [y,y1] w (R5 wv m'.tO (Int.toNat t*9+4) [I x]) (IM W t (zfm W t x)) m':=hK.R5 (hK.own.pN t0 t1 (j:=4) (vs:=[I x]) (x:=zfm W t x) rfl Qs) Kd;refine⟨hr.t.ix QG t0 t1,zkh hK.own hK.nb t0 t1 (j:=4) Qd,λRn Si fT=>?_⟩;have e5:Qb (IM W t (zfm W t x)) m'=Qb W m':=VJ _ _ _ _;have hE:zfn W t x=Qh (Lq (IM W t (zfm W t x))):=rfl;rw[hE];generalize IM W t (zfm W t x)=V at Sk sf e5;have fN:=Sk.step Si;have Rt:=U4 fN.own sf (I2 _) (by simp only[Qj]; decide);rw[e5] at Rt;refine I3 Rt ?_;rintro e1 R1 ⟨eH,dG⟩;refine⟨_,_,_,_,_,_,_,_,_,_,eH,fN.kept dG fT,λRE Sb hZ=>?_⟩;have fG:=(fN.Sl dG fT).step Sb;have aK:=Qy fG.own (G4 sf (I2 _)).1.w (by simp only[Qj]; decide) (by simp only[Qj]; decide) fG.base;rw[Be sf (I2 _),e5] at aK;refine I3 aK ?_;rintro e2 Rr ⟨m2,aM,fL⟩;exact⟨_,_,_,_,_,_,_,_,_,_,aM,fG.kept fL hZ,λRP Wt=>QL.ok hW hb ((fG.Sl fL hZ).step Wt)⟩
theorem zn0{cap cap1:OA}{t x:Int}(h:PW base pb w W m)(hW:QB W=true)(c0:Q1 [] w cap 0 [I x])(c1:Q1 [] w cap1 0 [I t]) :
  Cz Ur #[.pointer (pA pb),.pointer cap,.pointer cap1] w λe w2=>(VE W t x≠0/\e=.returned (.iface Qi (.agg #[I (VE W t x)]))/\Q0 [] w w2)\/(VE W t x=0/\e=.returned .nilIface/\∃m2,Ki base pb [] w m w2 (zfn W t x) m2):=by
 have wp:=Qm.1 hW;have hM:=Mp.start h;have hp:=hM.wH
 refine(NL (pA pb) cap cap1 (R:=λv w2=>(VE W t x≠0/\v=.iface Qi (.agg #[I (VE W t x)])/\Q0 [] w w2)\/(VE W t x=0/\v=.nilIface/\∃m2,Ki base pb [] w m w2 (zfn W t x) m2)) ?_).mono λe w' ⟨v,he,h3⟩=>by
  rw[he];rcases h3 with ⟨a,b,c⟩ | ⟨a,b,c⟩
  ·exact .inl ⟨a,by rw[b],c⟩
  ·exact .inr ⟨a,by rw[b],c⟩
 refine⟨x,c0,_,VS,λg wr hx=>.inl ?_,λgn=>⟨t,c1,_,JJ hp (by have:=wp.a.t; have:=Zg; omega),λg wr hx=>.inl ?_,λg=>⟨_,TX hp wp.a,λg3 wr hx=>.inl ?_,λg3=>⟨hp.some,_,_,_,hp.tasks,t,c1,x,c0,?_⟩⟩⟩⟩
 ·have g:O7 x=false\/x=0:=by simp at g; exact g.symm
  have hb:VE W t x=1:=by unfold VE; rw[C' g]
  rw[hb];exact⟨Qd,rfl,hx⟩
 ·have g0:¬(O7 x=false\/x=0):=by simp at gn; rintro (e | e); (rw[gn.2] at e; cases e); exact gn.1 e
  have g:Z4 W t=false:=by unfold Z4; simpa only[IB] using g
  have hb:VE W t x=2:=by unfold VE; rw[B' g0,C' g]
  rw[hb];exact⟨Qd,rfl,hx⟩
 ·have g0:¬(O7 x=false\/x=0):=by simp at gn; rintro (e | e); (rw[gn.2] at e; cases e); exact gn.1 e
  have g:Z4 W t=true:=by unfold Z4; simpa only[I6] using g
  have hb:VE W t x=10:=by unfold VE; rw[B' g0,B' (by rw[g]; decide),C' (by simpa using g3)]
  rw[hb];exact⟨Qd,rfl,hx⟩
 have g0:¬(O7 x=false\/x=0):=by simp at gn; rintro (e | e); (rw[gn.2] at e; cases e); exact gn.1 e
 have g:Z4 W t=true:=by unfold Z4; simpa only[I6] using g
 have hb:VE W t x=0:=by unfold VE; rw[B' g0,B' (by rw[g]; decide),B' (by rw[show QK W=true by simpa using g3]; decide)]
 obtain⟨_,sf0,sf⟩:=zmi hW hb;obtain⟨t0,t1,tn⟩:=Y0 g;have hM1:Mp base pb [] w m _ (IM W t (zfm W t x)) m:=hM.Sl (hM.own.pN t0 t1 (j:=4) (vs:=[I x]) (x:=zfm W t x) rfl Qs) Kd (VJ _ _ _ _);have hE:zfn W t x=Qh (Lq (IM W t (zfm W t x))):=rfl;rw[hE];refine⟨hp.rd.t.ix QG t0 t1,zkh hM.own hM.nb t0 t1 (j:=4) Qd,λRj R3 _=>?_⟩;generalize IM W t (zfm W t x)=V at hM1 sf;have T':=hM1.nil R3;refine I3 (zah T'.pw sf (I2 _) (by simp only[Qj]; decide)) ?_;rintro e wv ⟨he,hy⟩;refine⟨he,Z3,λRn Si _=>?_⟩;have cJ:=(T'.call hy Qs).nil Si;refine I3 (Jt cJ.pw (G4 sf (I2 _)).1.w (by simp only[Qj]; decide) (by simp only[Qj]; decide)) ?_;rintro e1 Rr ⟨eH,aR⟩;exact⟨eH,Z3,λRE Sb=>.inr ⟨hb,rfl,m,((cJ.call aR Qs).nil Sb).done⟩⟩
theorem zd7{t x:Int}(h:XF [] w W m)(hl:UG W)(hg:Vw w) :
  Cz PP #[.agg (Qb W m).toArray,I t,I x] w λe w'=>∃v,e=.returned v/\QL (Yv W (VE W t x) (zfn W t x)) w v w':=by
 refine zdb _ _ _ _ _ _ _ _ _ _ t x (R:=λv w'=>QL (Yv W (VE W t x) (zfn W t x)) w v w') ?_;intro y hy b1 wb RR fQ hc hn b2 lY hxb bR hc2 hn2 b3 wC wr R0 hs;have hX0:Q0 [] w lY:=RR.fresh hxb λz hz=>.inl (O0 hz hy)
 have hX:Q0 [] w wr:=hX0.fresh R0 λz hz=>.inl (O0 hz hy)
 have c1:=Qg (Qg hc hxb hn) R0 hn;have c2:=Qg hc2 R0 hn2;refine I3 (L7 (bar:=VE W t x) (W':=zfn W t x) (h.ext hX) hl (hg.ext hX) λw1 pb m1 hW R3 hpb hP=>.inl ⟨Ur,_,rfl,zn0 hP hW (Ym (Qg c2 R3 Qs) Qs (k0:=0) rfl) (Ym (Qg c1 R3 Qs) Qs (k0:=0) rfl)⟩) ?_;rintro e wv ⟨v,he,n',m',hv,hM,Sm⟩;subst hv;refine⟨_,_,_,_,_,_,_,_,_,_,_,he,Qf Sm hs,λI' Si=>⟨n',m',rfl,(hM.ext Si λz hz hm=>?_).mono hX.size,(hX.trans Sm).fresh Si λz hm=>?_⟩⟩
 ·have:=(hM.lt z hz).1;have:=hs z hm;omega
 ·simp only[Ii,List.not_mem_nil,or_false] at hm;rcases hm with rfl | rfl
  ·exact .inl hy
  ·exact .inl (IA hX0.size wC)
def zlp(W:Q8)(g x:Int):ZX:={ gi W.IC g with ID:=x }
noncomputable def zns(W:Q8)(g x:Int):Int:=KI W g (O7 x&&(x != 0))
def zwf(W:Q8)(g x:Int):Q8:=Qh (Lq (Rm W g (zlp W g x)))
theorem zwg{W:Q8}{g x:Int}(hW:QB W=true)(hb:zns W g x=0):Q7 W.IC g=true/\QK W=true/\SF Qq (Qq+Qj) W/\SF Qq (Qq+Qj) (Rm W g (zlp W g x))/\Z7 W.IC (Rm W g (zlp W g x)).IC:=by
 obtain⟨h1,h2,h3,h4⟩:=zlq hb;have wp:=Qm.1 hW;have sw:=Mi wp (Qm.1 h4);obtain⟨u0,u1,hg⟩:=wp.a.u h3;have hl:=wp.a.gl;simp only[A',It,ne_eq] at h1;exact⟨h3,h4,Kt sw,Kt (sw.Rm (x:=zlp W g x) h3 rfl rfl rfl rfl ⟨hg.w1,hg.w2,h1.1,h1.2,hg.s,hg.len,λh=>Ir h h2,hg.none,hg.IS⟩),Uj u0 Qo rfl rfl rfl⟩
theorem zai{g x:Int}(h:XF [] w W m)(hl:UG W) :
  Cz OG #[.agg (Qb W m).toArray,I g,I x] w λe w'=>∃v,e=.returned v/\QL (Yv W (zns W g x) (zwf W g x)) w v w':=by
 refine CY _ _ _ _ _ _ _ _ _ _ g x (R:=λv w'=>QL (Yv W (zns W g x) (zwf W g x)) w v w') ?_;intro y hy y1 aR;refine⟨_,XA,λwr R0 SR=>?_⟩;refine I3 (VU (g:=g) (ok:=O7 x&&(x != 0)) (h.ext R0) hl) ?_;rintro e wv (⟨hW,he,Sm⟩ | ⟨hW,m',he,hM,Sm⟩)
 ·exact⟨_,_,_,_,_,_,_,_,_,_,_,he,Qf Sm SR,λ_ I' R3=>QL.bad hW ((R0.trans Sm).fresh R3 λz hm=>.inl (X4 hy aR z hm)),λg=>by simp at g⟩
 have hK:=Wk.begin hy aR R0 SR hM Sm;refine⟨_,_,_,_,_,_,_,_,_,_,_,he,Qf Sm SR,λg1 I' R3=>QL.no hW (by simpa[zns] using g1) (hK.step R3) rfl,λg1=>?_⟩;have hb:zns W g x=0:=by simpa[zns] using g1
 have hr:=hK.rd;obtain⟨hu,AD5,sf0,sf,hT⟩:=zwg hW hb;obtain⟨u0,u1,_⟩:=Q4.1 hu;have dD:=sf0.w.a.gl;have Sk:Wk 8 [y,y1] w (R5 wv m'.gO (Int.toNat g*14+4) [I x]) (Rm W g (zlp W g x)) m':=hK.R5 (hK.own.A23 u0 Qo (g:=zlp W g x) rfl rfl rfl (j:=4) (vs:=[I x]) rfl Qs) zbf;refine⟨hr.g.ix (i:=g) u0 u1,zs7 hK.own hK.nb (i:=g) u0 Qo (j:=4) (k:=1) Qd,λRn Si fT=>?_⟩;have e5:Qb (Rm W g (zlp W g x)) m'=Qb W m':=by simp[Qb,Rm]
 have hE:zwf W g x=Qh (Lq (Rm W g (zlp W g x))):=rfl;rw[hE];generalize Rm W g (zlp W g x)=V at Sk sf e5;have fN:=Sk.step Si;have Rt:=U4 fN.own sf (I2 _) (by simp only[Qj]; decide);rw[e5] at Rt;refine I3 Rt ?_;rintro e1 R1 ⟨eH,dG⟩;refine⟨_,_,_,_,_,_,_,_,_,_,eH,fN.kept dG fT,λRE Sb hZ=>?_⟩;have fG:=(fN.Sl dG fT).step Sb;have aK:=Qy fG.own (G4 sf (I2 _)).1.w (by simp only[Qj]; decide) (by simp only[Qj]; decide) fG.base;rw[Be sf (I2 _),e5] at aK;refine I3 aK ?_;rintro e2 Rr ⟨m2,aM,fL⟩;exact⟨_,_,_,_,_,_,_,_,_,_,aM,fG.kept fL hZ,λRP Wt=>QL.ok hW hb ((fG.Sl fL hZ).step Wt)⟩
theorem zua{x:Int}{bs:List Nat}:PX bs YN #[I x] w (.bool (O7 x&&(x != 0))):=by
 rw[Bool.and_comm];exact VS
end
def z08(W:Q8)(c:Int)(j:Nat):Bool:=((Q6 W (j:Int)).state==1)&&((Q6 W (j:Int)).J'==c)
def zbd(W:Q8)(c:Int)(j:Nat):Int:=if z08 W c j=true then 1 else 0
def By(W:Q8)(c:Int)(j:Nat):Int:=if z08 W c j=true then (Q6 W (j:Int)).load else 0
def zbe(W:Q8)(c:Int):Int:=XZ (zbd W c) W.tasks.length
def zeo(W:Q8)(c:Int):Int:=XZ (By W c) W.tasks.length
def zoa(W:Q8)(a b:Int):Bool:=decide (zeo W a<zeo W b)||((zeo W a==zeo W b)&&decide (zbe W a<zbe W b))
def Tt(W:Q8)(m:Int):Nat->Int
 | 0 => -1
 | k+1=>if (Z1 m (k:Int)&&(decide (Tt W m k<0)||zoa W (k:Int) (Tt W m k)))=true then (k:Int) else Tt W m k
def Up(W:Q8)(m:Int):Int:=Tt W m W.ID.length
theorem BS{W:Q8}{m:Int}{k:Nat}(h:(Z1 m (k:Int)&&(decide (Tt W m k<0)||zoa W (k:Int) (Tt W m k)))=true):Tt W m (k+1)=(k:Int):=C' h
theorem BR{W:Q8}{m:Int}{k:Nat}(h:(Z1 m (k:Int)&&(decide (Tt W m k<0)||zoa W (k:Int) (Tt W m k)))=false):Tt W m (k+1)=Tt W m k:=B' (by rw[h]; decide)
theorem Fh(W:Q8)(m:Int):∀k:Nat,-1<=Tt W m k/\Tt W m k<(k:Int)/\(0<=Tt W m k->Z1 m (Tt W m k)=true)
 | 0=>⟨I2 _,by show (-1:Int)<0; decide,λh=>by have:(0:Int)<=-1:=h; omega⟩
 | k+1=>by
  have ih:=Fh W m k;simp only[Tt];split
  ·rename_i h;simp only[A'] at h;exact⟨Qo,Qo,λ_=>h.1⟩
  ·exact⟨ih.1,Qo,ih.2.2⟩
theorem zjs{W:Q8}{m:Int}{j:Nat}(h:Z1 m (j:Int)=true):∀k:Nat,j<k->0<=Tt W m k
 | 0,hk=>Ir hk (Nat.not_lt_zero j)
 | k+1,hk=>by
  by_cases e:j=k
  ·subst e
   by_cases hn:Tt W m j<0
   ·rw[BS (by rw[h,Ih hn]; rfl)]; omega
   ·simp only[Tt]; split <;> omega
  ·have:=zjs (W:=W) h k Qo;simp only[Tt]
   split <;> omega
theorem zxk{W:Q8}(ha:WA W){m:Int}(hm:O7 m=true)(h0:m≠0)(hs:∀c:Int,Z1 m c=true->0<=c/\c<(W.ID.length:Int)):0<=Up W m/\Up W m<(W.ID.length:Int)/\Z1 m (Up W m)=true:=by
 have hf:=BD hm h0;have hr:=hs _ hf;have e:((O3 m).toNat:Int)=O3 m:=Qo;have h1:=zjs (W:=W) (m:=m) (j:=(O3 m).toNat) (by rw[e]; exact hf) W.ID.length Qo;have h2:=Fh W m W.ID.length;exact⟨h1,h2.2.1,h2.2.2 h1⟩
theorem Ln{W:Q8}(ha:WA W)(g mask:Int):0<=Up W (Qn W g mask)/\Up W (Qn W g mask)<(W.ID.length:Int)/\Z1 (Qn W g mask) (Up W (Qn W g mask))=true:=
 zxk ha (Kh ha g mask).1 (Kh ha g mask).2 λ_ h=>KE ha h
def Lg(m:Int):Nat->Int
 | 0=>0
 | k+1=>if Z1 m (k:Int)=true then Lg m k+1 else Lg m k
theorem F0(m:Int):∀k:Nat,0<=Lg m k/\Lg m k<=(k:Int)
 | 0=>by simp[Lg]
 | k+1=>by
  have:=F0 m k;simp only[Lg]
  split <;> omega
def z1d(W:Q8):Prop:=∀t:Int,0<=t->t<12->0<=(Q6 W t).load/\(Q6 W t).load<=8000000
theorem zep{W:Q8}(wp:Jq W):z1d W:=λt t0 t1=>by
 rcases wp.t t t0 t1 with h | ⟨_,h⟩
 ·rw[h.2]; decide
 ·exact⟨h.l1,h.l2⟩
theorem zqv(W:Q8)(c:Int)(j:Nat):0<=zbd W c j/\zbd W c j<=1:=by unfold zbd; split <;> omega
theorem zfq{W:Q8}(c:Int)(k:Nat):0<=XZ (zbd W c) k/\XZ (zbd W c) k<=(k:Int)*1:=Th (zqv W c) k
theorem EZ{W:Q8}(hl:z1d W)(c:Int):∀k:Nat,k<=12->0<=XZ (By W c) k/\XZ (By W c) k<=(k:Int)*8000000
 | 0,_=>by simp[XZ]
 | k+1,hk=>by
  have ih:=EZ hl c k Qo;have h1:=hl (k:Int) Qo Qo;simp only[XZ];have h2:0<=By W c k/\By W c k<=8000000:=by unfold By; split <;> omega
  omega
section
variable {W:Q8}{m:MW}{w:Wo}{bs:List Nat}{p:OA}
theorem M2{c:Int}(h:XF bs w W m)(fZ:W.tasks.length=12):PX bs JH #[.agg (Qb W m).toArray,I c] w (I (zbe W c)):=
 za3 _ _ _ _ _ _ _ _ _ _ c λwr hx=>by
  have h:=(h.ext hx).less (cs:=[]) Qs;intro _ _;refine PF W.tasks.length 0 rfl (λx k=>k<=W.tasks.length/\x=XZ (zbd W c) k) ⟨Ic _,rfl⟩ λx k ⟨hk,R0⟩=>⟨λIT=>?_,λRC=>?_⟩
  ·have IT:=Ot IT;have hr:=zfq (W:=W) c k;refine⟨h.t.ix QG Qo IT,_,h.t.f Qo IT (j:=0) rfl,λ_=>h.t.ix QG Qo IT,_,λ_=>h.t.f Qo IT (j:=2) rfl,λg2=>⟨⟨Qo,Qo⟩,⟨Qo,Qo⟩,QP Qo ⟨Qo,?_⟩⟩,λg2=>⟨⟨Qo,Qo⟩,QP Qo ⟨Qo,?_⟩⟩⟩
   ·have g2:z08 W c k=true:=g2;simp only[XZ,zbd]; rw[C' g2,R0]
   ·have g2:z08 W c k=false:=g2;simp only[XZ,zbd]; rw[B' (by rw[g2]; decide),R0,Int.add_zero]
  ·have RC:=Ou RC;have:k=W.tasks.length:=Qo;subst this;rw[R0]; rfl
theorem VT{c:Int}(h:XF bs w W m)(fZ:W.tasks.length=12)(hl:z1d W):PX bs XC #[.agg (Qb W m).toArray,I c] w (I (zeo W c)):=
 za1 _ _ _ _ _ _ _ _ _ _ c λwr hx=>by
  have h:=(h.ext hx).less (cs:=[]) Qs;intro _ _;refine PF W.tasks.length 0 rfl (λx k=>k<=W.tasks.length/\x=XZ (By W c) k) ⟨Ic _,rfl⟩ λx k ⟨hk,R0⟩=>⟨λIT=>?_,λRC=>?_⟩
  ·have IT:=Ot IT;have hr:=EZ hl c k Qo;have mR:=hl (k:Int) Qo Qo;refine⟨h.t.ix QG Qo IT,_,h.t.f Qo IT (j:=0) rfl,λ_=>h.t.ix QG Qo IT,_,λ_=>h.t.f Qo IT (j:=2) rfl,λg2=>⟨h.t.ix QG Qo IT,(Q6 W (k:Int)).load,h.t.f Qo IT (j:=8) rfl,⟨Qo,Qo⟩,⟨Qo,Qo⟩,QP Qo ⟨Qo,?_⟩⟩,λg2=>⟨⟨Qo,Qo⟩,QP Qo ⟨Qo,?_⟩⟩⟩
   ·have g2:z08 W c k=true:=g2;simp only[XZ,By]; rw[C' g2,R0]
   ·have g2:z08 W c k=false:=g2;simp only[XZ,By]; rw[B' (by rw[g2]; decide),R0,Int.add_zero]
  ·have RC:=Ou RC;have:k=W.tasks.length:=Qo;subst this;rw[R0]; rfl
theorem Gh{x:Int}(h:XF bs w W m)(ha:WA W)(hl:z1d W):PX bs V8 #[.agg (Qb W m).toArray,I x] w (I (Up W x)):=
 za2 _ _ _ _ _ _ _ _ _ _ x λwr hx=>by
  have h:=(h.ext hx).less (cs:=[]) Qs;have tL:=ha.c2;have fZ:=ha.t;intro _ _;refine PF W.ID.length 0 rfl (λb k=>k<=W.ID.length/\b=Tt W x k) ⟨Ic _,rfl⟩ λb k ⟨hk,hb⟩=>⟨λIT=>?_,λRC=>?_⟩
  ·have IT:=Ot IT;have key:(((decide (b<0))||(decide (zeo W (k:Int)<zeo W b)))||((zeo W (k:Int)==zeo W b)&&(decide (zbe W (k:Int)<zbe W b))))=(decide (Tt W x k<0)||zoa W (k:Int) (Tt W x k)):=by rw[hb,Bool.or_assoc]; rfl
   refine⟨_,Ya,λg=>⟨⟨Qo,Qo⟩,QP Qo ⟨Qo,?_⟩⟩,λg=>⟨_,λ_=>VT h fZ hl,_,λ_=>VT h fZ hl,_,λ_=>VT h fZ hl,_,λ_=>VT h fZ hl,_,λ_ _=>M2 h fZ,_,λ_ _=>M2 h fZ,λg2=>⟨⟨Qo,Qo⟩,QP Qo ⟨Qo,?_⟩⟩,λg2=>⟨⟨Qo,Qo⟩,QP Qo ⟨Qo,?_⟩⟩⟩⟩
   ·have g:Z1 x (k:Int)=false:=by simpa using g
    rw[hb,BR (by rw[g]; rfl)]
   ·have g:Z1 x (k:Int)=true:=by simpa using g
    rw[BS (by rw[g,<-key,g2]; rfl)]
   ·have g:Z1 x (k:Int)=true:=by simpa using g
    rw[hb,BR (by rw[g,<-key,g2]; rfl)]
  ·have RC:=Ou RC;have:k=W.ID.length:=Qo;subst this;rw[hb]; rfl
theorem A6{x:Int}:PX bs TL #[I x] w (I (Lg x 4)):=
 Ap x λwr hx=>by
  refine PF 4 0 rfl (λn k=>k<=4/\n=Lg x k) ⟨Qd,rfl⟩ λn k ⟨hk,hn⟩=>⟨λIT=>?_,λRC=>?_⟩
  ·have IT:=Ot IT;have hr:=F0 x k;refine⟨_,Ya,λg=>⟨⟨Qo,Qo⟩,⟨Qo,Qo⟩,QP Qo ⟨Qo,?_⟩⟩,λg=>⟨⟨Qo,Qo⟩,QP Qo ⟨Qo,?_⟩⟩⟩
   ·simp only[Lg]; rw[C' g,hn]
   ·simp only[Lg]; rw[B' (by rw[g]; decide),hn]
  ·have RC:=Ou RC;have:k=4:=Qo;subst this;rw[hn]
end
def zbs(n:Int):Int:=if X6 n 1 4=true then (if n=1 then 0 else if n=2 then 1 else 2) else 0
theorem zt8{n:Int}(h:X6 n 1 4=true):(n=1/\zbs n=0)\/(n=2/\zbs n=1)\/(n=3/\zbs n=2)\/(n=4/\zbs n=2):=by
 have:=Qx.1 h;have:n=1\/n=2\/n=3\/n=4:=Qo;rcases this with rfl | rfl | rfl | rfl
 ·exact .inl ⟨rfl,Qd⟩
 ·exact .inr (.inl ⟨rfl,Qd⟩)
 ·exact .inr (.inr (.inl ⟨rfl,Qd⟩))
 ·exact .inr (.inr (.inr ⟨rfl,Qd⟩))
def zw4(c lv j:Int):Bool:=Int.fdiv j (2 ^ (min (Int.toNat (lv+1)) 64))==Int.fdiv c (2 ^ (min (Int.toNat (lv+1)) 64))
def zxu(c lv:Int):Nat->Int
 | 0=>0
 | k+1=>if zw4 c lv (k:Int)=true then zxu c lv k+UC k else zxu c lv k
theorem zxv(c lv:Int):∀k:Nat,k<=4->0<=zxu c lv k/\zxu c lv k<UC k
 | 0,_=>by simp[zxu,UC]
 | k+1,h=>by
  have ih:=zxv c lv k Qo
  have hb:UC (k+1)=2*UC k/\0<=UC k:=by
   have:k=0\/k=1\/k=2\/k=3:=Qo;rcases this with rfl | rfl | rfl | rfl <;> decide
  simp only[zxu]
  split <;> omega
def Az(n c lv:Int):Bool:=(X6 n 1 4&&X6 c 0 (n-1))&&X6 lv 0 (zbs n-1)
def z3z(n c lv:Int):Int:=if Az n c lv=true then zxu c lv n.toNat else 0
section
variable {w:Wo}{bs:List Nat}{n c lv:Int}
theorem zz0{n:Int}{k:Nat}(h:X6 n 1 4=true)(hk:(k:Int)<=zbs n):(decide ((1*2 ^ (min (Int.toNat (k:Int)) 64):Int)<n)=true->(k:Int)+1<=zbs n)/\(decide ((1*2 ^ (min (Int.toNat (k:Int)) 64):Int)<n)=false->(k:Int)=zbs n):=by
 rcases zt8 h with ⟨rfl,e⟩ | ⟨rfl,e⟩ | ⟨rfl,e⟩ | ⟨rfl,e⟩ <;> rw[e] at hk ⊢
 ·have:k=0:=Qo;subst this; decide
 ·have:k=0\/k=1:=Qo;rcases this with rfl | rfl <;> decide
 ·have:k=0\/k=1\/k=2:=Qo;rcases this with rfl | rfl | rfl <;> decide
 ·have:k=0\/k=1\/k=2:=Qo;rcases this with rfl | rfl | rfl <;> decide
theorem zsb(n:Int):0<=zbs n/\zbs n<=2:=by
 unfold zbs;split
 ·split
  ·omega
  ·split <;> omega
 ·omega
theorem Mg:PX bs Jc #[I n] w (I (zbs n)):=
 DU n λwr hx=>by
  refine⟨_,Qu,λq=>?_,λq=>?_⟩
  ·have q:X6 n 1 4=false:=by simpa using q
   have:zbs n=0:=B' (by rw[q]; decide);rw[this]
  ·have q:X6 n 1 4=true:=by simpa using q
   have hl:=zsb n;refine⟨λvs=>∃k:Nat,vs=[I (k:Int)]/\(k:Int)<=zbs n,λvs=>(2-ZP 0 vs).toNat,⟨0,rfl,hl.1⟩,?_⟩;rintro k' ⟨k,he,hk⟩;simp only[I4,I5,true_and,and_true] at he;subst he;have hb:=NI (k:=k) Qo;have fR:(1*2 ^ (min (Int.toNat (k:Int)) 64):Int)=UC k:=rfl;obtain⟨s1,s2⟩:=zz0 q hk;refine⟨⟨Qo,Qo⟩,⟨Qo,by rw[fR]; exact⟨Qo,Qo⟩⟩,λg=>⟨⟨Qo,Qo⟩,⟨k+1,Qs,by have:=s1 g; omega⟩,?_⟩,λg=>by rw[<-s2 g]⟩;have:=s1 g;show (2-((k:Int)+1)).toNat<(2-(k:Int)).toNat;omega
theorem zux(h:Az n c lv=true):X6 n 1 4=true/\0<=c/\c<n/\0<=lv/\lv<=1:=by
 unfold Az at h;simp only[A'] at h;have h1:=Qx.1 h.1.2;have h2:=Qx.1 h.2;have:=zsb n;exact⟨h.1.1,h1.1,Qo,h2.1,Qo⟩
theorem Bp:PX bs T5 #[I n,I c,I lv] w (I (z3z n c lv)):=
 BO n c lv λwr hx=>by
  have hl:=zsb n
  have e:(((!X6 n 1 4)||(!X6 c 0 (n-1)))||(!X6 lv 0 (zbs n-1))) = !Az n c lv:=by
   unfold Az; rw[Bool.not_and,Bool.not_and]
  refine⟨_,Qu,λq=>?_,_,λ_=>Qu,_,λ_=>Mg,λ_=>⟨Qo,Qo⟩,_,λ_=>Qu,λq=>?_,λq=>?_⟩
  ·have q:=Qx.1 (by simpa using q:X6 n 1 4=true);exact⟨Qo,Qo⟩
  ·rw[e] at q;have:z3z n c lv=0:=B' (by simpa using q);rw[this]
  ·rw[e] at q;have q:Az n c lv=true:=by simpa using q
   obtain⟨h1,c0,c1,l0,l1⟩:=zux q;have hn:=Qx.1 h1;obtain⟨N,rfl⟩:∃N:Nat,n=(N:Int):=⟨n.toNat,Qo⟩;have hD:z3z (N:Int) c lv=zxu c lv N:=by unfold z3z; rw[C' q,Ig]
   rw[hD];refine PF N 0 rfl (λx k=>k<=N/\x=zxu c lv k) ⟨Ic _,rfl⟩ λx k ⟨hk,R0⟩=>⟨λIT=>?_,λRC=>?_⟩
   ·have IT:=Ot IT;have hb:=NI (k:=k) Qo;have hs:=zxv c lv k Qo;have fR:(1*2 ^ (min (Int.toNat (k:Int)) 64):Int)=UC k:=rfl;refine⟨⟨Qo,Qo⟩,⟨Qo,Qo⟩,Qo,⟨Qo,Qo⟩,⟨Qo,Qo⟩,Qo,λhu=>?_,λhu=>?_⟩
    ·rw[fR,R0];refine⟨⟨Qo,Qo⟩,⟨Qo,Qo,Qo⟩,⟨Qo,Qo⟩,⟨Qo,Qo⟩,QP Qo ⟨Qo,?_⟩⟩;simp only[zxu]; rw[C' (show zw4 c lv (k:Int)=true from hu)]
    ·refine⟨⟨Qo,Qo⟩,QP Qo ⟨Qo,?_⟩⟩;rw[R0]; simp only[zxu]; rw[B' (by rw[show zw4 c lv (k:Int)=false from hu]; decide)]
   ·have RC:=Ou RC;have:k=N:=Qo;subst this;rw[R0]
end
def zbh(W:Q8)(g:Int):List Int:=Zd W.IC g++[0]
def zv4(W:Q8)(g c:Int):Bool:=(zbh W g).any λx=>UD W x c
theorem zo9(W:Q8):zbh W 0=[0]:=by unfold zbh; rw[show Zd W.IC 0=[] from Zs W.IC 3]; rfl
theorem zpa{W:Q8}(ht:Ye W.IC){g:Int}(hu:Q7 W.IC g=true)(hz:g≠0):zbh W g=g::zbh W (gi W.IC g).parent:=by
 unfold zbh;rw[YU ht hu hz,List.cons_append]
theorem zyf{W:Q8}(ht:Ye W.IC){g:Int}(hu:Q7 W.IC g=true):∀x∈zbh W g,Q7 W.IC x=true:=by
 have hr:Q7 W.IC 0=true:=Q4.2 ⟨Qd,by have:=ht.len; omega,ht.ru⟩;refine K7 ht (Q:=λh=>∀x∈zbh W h,Q7 W.IC x=true) ?_ (λh hu hz ih=>?_) g hu
 ·rw[zo9];intro x hx;have:x=0:=by simpa using hx
  rw[this]; exact hr
 ·rw[zpa ht hu hz];intro x hx;rcases Ii.1 hx with rfl | hx
  ·exact hu
  ·exact ih x hx
theorem zfj(gs:List ZX):∀(f:Nat) (g:Int),(Vj f gs g).length<=f
 | 0,_=>I7 _
 | f+1,g=>by
  simp only[Vj];split
  ·simp
  ·have:=zfj gs f (gi gs g).parent;simp; omega
theorem zs3(W:Q8)(g:Int):(zbh W g).length<=4:=by
 unfold zbh;have:=zfj W.IC 3 g;simp; omega
def Vm(W:Q8)(t c:Int):Bool:=
 (!(((((((Q6 W t).state != 1)||((Q6 W t).J'==c))||((gi W.ID (Q6 W t).J').cur==t))||(!ZL W t))||(!Z1 (Qn W (Q6 W t).group (Q6 W t).mask) c)))) && !zv4 W (Q6 W t).group c
def ztb(W:Q8)(b c:Int):Bool:=Oe (λt=>((Q6 W (t:Int)).J'==b)&&Vm W (t:Int) c) 12
theorem AN{W:Q8}{t c:Int}(h:Vm W t c=true):(Q6 W t).state=1/\(Q6 W t).J'≠c:=by
 unfold Vm at h;simp only[A',IB,H',bne_eq_false_iff_eq,beq_eq_false_iff_ne] at h;exact⟨h.1.1.1.1.1,h.1.1.1.1.2⟩
section
variable {W:Q8}{m:MW}{w:Wo}{bs:List Nat}{p:OA}
def zor(W:Q8)(g:Int):List Int:=if g=0 then [] else zbh W (gi W.IC g).parent
theorem zjv{W:Q8}(ht:Ye W.IC){g:Int}(hu:Q7 W.IC g=true):g::zor W g=zbh W g:=by
 unfold zor
 by_cases hz:g=0
 ·subst hz; rw[C' rfl,zo9]
 ·rw[B' hz,zpa ht hu hz]
theorem Gk{t:Int}(h:XF [] w W m)(ht:Ye W.IC)(t0:0<=t)(t1:t<(W.tasks.length:Int))(hu:Q7 W.IC (Q6 W t).group=true) :
  Cz Vd #[.agg (Qb W m).toArray,I t] w λe w'=>∃o c',e=.returned (.slice o (zbh W (Q6 W t).group).length c')/\Vi Um 1 Qa w.heap.size w' o c' (zbh W (Q6 W t).group)/\Q0 [] w w':=by
 refine(z9 _ _ _ _ _ _ _ _ _ _ t (R:=λv w'=>∃o c',v=.slice o (zbh W (Q6 W t).group).length c'/\Vi Um 1 Qa w.heap.size w' o c' (zbh W (Q6 W t).group)/\Q0 [] w w') ?_).mono λe w' ⟨v,he,o,c',hv,h1⟩=>⟨o,c',by rw[he,hv],h1⟩
 intro b hb;refine⟨h.t.ix QG t0 t1,_,h.t.f t0 t1 (j:=1) rfl,λb1 wb RR fQ SO hn=>?_⟩;have hlen:=zs3 W (Q6 W t).group;have hO0:Vi Um 1 Qa w.heap.size wb (some ⟨b1,0,none⟩) 1 [(Q6 W t).group]:=.inr ⟨b1,[],rfl,fQ,SO,by simp[Um],Qs⟩;have hbn:∀x∈[b],w.heap.size<=x:=by simpa using hb
 refine⟨λvs w1=>∃(g:Int) (l:List Int) (o:OA) (c':Nat),vs=[I g,.slice o l.length c']/\Q7 W.IC g=true/\l++zor W g=zbh W (Q6 W t).group/\Sc w [b] w1/\Ob Um 1 Qa w.heap.size [b] w1 o c' l,λvs _=>(dep 3 W.IC (ZP 0 vs)).toNat,
  λwr hx _=>⟨_,[(Q6 W t).group],_,1,rfl,hu,zjv ht hu,(Sc.mk RR hbn).step hx,⟨hO0.ext hx (by simp[QM]; exact λe=>hn (by simp[e])),by simp[QM]; exact λe=>hn (by simp[e])⟩⟩,?_⟩
 rintro g oO oL oC w1 dZ ⟨g',l,o',c',he,hug,hI,s1,hO⟩;simp only[I4,I5,Iv,true_and,and_true] at he;obtain⟨rfl,rfl,rfl,rfl⟩:=he;have hg:=((h.wide (cs:=[b]) λx hm=>.inr (hbn x hm)).ext s1.ext.of_nil).g
 have hll:l.length<=4:=by
  have:=congrArg List.length hI;simp at this;omega
 refine⟨λhz=>?_,λhz wr hx=>?_⟩
 ·have hz:g≠0:=by simpa using hz
  obtain⟨hp,a,b',d,e,e2,hd⟩:=Yf ht hug hz;refine⟨hg.ix a b',_,hg.parent a b',λb2 bR I' R0 SR AR9=>?_⟩;have s2:=s1.put R0 bR;have nN:=hO.put R0 bR;obtain⟨o2,c2,w2,Ws,hk2,hO3,R3⟩:=nN.AR2 Xi Kg (x:=(gi W.IC g).parent) SR s2.ext.size AR9 (z2k _) Qo Qd YW #[false,false];have s3:=s2.call R3 λx hm=>(nN.own.lt x hm).1
  refine⟨_,_,_,w2,Ws,hk2,λO' Si _=>⟨⟨_,l++[(gi W.IC g).parent],o2,c2,rfl,hp,?_,(s3.step Si).sub Qs,(hO3.step Si).sub Qs⟩,?_⟩⟩
  ·rw[List.append_assoc,List.singleton_append,zjv ht hp,<-hI];unfold zor;rw[B' hz]
  ·show (dep 3 W.IC (gi W.IC g).parent).toNat<(dep 3 W.IC g).toNat;omega
 ·have hz:g=0:=by simpa using hz
  subst hz
  have hl:l=zbh W (Q6 W t).group:=by
   rw[<-hI];unfold zor;rw[C' rfl,List.append_nil]
  subst hl;exact⟨oO,oC,rfl,(hO.step hx).own,(s1.step hx).ext⟩
theorem Gi{t c:Int}(h:XF bs w W m)(wp:Jq W)(t0:0<=t)(t1:t<(W.tasks.length:Int))(c0:0<=c)(c1:c<(W.ID.length:Int)):PX bs Vb #[.agg (Qb W m).toArray,I t,I c] w (.bool (Vm W t c)):=by
 refine BT λwr0 tZ=>v9 _ _ _ _ _ _ _ _ _ _ t c (R:=λv w'=>v=.bool (Vm W t c)/\Q0 [] wr0 w') ?_
 have h:=(h.ext tZ).less (cs:=[]) Qs;have li:((Q6 W t).state != 1)=false->Q7 W.IC (Q6 W t).group=true/\0<=(Q6 W t).J'/\(Q6 W t).J'<(W.ID.length:Int):=λhs=>wp.li t0 t1 (by simpa using hs)
 intro b hb;refine⟨h.t.ix QG t0 t1,_,_,_,_,_,_,_,_,_,h.t t t0 t1,λb1 fQ=>?_⟩;refine⟨λg=>?_,(gi W.ID (Q6 W t).J').cur,λg=>?_,ZL W t,λg=>?_,Qn W (Q6 W t).group (Q6 W t).mask,λg=>?_,_,λg=>Ya,λg wr hx=>?_,λg I' RR dZ=>?_⟩
 ·have g:(((Q6 W t).state != 1)||((Q6 W t).J'==c))=false:=g;simp only[H'] at g;have:=li g.1;exact h.c.ix Yh this.2.1 this.2.2
 ·have g:(((Q6 W t).state != 1)||((Q6 W t).J'==c))=false:=g;simp only[H'] at g;have:=li g.1;exact(h.c _ this.2.1 this.2.2).get 1 _ rfl
 ·exact VV h wp.a t0 t1 λhs=>wp.li t0 t1 hs
 ·have g:(((((Q6 W t).state != 1)||((Q6 W t).J'==c))||((gi W.ID (Q6 W t).J').cur==t))||(!ZL W t))=false:=g;simp only[H'] at g;exact JK h wp.a.c2 wp.a.tree (li g.1.1.1).1
 ·have:Vm W t c=false:=by
   unfold Vm;rw[show ((((((Q6 W t).state != 1)||((Q6 W t).J'==c))||((gi W.ID (Q6 W t).J').cur==t))||(!ZL W t))||(!Z1 (Qn W (Q6 W t).group (Q6 W t).mask) c))=true from g];rfl
  rw[this]; exact⟨rfl,hx⟩
 have g:((((((Q6 W t).state != 1)||((Q6 W t).J'==c))||((gi W.ID (Q6 W t).J').cur==t))||(!ZL W t))||(!Z1 (Qn W (Q6 W t).group (Q6 W t).mask) c))=false:=g;have eC:Vm W t c = !zv4 W (Q6 W t).group c:=by unfold Vm; rw[g]; rfl
 simp only[H'] at g;obtain⟨hu,_,_⟩:=li g.1.1.1.1;rw[eC]
 have hbn:∀x∈[b,b1],wr0.heap.size<=x:=by
  intro x hm;simp only[Ii,List.not_mem_nil,or_false] at hm;rcases hm with rfl | rfl
  ·exact hb
  ·exact fQ
 refine(Gk (h.ext RR) wp.a.tree t0 t1 hu).mono λe w2 ⟨o,c',he,hO,R0⟩=>⟨_,_,_,he,Qf R0 dZ,?_⟩
 have C07:=zs3 W (Q6 W t).group;have s2:Sc wr0 [b,b1] w2:=⟨RR.trans R0,hbn⟩;have nN:Ob Um 1 Qa I'.heap.size [b,b1] w2 o c' (zbh W (Q6 W t).group):=Ob.of hO dZ
 refine XL (zbh W (Q6 W t).group).length 0 rfl (λk w3=>k<=(zbh W (Q6 W t).group).length/\Sc wr0 [b,b1] w3/\Ob Um 1 Qa I'.heap.size [b,b1] w3 o c' (zbh W (Q6 W t).group)/\∀j:Nat,j<k->UD W (gi (zbh W (Q6 W t).group) (j:Int)) c=false)
  (λw3 R3 _=>⟨Ic _,s2.step R3,nN.step R3,λj hj=>Ir hj (Nat.not_lt_zero j)⟩) λk w3 _ ⟨hk,s3,hO3,hI⟩=>⟨λIT=>?_,λRC wr hx=>?_⟩
 ·have IT:=Ot IT;have hR:=hO3.rd Xi.len;have hgm:=zp9 (l:=zbh W (Q6 W t).group) (i:=(k:Int)) Qo IT;have hW3:=(h.wide (cs:=[b,b1]) λx hm=>.inr (hbn x hm)).ext s3.ext.of_nil;refine⟨hR.ix JU Qo IT,_,hR (k:Int) Qo IT,_,LS hW3 wp.a (zyf wp.a.tree hu _ hgm) c0 c1,λgd wr hx=>⟨?_,(s3.step hx).ext⟩,λgd=>⟨⟨Qo,Qo⟩,λwr hx _=>Qp Qo ⟨Qo,s3.step hx,hO3.step hx,λj hj=>?_⟩⟩⟩
  ·have:zv4 W (Q6 W t).group c=true:=List.any_eq_true.2 ⟨_,hgm,gd⟩;rw[this]; rfl
  ·by_cases gZ:j<k
   ·exact hI j gZ
   ·have:j=k:=Qo;subst this; exact gd
 ·have RC:=Ou RC;have hkn:k=(zbh W (Q6 W t).group).length:=Qo
  have:zv4 W (Q6 W t).group c=false:=by
   cases hd:zv4 W (Q6 W t).group c with
   | false=>rfl
   | true=>
    obtain⟨x,hx,hdx⟩:=List.any_eq_true.1 hd;obtain⟨j,hj,hjx⟩:=List.getElem_of_mem hx;have:=hI j Qo;rw[Tj hj,hjx,hdx] at this;cases this
  rw[this]; exact⟨rfl,(s3.step hx).ext⟩
end
def z20(W:Q8)(a b:Int):Bool:=decide (BB W a>BB W b)
def KD(W:Q8)(c m:Int):Nat->Int
 | 0 => -1
 | k+1=>if ((Z1 m (k:Int)&&ztb W (k:Int) c)&&(decide (KD W c m k<0)||z20 W (k:Int) (KD W c m k)))=true then (k:Int) else KD W c m k
theorem zvv{W:Q8}{c m:Int}{k:Nat}(h:((Z1 m (k:Int)&&ztb W (k:Int) c)&&(decide (KD W c m k<0)||z20 W (k:Int) (KD W c m k)))=true):KD W c m (k+1)=(k:Int):=C' h
theorem zrp{W:Q8}{c m:Int}{k:Nat}(h:¬((Z1 m (k:Int)&&ztb W (k:Int) c)&&(decide (KD W c m k<0)||z20 W (k:Int) (KD W c m k)))=true):KD W c m (k+1)=KD W c m k:=B' h
theorem zyw{p:Nat->Bool}{n:Nat}(h:p n=false):Oe p (n+1)=Oe p n:=by simp[Oe,h]
theorem zc3(W:Q8)(c m:Int):∀k:Nat,-1<=KD W c m k/\KD W c m k<k
 | 0=>by simp[KD]
 | k+1=>by
  have:=zc3 W c m k;simp only[KD]
  split <;> omega
noncomputable def Ps(W:Q8)(c lv:Int):Int:=KD W c (z3z (W.ID.length:Int) c lv) W.ID.length
theorem z1h{W:Q8}(wp:Jq W){b c:Int}(h:ztb W b c=true):0<=b/\b<(W.ID.length:Int)/\b≠c:=by
 obtain⟨t,ht,hp⟩:=ED.1 h;simp only[A',Is] at hp;obtain⟨h1,h2⟩:=AN hp.2;have:=wp.li (t:=(t:Int)) Qo (by have:=wp.a.t; omega) h1;rw[hp.1] at this h2;exact⟨this.2.1,this.2.2,h2⟩
theorem zi1{lt:Int->Int->Bool}{l r:List Int}:∀k:Nat,k<=l.length->Xz lt (l++r) k=Xz lt l k
 | 0,_=>rfl
 | k+1,hk=>by
  have e:gi (l++r) (k:Int)=gi l (k:Int):=by
   unfold gi;rw[Ig];simp[Ip (show k<l.length by omega)]
  simp only[Xz];rw[zi1 k Qo,e]
theorem zps{lt:Int->Int->Bool}{l:List Int}{x:Int}:Xz lt (l++[x]) (l++[x]).length=if (!(Xz lt l l.length).2||lt x (Xz lt l l.length).1)=true then (x,true) else Xz lt l l.length:=by
 rw[Io,List.length_singleton];simp only[Xz];rw[zi1 l.length (I7 _),zdw l [] x]
section
variable {W:Q8}{m:MW}{w:Wo}{bs:List Nat}{p:OA}
theorem Bt{s c:Int}(h:XF bs w W m)(wp:Jq W)(c0:0<=c)(c1:c<(W.ID.length:Int)):PX bs T9 #[.agg (Qb W m).toArray,I s,I c] w (I (KD W c s W.ID.length)):=
 BP _ _ _ _ _ _ _ _ _ _ s c λwr hx=>by
  have h:=(h.ext hx).less (cs:=[]) Qs;have h4:=wp.a.c2;have fZ:=wp.a.t;intro _ _;refine PF W.ID.length 0 rfl (λx k=>k<=W.ID.length/\x=KD W c s k) ⟨Ic _,rfl⟩ λx k ⟨hk,R0⟩=>⟨λIT=>?_,λRC=>?_⟩
  ·subst R0;have IT:=Ot IT;have hr:=zc3 W c s k;refine⟨_,λ_=>Ya,_,λ_ _=>TY h wp,_,λ_ _=>TY h wp,λg=>?_,λg=>?_⟩
   ·refine⟨⟨Qo,Qo⟩,QP Qo ⟨Qo,?_⟩⟩;rw[zrp];intro hc;simp only[A'] at hc;have fI:=(z1h wp hc.1.2).2.2;rw[beq_eq_false_iff_ne.2 fI,hc.1.1] at g;simp only[Bool.not_true,Bool.or_self,Bool.false_or,A',Ij] at g;unfold z20 at hc;simp only[Iu,Ij] at hc;omega
   ·simp only[H',I6] at g;obtain⟨⟨g1,g2⟩,g3⟩:=g
    have hb:(decide (KD W c s k<0)||z20 W (k:Int) (KD W c s k))=true:=by
     unfold z20;simp only[Iu,Ij];simp only[Bool.and_eq_false_iff,decide_eq_false_iff_not] at g3;omega
    refine PF 12 0 rfl (λy j=>j<=12/\y=if Oe (λt=>((Q6 W (t:Int)).J'==(k:Int))&&Vm W (t:Int) c) j=true then (k:Int) else KD W c s k) ⟨Ic _,rfl⟩ λy j ⟨hj,hy⟩=>⟨λRw=>?_,λbP=>?_⟩
    ·have Rw:=Ot Rw;have vT:j<12:=Qo;refine⟨h.t.ix QG Qo Rw,_,h.t.f Qo Rw (j:=2) rfl,_,λ_=>Gi h wp Qo Rw c0 c1,λg4=>?_,λg4=>?_⟩
     ·have g4:(((Q6 W (j:Int)).J'==(k:Int))&&Vm W (j:Int) c)=true:=g4;refine⟨⟨Qo,Qo⟩,QP vT ⟨Qo,?_⟩⟩;rw[C'];simp only[Oe,Iu];exact .inr g4
     ·have g4:(((Q6 W (j:Int)).J'==(k:Int))&&Vm W (j:Int) c)=false:=g4;refine⟨⟨Qo,Qo⟩,QP vT ⟨Qo,?_⟩⟩;rw[hy,zyw (p:=λt=>((Q6 W (t:Int)).J'==(k:Int))&&Vm W (t:Int) c) g4]
    ·have bP:=Ou bP;have:j=12:=Qo;subst this;refine⟨⟨Qo,Qo⟩,QP Qo ⟨Qo,?_⟩⟩;rw[hy];show (if ztb W (k:Int) c=true then (k:Int) else KD W c s k)=_
     cases ha:ztb W (k:Int) c with
     | true=>rw[zvv (by rw[g2,ha,hb]; rfl),C' rfl]
     | false=>rw[zrp (by rw[ha]; simp),B' Qd]
  ·have RC:=Ou RC;have:k=W.ID.length:=Qo;subst this;rw[R0]
end
theorem BC(m:Int):∀k:Nat,Lg m k=((LX m k).length:Int)
 | 0=>rfl
 | k+1=>by
  simp only[Lg]
  cases h:Z1 m (k:Int) with
  | true=>rw[C' rfl,Hv h,BC m k]; simp
  | false=>rw[B' Qd,BF h,BC m k]
theorem zml{fn:Func}{t:Tmp}(h:fn.results=#[.tmp t]){tmps:Array Va}{w:Wo}{P:Program}:(results fn tmps).run P w=.ok (tmps.getD t undef) w:=by
 simp[results,h]
theorem znc:YL Tryz.f60=zmn Xg (.seq (.seq Jh (.block 0 (.rangeFunc (.tmp 5) #[6] .skip XU))) XV):=Qk
theorem zt1{m:Int}{w:Wo}:Cz Bh #[.int .i64 m] w λe w'=>e=.returned (.int .i64 (Lg m 4))/\Q0 [] w w':=by
 refine LG (args:=[.int .i64 m]) (n:=10) Tryz.func60 (body:=YL Tryz.f60) rfl Qk Qs λa hn ha hd=>?_
 rw[znc];have a0:=ha 0 _ rfl;refine Hc none (R:=λe vs w1=>e=.normal/\∃b:Nat,vs=[.pointer (some ⟨b,0,none⟩)]/\w.heap.size<=b/\(∃t,w1.heap[b]? = some (.cells ([.int .i64 0]:List Va).toArray t (0,0)))/\Q0 [] w w1) hn ?_ ?_ ?_ (λe vs a1 w1 fI hR _=>Ir hR.1 fI)
 ·intro p hp;cases hp
 ·intro b wb hx hb0 SO _;refine⟨U7 (k0:=0) SO Qs Qs,λwr R0=>?_⟩;have e1:Q0 [b] wb (R5 wb (some ⟨b,0,none⟩) 0 [.int .i64 0]):=X3 (bs:=[b]) Qs;refine⟨rfl,b,rfl,hb0,⟨_,Qg (U6 (vs:=[.int .i64 0]) (n:=0) SO) R0 Qs⟩,hx.fresh (e1.trans R0.of_nil) λx hm=>.inl ?_⟩;have:x=b:=by simpa using hm
  omega
 rintro vs a2 w1 ⟨_,b,rfl,hwb,hB,hX⟩ fo
 have o3:a2.tmps.getD 3 undef=.pointer (some ⟨b,0,none⟩):=by
  have:=fo.out
  simpa using this
 have o0:a2.tmps.getD 0 undef=.int .i64 m:=(fo.kept 0 (by decide +kernel)).trans a0;refine wpIn_seq (wpIn_seq (Hb none m (R:=λe vs w2=>e=.normal/\∃bm:Nat,vs=[.func (.func QE) #[] #[.pointer (some ⟨bm,0,none⟩)]]/\Q1 [] w2 (some ⟨bm,0,none⟩) 0 [.int .i64 m]/\w1.heap.size<=bm/\Q0 [] w1 w2) (by rw[fo.size,hn]) (λp hp=>?_) (λwr hx _=>?_) λe vs a3 w2 hR fo3=>?_))
 ·simp only[Ii,List.not_mem_nil,or_false] at hp;subst hp;exact⟨Ik rfl,o0⟩
 ·refine(A2 (m:=m)).mono λe w2 ⟨bm,hbm,he,hcm,R3⟩=>⟨_,_,_,he,Z3,λI' Si=>⟨rfl,bm,rfl,hcm.ext Si,by have:=hx.size; omega,(hx.trans R3).trans Si⟩⟩
 obtain⟨rfl,bm,rfl,hcm,hbm,R0⟩:=hR
 have p5:a3.tmps.getD 5 undef=.func (.func QE) #[] #[.pointer (some ⟨bm,0,none⟩)]:=by
  have:=fo3.out
  simpa using this
 have p3:=(fo3.kept 3 (by decide +kernel)).trans o3;have AO0:a3.tmps.size=10:=by rw[fo3.size,fo.size,hn]
 have hd3:a3.defers=[]:=by rw[fo3.defers,fo.defers,hd]
 have tW:=hX.trans R0;obtain⟨t0,hB⟩:=hB;have hB2:=Qg hB R0 Qs;have hbL:=Yt hB;have Cl4:=Yt hB2;have Cm0:=zrq hcm
 have hlen:(LX m 4).length<=4:=by
  have:=(F0 m 4).2;rw[BC] at this;omega
 refine wpIn_block (zqu (gf:=QE) (lb:=#[.pointer (some ⟨bm,0,none⟩)]) p5 (enters_of Tryz.func233 Qk rfl)
  (λk W1=>(∃t,W1.heap[b]? = some (.cells ([.int .i64 (k:Int)]:List Va).toArray t (0,0)))/\Q1 [] W1 (some ⟨bm,0,none⟩) 0 [.int .i64 m]/\Q0 [] w W1)
  (λ_ _=>False) (LX m 4).length (λk=>[.int .i64 (gi (LX m 4) (k:Int))])
  (λk W1 W2 ys h hx hy=>⟨h.1.imp λ_ h=>Qg h hx λhm=>by have:=hy _ hm; omega,D5 h.2.1 hx λhm=>by have:=hy _ hm; omega,h.2.2.fresh hx λx hm=>.inl (by have:=hy x hm; have:=tW.size; omega)⟩)
  (λcd W1 W2 ys h hx hy=>h)
  ⟨⟨t0,hB2⟩,hcm,tW⟩ (λk=>rfl) (EW (m:=m) (bm:=bm) (w:=w2) (I:=λk W1=>(∃t,W1.heap[b]? = some (.cells ([.int .i64 (k:Int)]:List Va).toArray t (0,0)))/\Q1 [] W1 (some ⟨bm,0,none⟩) 0 [.int .i64 m]/\Q0 [] w W1) (λk W1 h=>h.2.1)) ?_ ?_ (λD c W _ h _=>h.elim))
 ·rintro l k W hk ⟨⟨t1,hb⟩,hc,hXW⟩ hl;rw[zdt];refine wpIn_skip ⟨⟨[],Q0.refl _ _,Qs⟩,λW2 Sb=>?_⟩
  have hbn:b∉[l]:=λhm=>by
   have:b=l:=by simpa using hm
   omega
  have hb5:=Qg hb Sb hbn
  have hX5:Q0 [] w W2:=hXW.fresh Sb λx hm=>.inl (by
   have:x=l:=by simpa using hm
   have:=tW.size;omega)
  have hc5:=D5 hc Sb λhm=>by
   have:bm=l:=by simpa using hm
   omega
  have q3:(a3.tmps.setIfInBounds 6 (.int .i64 (gi (LX m 4) (k:Int)))).getD 3 undef=.pointer (some ⟨b,0,none⟩):=(UR (i:=6) (j:=3) Qd).trans p3;refine Gw (some l) (some ⟨b,0,none⟩) (R:=λe _ W3=>e=.normal/\(∃X,Q0 X W2 W3/\∀x∈X,x<w2.heap.size)/\(∃t,W3.heap[b]? = some (.cells ([.int .i64 ((k:Int)+1)]:List Va).toArray t (0,0)))/\Q1 [] W3 (some ⟨bm,0,none⟩) 0 [.int .i64 m]/\Q0 [] w W3) (by simpa using AO0) (λp hp=>?_) ⟨(k:Int),Pr ⟨_,hb5⟩,⟨Qo,Qo⟩,U7 (k0:=0) hb5 Qs Qs,λwr hx=>?_⟩ λe vs a5 W3 hR _=>?_
  ·simp only[Ii,List.not_mem_nil,or_false] at hp;subst hp;exact⟨Ik rfl,q3⟩
  ·have e1:Q0 [b] W2 (R5 W2 (some ⟨b,0,none⟩) 0 [.int .i64 ((k:Int)+1)]):=X3 (bs:=[b]) Qs;have eX:Q0 [b] W2 wr:=e1.trans hx.of_nil;refine⟨rfl,⟨[b],eX,λx hm=>?_⟩,⟨t1,?_⟩,D5 hc5 eX λhm=>?_,hX5.fresh eX λx hm=>.inl ?_⟩
   ·have:x=b:=by simpa using hm
    omega
   ·exact Qg (U6 (vs:=[.int .i64 ((k:Int)+1)]) (n:=0) hb5) hx Qs
   ·have:bm=b:=by simpa using hm
    omega
   ·have:x=b:=by simpa using hm
    omega
  ·obtain⟨rfl,hX3,h3,h4⟩:=hR;exact⟨hX3,h3,h4⟩
 ·intro D W hD ⟨⟨t1,hb⟩,hc,hXW⟩ hdD;refine Gx none (some ⟨b,0,none⟩) (R:=λe vs W1=>e=.ret/\vs=[.int .i64 (Lg m 4)]/\Q0 [] W W1) AO0 (λp hp=>?_) ⟨_,Pr ⟨_,hb⟩,λwr hx=>⟨rfl,by rw[BC],hx⟩⟩ λe vs a6 W1 hR fo6=>?_
  ·simp only[Ii,List.not_mem_nil,or_false] at hp;subst hp;exact⟨Ik rfl,p3⟩
  ·obtain⟨rfl,rfl,Wt⟩:=hR
   have hr:∀w',(results Tryz.f60 a6.tmps).run Tryz.prog w'=.ok (.int .i64 (Lg m 4)) w':=λw'=>by
    rw[zml (t:=2) Qk];have:=fo6.out;simp only[List.map_cons,List.map_nil,I4,and_true] at this;rw[this]
   exact(zeq (D:=D) (by rw[fo6.defers]; simp[hd3]) ((Wt.block D (Array.getElem?_eq_some_iff.1 hdD).1 Qs).trans hdD) hr λw' hx=>⟨rfl,(hXW.trans Wt).fresh hx λx hm=>.inl (by
    have:x=D:=by simpa using hm
    have:=tW.size;omega)⟩).2
theorem zon(W:Q8)(m:Int):∀k:Nat,Xz (zoa W) (LX m k) (LX m k).length=if Tt W m k<0 then (0,false) else (Tt W m k,true)
 | 0=>rfl
 | k+1=>by
  have ih:=zon W m k;have hr:=Fh W m k
  cases hh:Z1 m (k:Int) with
  | false=>rw[BF hh,ih,BR (by rw[hh]; rfl)]
  | true=>
   rw[Hv hh,zps,ih]
   by_cases hn:Tt W m k<0
   ·rw[C' hn,BS (by rw[hh,Ih hn]; rfl),B' (by omega:¬(k:Int)<0),C' (by rfl)]
   ·rw[B' hn]
    cases hl:zoa W (k:Int) (Tt W m k) with
    | true=>rw[BS (by rw[hh,hl]; simp),B' (by omega:¬(k:Int)<0),C' (by rfl)]
    | false=>rw[BR (by rw[hh,hl,decide_eq_false hn]; rfl),B' hn,B' Qs]
theorem zxj{W:Q8}{m:Int}(h4:W.ID.length<=4)(hs:∀c:Int,Z1 m c=true->c<(W.ID.length:Int)):Tt W m 4=Up W m:=by
 have key:∀j:Nat,W.ID.length+j<=4->Tt W m (W.ID.length+j)=Tt W m W.ID.length:=by
  intro j
  induction j with
  | zero=>intro _; rfl
  | succ j ih=>
   intro hj;rw[show W.ID.length+(j+1)=(W.ID.length+j)+1 from rfl,BR ?_,ih Qo]
   have:Z1 m ((W.ID.length+j:Nat):Int)=false:=by
    cases h:Z1 m ((W.ID.length+j:Nat):Int) with
    | false=>rfl
    | true=>have:=hs _ h; omega
   rw[this]; rfl
 have:=key (4-W.ID.length) Qo
 rwa[show W.ID.length+(4-W.ID.length)=4 by omega] at this
section
variable {W:Q8}{m:MW}{w:Wo}{bs:List Nat}{p:OA}
theorem LL{c:Int}(h:Mk bs w p W m)(fZ:W.tasks.length=12)(hl:z1d W):PX bs Xs #[.pointer p,I c] w (.tuple #[I (zeo W c),I (zbe W c)]):=
 F7 p c λwr hx=>by
  have h:=(h.ext hx).less (cs:=[]) Qs;refine⟨h.some,_,_,_,h.tasks,?_⟩;refine⟨λvs=>∃k:Nat,k<=12/\vs=[I (XZ (By W c) k),I (XZ (zbd W c) k),I (k:Int)],Xm 12 2,⟨0,Ic _,rfl⟩,?_⟩;rintro ld ct x ⟨k,hk,he⟩;simp only[I4,I5,true_and,and_true] at he;obtain⟨rfl,rfl,rfl⟩:=he;refine⟨λIT=>?_,λRC=>?_⟩
  ·have IT:=Ot IT;have hr:=zfq (W:=W) c k;have uJ:=EZ hl c k Qo;have mR:=hl (k:Int) Qo Qo;refine⟨h.rd.t.ix QG Qo IT,_,_,_,_,_,_,_,_,_,h.rd.t (k:Int) Qo IT,λb hb=>⟨λg=>?_,λg=>?_⟩⟩
   ·have g:z08 W c k=true:=g;refine⟨⟨by show _<=XZ (By W c) k+(Q6 W (k:Int)).load; omega,by show XZ (By W c) k+(Q6 W (k:Int)).load<=_; omega⟩,⟨Qo,Qo⟩,⟨Qo,Qo⟩,⟨k+1,Qo,?_⟩,?_⟩
    ·simp only[XZ,By,zbd]; rw[C' g,C' g]; rfl
    ·simp only[Xm,ZP,Ie,List.getElem?_cons_succ]; omega
   ·have g:z08 W c k=false:=g;refine⟨⟨Qo,Qo⟩,⟨k+1,Qo,?_⟩,?_⟩
    ·simp only[XZ];rw[show By W c k=0 from B' (by rw[g]; decide),show zbd W c k=0 from B' (by rw[g]; decide),Int.add_zero,Int.add_zero]; rfl
    ·simp only[Xm,ZP,Ie,List.getElem?_cons_succ]; omega
  ·have RC:=Ou RC;have:k=12:=Qo;subst this;unfold zeo zbe;rw[fZ]
theorem zn1{b:Nat}{x y:Int}(h:Mk bs w p W m)(fZ:W.tasks.length=12)(hl:z1d W)(hb:Q1 bs w (some ⟨b,0,none⟩) 0 [.pointer p]):PX bs Yp #[I x,I y,.pointer (some ⟨b,0,none⟩)] w (.bool (zoa W x y)):=
 G0 x y (some ⟨b,0,none⟩) λwr hx=>by
  have h:=(h.ext hx).less (cs:=[]) Qs;have hb:=(hb.ext hx).less (cs:=[]) Qs;exact⟨p,hb,_,_,LL h fZ hl,p,hb,_,_,LL h fZ hl,rfl⟩
theorem Hk{x:Int}(h:Mk [] w p W m)(ha:WA W)(hl:z1d W)(hs:∀c:Int,Z1 x c=true->0<=c/\c<(W.ID.length:Int))(hm:O7 x=true)(h0:x≠0) :
  Cz XQ #[.pointer p,.int .i64 x] w λe w'=>e=.returned (.int .i64 (Up W x))/\Q0 [] w w':=by
 refine(H5 p x (R:=λv w'=>v=.int .i64 (Up W x)/\Q0 [] w w') ?_).mono λe w' ⟨v,he,hv,h3⟩=>⟨by rw[he,hv],h3⟩
 have hup:=zxk ha hm h0 hs;intro b wb hx hb SO _ wr RR _;refine(A2 (m:=x)).mono λe w2 ⟨bm,hbm,he,hcm,R0⟩=>⟨_,_,_,he,Z3,λI' R3 _=>?_⟩
 have hX:=((hx.trans RR).trans R0).trans R3;have B82:Q1 [] I' (some ⟨b,0,none⟩) 0 [.pointer p]:=(((Pr ⟨_,SO⟩).ext RR).ext R0).ext R3;have hp3:=h.ext hX
 refine(z13 (gf:=QE) (lb:=#[.pointer (some ⟨bm,0,none⟩)]) (bF:=.func Yp) (bA:=#[]) (bK:=#[.pointer (some ⟨b,0,none⟩)]) (xs:=LX x 4) (lt:=zoa W) (w:=I')
  (enters_of Tryz.func233 Qk rfl)
  (λI W1 Si hI=>EW (m:=x) (bm:=bm) (I:=I) (w:=W1) λk W2 hI2=>(hcm.ext R3).ext (hI k W2 hI2))
  (λi j hi hj W1 Si=>.inl ⟨Yp,_,rfl,(zn1 (hp3.ext Si) ha.t hl (B82.ext Si)) W1 (Q0.refl _ _)⟩)).mono λe1 w3 ⟨eH,Si⟩=>⟨_,_,eH,Z3,λO' Sb=>⟨?_,(hX.trans Si).trans Sb⟩⟩
 rw[zon,zxj ha.c2 λc hc=>(hs c hc).2,B' Qo]
end
theorem zmw(cs:List KV){c:Int}(c0:0<=c):∀k:Nat,k<=4->c<(k:Int)->(gi cs c).up=true->Z1 (VI cs k) c=true
 | 0,_,h,_=>by omega
 | k+1,hk,h,hu=>by
  have hl:=Do cs k Qo
  have hb:UC k<=8:=by
   have:k=0\/k=1\/k=2\/k=3:=Qo;rcases this with rfl | rfl | rfl | rfl <;> decide
  have key:=znt ⟨k,Qo⟩ ⟨(VI cs k).toNat,Qo⟩ ⟨c.toNat,Qo⟩;rw[show ((⟨(VI cs k).toNat,Qo⟩:Fin 8).val:Int)=VI cs k by show (((VI cs k).toNat:Nat):Int)=VI cs k; omega,show ((⟨c.toNat,Qo⟩:Fin 4).val:Int)=c by show ((c.toNat:Nat):Int)=c; omega] at key;simp only[VI]
  by_cases e:c=(k:Int)
  ·subst e;rw[C' hu,key hl.2];simp
  ·have ih:=zmw cs c0 k Qo Qo hu;split
   ·rw[key hl.2,ih]; simp
   ·exact ih
theorem AI{cs:List KV}(h4:cs.length<=4){c:Int}(c0:0<=c)(c1:c<(cs.length:Int))(hu:(gi cs c).up=true):Ue cs≠0:=λe=>by
 have h:=zmw cs c0 cs.length h4 c1 hu;rw[show VI cs cs.length=0 from e] at h;have hr:=OX h;have:c=0\/c=1\/c=2\/c=3:=Qo;rcases this with rfl | rfl | rfl | rfl <;> exact Ir h Qd
theorem zwx{m c:Int}(c0:0<=c)(c4:c<4)(h:Z1 m c=true)(hn:∀j:Int,0<=j->j<4->j≠c->Z1 m j=false):Lg m 4=1:=by
 have h0:=hn 0 Qd Qd;have h1:=hn 1 Qd Qd;have h2:=hn 2 Qd Qd;have h3:=hn 3 Qd Qd;have i0:((0:Nat):Int)=0:=rfl;have i1:((1:Nat):Int)=1:=rfl;have i2:((2:Nat):Int)=2:=rfl;have i3:((3:Nat):Int)=3:=rfl;have:c=0\/c=1\/c=2\/c=3:=Qo;simp only[Lg,i0,i1,i2,i3];rcases this with rfl | rfl | rfl | rfl
 ·have e1:=h1 Qd; have e2:=h2 Qd; have e3:=h3 Qd; simp[h,e1,e2,e3]
 ·have e1:=h0 Qd; have e2:=h2 Qd; have e3:=h3 Qd; simp[h,e1,e2,e3]
 ·have e1:=h0 Qd; have e2:=h1 Qd; have e3:=h3 Qd; simp[h,e1,e2,e3]
 ·have e1:=h0 Qd; have e2:=h1 Qd; have e3:=h2 Qd; simp[h,e1,e2,e3]
theorem zu4{cs:List KV}(h4:cs.length<=4){c:Int}(c0:0<=c)(c1:c<(cs.length:Int))(hu:(gi cs c).up=true)(hn:Lg (Ue cs) 4≠1):∃j:Int,0<=j/\j<(cs.length:Int)/\j≠c/\(gi cs j).up=true:=by
 refine Classical.byContradiction λfI=>hn (zwx c0 Qo (zmw cs c0 cs.length h4 c1 hu) λj j0 j4 hj=>?_)
 cases h:Z1 (Ue cs) j with
 | false=>rfl
 | true=>
  obtain⟨a,b⟩:=zb4 cs (c:=j) cs.length h4 h;exact Ir ⟨j,j0,a,hj,b⟩ fI
theorem SW.Se{K:Int}{W:Q8}(h:SW K W){c:Int}(c0:0<=c)(c1:c<(W.ID.length:Int)){x:KV}(hu:Ue (W.ID.set c.toNat x)≠0)(h1 : -1<=x.cur)(h2:x.cur<12):SW K (Se W c x):=by
 have hl:(W.ID.set c.toNat x).length=W.ID.length:=E';have hg:∀d:Int,0<=d->gi (W.ID.set c.toNat x) d=if c=d then x else gi W.ID d:=λd d0=>QO _ _ c0 c1 d0
 refine⟨h.a.cp hl hu,λt a b n=>?_,h.tv,λk d u a b=>?_,λd a b=>?_⟩
 ·show _/\_/\_<(((W.ID.set c.toNat x).length:Nat):Int);rw[hl];exact h.t t a b n
 ·have b:d<(((W.ID.set c.toNat x).length:Nat):Int):=b;rw[hl] at b;exact h.s k d u a b
 ·have b:d<(((W.ID.set c.toNat x).length:Nat):Int):=b;rw[hl] at b;show _<=(gi (W.ID.set c.toNat x) d).cur/\(gi (W.ID.set c.toNat x) d).cur<12;rw[hg _ a];split
  ·exact⟨h1,h2⟩
  ·exact h.cu d a b
noncomputable def T0(W:Q8)(c:Int)(up:Bool)(last:Int):Int:=if Xp W c=false then 1 else if (gi W.ID c).up≠up then 6 else if last≠0 then last else if QK W=false then 10 else 0
theorem zk7{W:Q8}{c:Int}{up:Bool}{last:Int}(h:T0 W c up last=0):Xp W c=true/\(gi W.ID c).up=up/\last=0/\QK W=true:=by
 unfold T0 at h
 split at h
 ·cases h
 ·rename_i h1
  split at h
  ·cases h
  ·rename_i h2
   split at h
   ·rename_i h3; exact Ir h h3
   ·rename_i h3
    split at h
    ·cases h
    ·rename_i h4;exact⟨by simpa using h1,by simpa using h2,Qo,by simpa using h4⟩
theorem D7{W:Q8}{c:Int}{up:Bool}{last:Int}(h1:Xp W c=true)(h2:(gi W.ID c).up=up)(h3:last=0):T0 W c up last=if QK W=false then 10 else 0:=by
 unfold T0;rw[B' (by rw[h1]; decide),B' (by simpa using h2),B' (by simpa using h3)]
def Gm(x:KV)(b:Bool):KV:={ x with up:=b }
def z3s(W:Q8)(c:Int):Q8:=Qh (Lq (Se W c (Gm (gi W.ID c) true)))
def Hz(W:Q8):Int:=if Lg (Ue W.ID) 4=1 then 5 else 0
def zw9(W:Q8)(c:Int):Q8:=Qh (Lq (Rp (Se W c (Gm (gi W.ID c) false)) c))
theorem z09{W:Q8}{c:Int}(hW:QB W=true)(hb:T0 W c false 0=0):0<=c/\c<(W.ID.length:Int)/\SF Qq (Qq+Qj) W/\SF Qq (Qq+Qj) (Se W c (Gm (gi W.ID c) true)):=by
 obtain⟨h1,h2,_,h4⟩:=zk7 hb;have wp:=Qm.1 hW;have sw:=Mi wp (Qm.1 h4);obtain⟨c0,c1⟩:=Tz h1;have hcu:=sw.cu c c0 c1;have hl:(W.ID.set c.toNat (Gm (gi W.ID c) true)).length=W.ID.length:=E';have hc2:=wp.a.c2;exact⟨c0,c1,Kt sw,Kt (sw.Se c0 c1 (x:=Gm (gi W.ID c) true) (AI Qo c0 Qo (by rw[QO _ _ c0 c1 c0,C' rfl]; rfl)) hcu.1 hcu.2)⟩
theorem zxa{W:Q8}{c:Int}(hW:QB W=true)(hb:T0 W c true (Hz W)=0):0<=c/\c<(W.ID.length:Int)/\SF Qq (Qq+Qj) W/\SF Qq (Qq+Qj) (Se W c (Gm (gi W.ID c) false)):=by
 obtain⟨h1,h2,h3,h4⟩:=zk7 hb;have wp:=Qm.1 hW;have sw:=Mi wp (Qm.1 h4);obtain⟨c0,c1⟩:=Tz h1;have hcu:=sw.cu c c0 c1;have hl:(W.ID.set c.toNat (Gm (gi W.ID c) false)).length=W.ID.length:=E';have hc2:=wp.a.c2;have hn:Lg (Ue W.ID) 4≠1:=λe=>by unfold Hz at h3; rw[C' e] at h3; cases h3
 obtain⟨j,j0,j1,jc,hj⟩:=zu4 hc2 c0 c1 h2 hn;exact⟨c0,c1,Kt sw,Kt (sw.Se c0 c1 (x:=Gm (gi W.ID c) false) (AI Qo j0 Qo (by rw[QO _ _ c0 c1 j0,B' λe=>jc e.symm]; exact hj)) hcu.1 hcu.2)⟩
theorem zbp(W:Q8)(c:Int)(x:KV)(m:MW):Qb (Se W c x) m=Qb W m:=by simp[Qb,Se]
section
variable {W W':Q8}{m:MW}{w:Wo}
theorem zlz{c:Int}(h:XF [] w W m)(hl:UG W) :
  Cz KH #[.agg (Qb W m).toArray,I c] w λe w'=>∃v,e=.returned v/\QL (Yv W (T0 W c false 0) (z3s W c)) w v w':=by
 refine zle _ _ _ _ _ _ _ _ _ _ c (R:=λv w'=>QL (Yv W (T0 W c false 0) (z3s W c)) w v w') ?_;intro y hy y1 aR wr R0 SR;have hm9:=Zg;have hlc:=hl.c;refine I3 (Zi (h.ext R0) hl) ?_;rintro e wv (⟨hW,he,Sm⟩ | ⟨hW,m',he,hM,Sm⟩)
 ·exact⟨_,_,_,_,_,_,_,_,_,_,_,he,Qf Sm SR,λg=>by simp at g,true,λg=>by simp at g,λ_ I' R3=>QL.bad hW ((R0.trans Sm).fresh R3 λz hm=>.inl (X4 hy aR z hm)),λg=>by simp at g⟩
 have hK:=Wk.begin hy aR R0 SR hM Sm;have hr:=hK.rd;have wp:=Qm.1 hW;have hm0:=J5;refine⟨_,_,_,_,_,_,_,_,_,_,_,he,Qf Sm SR,λ_=>⟨Qo,Qo⟩,Xp W c,λ_=>Qu,λg I' R3=>?_,λg=>?_⟩
 ·have g:Xp W c=false:=by
   cases hc:Xp W c with
   | false=>rfl
   | true=>rw[hc] at g; split at g <;> simp at g
  have hb:T0 W c false 0=1:=by unfold T0; rw[C' g]
  exact QL.no hW (by rw[hb]; decide) (hK.step R3) hb
 have g:Xp W c=true:=by
  cases hc:Xp W c with
  | true=>rfl
  | false=>rw[hc] at g; simp at g
 obtain⟨c0,c1⟩:=Tz g;refine⟨hr.c.ix Yh c0 c1,_,hr.c.f c0 c1 (j:=0) rfl,λg2 O' R3=>?_,λg2=>⟨λg3 Rj R3=>?_,λg3=>?_⟩⟩
 ·have hb:T0 W c false 0=6:=by unfold T0; rw[B' (by rw[g]; decide),C' (by rw[g2]; decide)]
  exact QL.no hW (by rw[hb]; decide) (hK.step R3) hb
 ·have bQ:¬QK W=true:=λhr=>by rw[C' hr] at g3; simp at g3
  have hb:T0 W c false 0=10:=by rw[D7 g g2 rfl,C' (by simpa using bQ)]
  rw[B' bQ];exact QL.no hW (by rw[hb]; decide) (hK.step R3) hb
 have bQ:QK W=true:=Iq λhr=>by rw[B' hr] at g3; simp at g3
 have hb:T0 W c false 0=0:=by rw[D7 g g2 rfl,B' (by rw[bQ]; decide)]
 obtain⟨_,_,_,sf⟩:=z09 hW hb;have Sk:Wk 8 [y,y1] w (R5 wv m'.cO (Int.toNat c*5+0) [.bool true]) (Se W c (Gm (gi W.ID c) true)) m':=hK.R5 (hK.own.At6 c0 c1 (j:=0) (vs:=[.bool true]) (x:=Gm (gi W.ID c) true) rfl Qs) zf3;refine⟨hr.c.ix Yh c0 c1,zyj hK.own hK.nb c0 c1 Qd,λRn Si fT=>?_⟩;have e5:Qb (Se W c (Gm (gi W.ID c) true)) m'=Qb W m':=zbp _ _ _ _;have hE:z3s W c=Qh (Lq (Se W c (Gm (gi W.ID c) true))):=rfl;rw[hE];generalize Se W c (Gm (gi W.ID c) true)=V at Sk sf e5;have fN:=Sk.step Si;have Rt:=U4 fN.own sf (I2 _) (by simp only[Qj]; decide);rw[e5] at Rt;refine I3 Rt ?_;rintro e1 R1 ⟨eH,dG⟩;refine⟨_,_,_,_,_,_,_,_,_,_,eH,fN.kept dG fT,λRE Sb hZ=>?_⟩;have fG:=(fN.Sl dG fT).step Sb;have aK:=Qy fG.own (G4 sf (I2 _)).1.w (by simp only[Qj]; decide) (by simp only[Qj]; decide) fG.base;rw[Be sf (I2 _),e5] at aK;refine I3 aK ?_;rintro e2 Rr ⟨m2,aM,fL⟩;exact⟨_,_,_,_,_,_,_,_,_,_,aM,fG.kept fL hZ,λRP Wt=>QL.ok hW hb ((fG.Sl fL hZ).step Wt)⟩
theorem zhv{c:Int}(h:XF [] w W m)(hl:UG W) :
  Cz MN #[.agg (Qb W m).toArray,I c] w λe w'=>∃v,e=.returned v/\QL (Yv W (T0 W c true (Hz W)) (zw9 W c)) w v w':=by
 refine zhj _ _ _ _ _ _ _ _ _ _ c (R:=λv w'=>QL (Yv W (T0 W c true (Hz W)) (zw9 W c)) w v w') ?_;intro y hy y1 aR wr R0 SR;have hm0:=J5;have hlc:=hl.c;refine I3 (Zi (h.ext R0) hl) ?_;rintro e wv (⟨hW,he,Sm⟩ | ⟨hW,m',he,hM,Sm⟩)
 ·exact⟨_,_,_,_,_,_,_,_,_,_,_,he,Qf Sm SR,λg=>by simp at g,true,λg=>by simp at g,λ_ I' R3=>QL.bad hW ((R0.trans Sm).fresh R3 λz hm=>.inl (X4 hy aR z hm)),λg=>by simp at g⟩
 have hK:=Wk.begin hy aR R0 SR hM Sm;have hr:=hK.rd;have wp:=Qm.1 hW;refine⟨_,_,_,_,_,_,_,_,_,_,_,he,Qf Sm SR,λ_=>⟨Qo,Qo⟩,Xp W c,λ_=>Qu,λg I' R3=>?_,λg=>?_⟩
 ·have g:Xp W c=false:=by
   cases hc:Xp W c with
   | false=>rfl
   | true=>rw[hc] at g; split at g <;> simp at g
  have hb:T0 W c true (Hz W)=1:=by unfold T0; rw[C' g]
  exact QL.no hW (by rw[hb]; decide) (hK.step R3) hb
 have g:Xp W c=true:=by
  cases hc:Xp W c with
  | true=>rfl
  | false=>rw[hc] at g; simp at g
 obtain⟨c0,c1⟩:=Tz g;refine⟨hr.c.ix Yh c0 c1,_,hr.c.f c0 c1 (j:=0) rfl,λg2 O' R3=>?_,λg2=>⟨_,LU hr wp.a.c2,_,A6,λg3 Rj R3=>?_,λg3=>⟨λg4 Rn R3=>?_,λg4=>?_⟩⟩⟩
 ·have g2:(gi W.ID c).up=false:=by simpa using g2
  have hb:T0 W c true (Hz W)=6:=by unfold T0; rw[B' (by rw[g]; decide),C' (by rw[g2]; decide)]
  exact QL.no hW (by rw[hb]; decide) (hK.step R3) hb
 ·have g2:(gi W.ID c).up=true:=by simpa using g2
  have hL:Hz W=5:=by unfold Hz; rw[C' (by simpa using g3)]
  have hb:T0 W c true (Hz W)=5:=by unfold T0; rw[B' (by rw[g]; decide),B' (by rw[g2]; decide),hL,C' Qd]
  exact QL.no hW (by rw[hb]; decide) (hK.step R3) hb
 ·have g2:(gi W.ID c).up=true:=by simpa using g2
  have hL:Hz W=0:=by unfold Hz; rw[B' (by simpa using g3)]
  have bQ:¬QK W=true:=λhr=>by rw[C' hr] at g4; simp at g4
  have hb:T0 W c true (Hz W)=10:=by rw[D7 g g2 hL,C' (by simpa using bQ)]
  rw[B' bQ];exact QL.no hW (by rw[hb]; decide) (hK.step R3) hb
 have g2:(gi W.ID c).up=true:=by simpa using g2
 have hL:Hz W=0:=by unfold Hz; rw[B' (by simpa using g3)]
 have bQ:QK W=true:=Iq λhr=>by rw[B' hr] at g4; simp at g4
 have hb:T0 W c true (Hz W)=0:=by rw[D7 g g2 hL,B' (by rw[bQ]; decide)]
 obtain⟨_,_,_,sf⟩:=zxa hW hb;have Sk:Wk 8 [y,y1] w (R5 wv m'.cO (Int.toNat c*5+0) [.bool false]) (Se W c (Gm (gi W.ID c) false)) m':=hK.R5 (hK.own.At6 c0 c1 (j:=0) (vs:=[.bool false]) (x:=Gm (gi W.ID c) false) rfl Qs) zf3;refine⟨hr.c.ix Yh c0 c1,zyj hK.own hK.nb c0 c1 Qd,λRE Sb hZ=>?_⟩;have e5:Qb (Se W c (Gm (gi W.ID c) false)) m'=Qb W m':=zbp _ _ _ _;have hlV:(Se W c (Gm (gi W.ID c) false)).ID.length=W.ID.length:=by simp[Se]
 have hE:zw9 W c=Qh (Lq (Rp (Se W c (Gm (gi W.ID c) false)) c)):=rfl;rw[hE];generalize Se W c (Gm (gi W.ID c) false)=V at Sk sf e5 hlV;have c1V:c<(V.ID.length:Int):=by rw[hlV]; exact c1
 have fN:=Sk.step Sb;have Bf3:=ZG fN.own c0 c1V;rw[e5] at Bf3;refine I3 Bf3 ?_;rintro e0 wv0 ⟨he0,hy0⟩;refine⟨_,_,_,_,_,_,_,_,_,_,he0,fN.kept hy0 hZ,λRP Wt tP=>?_⟩;have sfE:=sf.Rp c0 c1V;have vR:=(fN.Sl hy0 hZ).step Wt;generalize Rp V c=U at vR sfE;have Rt:=U4 vR.own sfE (I2 _) (by simp only[Qj]; decide);refine I3 Rt ?_;rintro e1 R1 ⟨eH,dG⟩;refine⟨_,_,_,_,_,_,_,_,_,_,eH,vR.kept dG tP,λSn dK hs7=>?_⟩;have hK7:=(vR.Sl dG tP).step dK;have aK:=Qy hK7.own (G4 sfE (I2 _)).1.w (by simp only[Qj]; decide) (by simp only[Qj]; decide) hK7.base;rw[Be sfE (I2 _)] at aK;refine I3 aK ?_;rintro e2 Rr ⟨m2,aM,fL⟩;exact⟨_,_,_,_,_,_,_,_,_,_,aM,hK7.kept fL hs7,λSL nQ=>QL.ok hW hb ((hK7.Sl fL hs7).step nQ)⟩
end
noncomputable def XO(W:Q8)(t:Int):Int:=if Z4 W t=false then 2 else if (Q6 W t).state≠2 then 6 else if QK W=false then 10 else 0
def PJ(W:Q8)(t:Int):Int:=if zbe W (Q6 W t).J'>0 then Up W (Qn W (Q6 W t).group (Q6 W t).mask) else (Q6 W t).J'
def XP(W:Q8)(t c:Int):KW:={ Te W t (Q6 W t).group c with state:=1 }
def PK(W:Q8)(t:Int):Q8:=Qh (Rp (IM W t (XP W t (PJ W t))) (PJ W t))
theorem J7(W:Q8)(t:Int)(x:KW):(IM W t x).tasks.length=W.tasks.length:=by simp[IM]
theorem zbz{W:Q8}{t:Int}(h:(Q6 W t).state=2)(c:Int):Uq W t (Q6 W t).group c=IM W t (Te W t (Q6 W t).group c):=by
 unfold Uq;rw[B' (by rw[h]; decide)]
theorem N9{W:Q8}{t c:Int}(sf:SF Qq (Qq+Qj) W)(t0:0<=t)(t1:t<(W.tasks.length:Int))(n:(Q6 W t).state≠0)(c0:0<=c)(c1:c<(W.ID.length:Int)):SF Qq (Qq+Qj) (IM W t (XP W t c)):=by
 have hl:=sf.w.a.t;have hu:=(sf.w.t t t0 Qo n).1;have hv:=zsm sf (I2 _) (t:=t) hu c0 c1;exact sf.IM t0 Qo (x:=XP W t c) (λ_=>⟨hu,c0,c1⟩) hv.1 hv.2
theorem zb5{W:Q8}{t:Int}(hW:QB W=true)(hb:XO W t=0):Z4 W t=true/\(Q6 W t).state=2/\QK W=true/\SF Qq (Qq+Qj) W/\0<=PJ W t/\PJ W t<(W.ID.length:Int):=by
 have wp:=Qm.1 hW;unfold XO at hb
 split at hb
 ·cases hb
 ·rename_i h1
  split at hb
  ·cases hb
  ·rename_i h2
   split at hb
   ·cases hb
   ·rename_i h3;have h1:Z4 W t=true:=by simpa using h1
    have h2:(Q6 W t).state=2:=by simpa using h2
    have h3:QK W=true:=by simpa using h3
    have sw:=Mi wp (Qm.1 h3);obtain⟨t0,t1,n⟩:=Y0 h1;have hl:=wp.a.t;have hc:=sw.t t t0 Qo n;refine⟨h1,h2,h3,Kt sw,?_⟩;unfold PJ;split
    ·have:=Ln wp.a (Q6 W t).group (Q6 W t).mask;exact⟨this.1,this.2.1⟩
    ·exact hc.2
section
variable {base pb:Nat}{W W':Q8}{m:MW}{w:Wo}
theorem Gg{t:Int}(h:XF [] w W m)(hl:UG W) :
  Cz V7 #[.agg (Qb W m).toArray,I t] w λe w'=>∃v,e=.returned v/\QL (Yv W (XO W t) (PK W t)) w v w':=by
 refine k7 _ _ _ _ _ _ _ _ _ _ t (R:=λv w'=>QL (Yv W (XO W t) (PK W t)) w v w') ?_;intro y hy y1 aR wr R0 SR;refine I3 (Zi (h.ext R0) hl) ?_;rintro e wv (⟨hW,he,Sm⟩ | ⟨hW,m',he,hM,Sm⟩)
 ·exact⟨_,_,_,_,_,_,_,_,_,_,_,he,Qf Sm SR,λ_ I' R3=>QL.bad hW ((R0.trans Sm).fresh R3 λz hm=>.inl (X4 hy aR z hm)),λg=>by simp at g⟩
 have hK:=Wk.begin hy aR R0 SR hM Sm;have hr:=hK.rd;have wp:=Qm.1 hW;refine⟨_,_,_,_,_,_,_,_,_,_,_,he,Qf Sm SR,λg=>by split at g <;> simp at g,λ_=>⟨_,Ug hr hl.t,λg O' R3=>?_,λg=>?_⟩⟩
 ·have g:Z4 W t=false:=by simpa using g
  have hb:XO W t=2:=by unfold XO; rw[C' g]
  exact QL.no hW (by rw[hb]; decide) (hK.step R3) hb
 have g:Z4 W t=true:=by simpa using g
 obtain⟨t0,t1,tn⟩:=Y0 g;have fZ:=wp.a.t;have W8:=hr.t.ix QG t0 t1;refine⟨W8,_,hr.t.f t0 t1 (j:=0) rfl,λg2 Rj R3=>?_,λg2=>⟨λg3 Rn R3=>?_,λg3=>?_⟩⟩
 ·have g2:(Q6 W t).state≠2:=by simpa[Q6] using g2
  have hb:XO W t=6:=by unfold XO; rw[B' (by rw[g]; decide),C' g2]
  exact QL.no hW (by rw[hb]; decide) (hK.step R3) hb
 ·have g2:¬(Q6 W t).state≠2:=by simpa[Q6] using g2
  have bQ:¬QK W=true:=λhr=>by rw[C' hr] at g3; simp at g3
  have hb:XO W t=10:=by unfold XO; rw[B' (by rw[g]; decide),B' g2,C' (by simpa using bQ)]
  rw[B' bQ];exact QL.no hW (by rw[hb]; decide) (hK.step R3) hb
 have g2:¬(Q6 W t).state≠2:=by simpa[Q6] using g2
 have bQ:QK W=true:=Iq λhr=>by rw[B' hr] at g3; simp at g3
 have hb:XO W t=0:=by unfold XO; rw[B' (by rw[g]; decide),B' g2,B' (by rw[bQ]; decide)]
 have Bh6:(Q6 W t).state=2:=by simpa using g2
 obtain⟨_,_,_,sf,_,_⟩:=zb5 hW hb;obtain⟨hu,c0,c1⟩:=sf.w.t t t0 Qo tn;refine⟨W8,_,hr.t.f t0 t1 (j:=2) rfl,_,M2 hr fZ,λg4=>?_,λg4=>?_⟩
 ·have g4:zbe W (Q6 W t).J'>0:=Ot g4;have hC:PJ W t=Up W (Qn W (Q6 W t).group (Q6 W t).mask):=C' g4;obtain⟨d0,d1,_⟩:=Ln wp.a (Q6 W t).group (Q6 W t).mask;refine⟨W8,_,hr.t.f t0 t1 (j:=1) rfl,W8,_,hr.t.f t0 t1 (j:=4) rfl,_,JK hr wp.a.c2 wp.a.tree hu,_,Gh hr wp.a (zep wp),W8,_,hr.t.f t0 t1 (j:=1) rfl,λRE Sb hZ=>?_⟩;have eD:=hK.step Sb;have Rt:=VB eD.own sf (I2 _) (by simp only[Qj]; decide) (t:=t) (g:=(Q6 W t).group) (c:=Up W (Qn W (Q6 W t).group (Q6 W t).mask)) t0 Qo tn hu d0 d1;refine I3 Rt ?_;rintro e1 R1 ⟨eH,dG⟩;rw[zbz Bh6 (Up W (Qn W (Q6 W t).group (Q6 W t).mask))] at dG;have fG:=eD.Sl dG hZ
  have Sk:Wk 8 [y,y1] w (R5 R1 m'.tO (Int.toNat t*9+0) [I 1]) (IM W t (XP W t (Up W (Qn W (Q6 W t).group (Q6 W t).mask)))) m':=by
   have:Wk 8 [y,y1] w (R5 R1 m'.tO (Int.toNat t*9+0) [I 1]) (IM (IM W t (Te W t (Q6 W t).group (Up W (Qn W (Q6 W t).group (Q6 W t).mask)))) t (XP W t (Up W (Qn W (Q6 W t).group (Q6 W t).mask)))) m':=fG.R5 (fG.own.pN t0 (by rw[J7]; exact t1) (j:=0) (vs:=[I 1]) (x:=XP W t (Up W (Qn W (Q6 W t).group (Q6 W t).mask))) (by rw[show gi (IM W t (Te W t (Q6 W t).group (Up W (Qn W (Q6 W t).group (Q6 W t).mask)))).tasks t=_ from P5 t0 t1]; rfl) Qs) Kd
   rwa[set_set] at this
  have B91:Ix m'.tO W.tasks.length t:=by
   have:=fG.rd.t.ix QG t0 (by rw[J7]; exact t1)
   rwa[J7] at this
  refine⟨_,_,_,_,_,_,_,_,_,_,eH,eD.kept dG hZ,B91,zkh fG.own fG.nb t0 (by rw[J7]; exact t1) (j:=0) Qd,λRP Wt tP=>?_⟩;have e5:Qb (IM W t (XP W t (Up W (Qn W (Q6 W t).group (Q6 W t).mask)))) m'=Qb W m':=VJ _ _ _ _;have hE:PK W t=Qh (Rp (IM W t (XP W t (Up W (Qn W (Q6 W t).group (Q6 W t).mask)))) (Up W (Qn W (Q6 W t).group (Q6 W t).mask))):=by unfold PK; rw[hC]
  have sfV:=N9 sf t0 t1 tn d0 d1;rw[hE];have hlV:(IM W t (XP W t (Up W (Qn W (Q6 W t).group (Q6 W t).mask)))).ID.length=W.ID.length:=rfl;generalize IM W t (XP W t (Up W (Qn W (Q6 W t).group (Q6 W t).mask)))=V at Sk e5 sfV hlV;have vR:=Sk.step Wt;have aK:=ZG vR.own d0 (by rw[hlV]; exact d1);rw[e5] at aK;refine I3 aK ?_;rintro e2 Rr ⟨aM,fL⟩;refine⟨_,_,_,_,_,_,_,_,_,_,aM,vR.kept fL tP,λSn dK hs7=>?_⟩;have hK7:=(vR.Sl fL tP).step dK;have uG:=Qy hK7.own (sfV.Rp d0 (by rw[hlV]; exact d1)).w (by simp only[Qj]; decide) (by simp only[Qj]; decide) hK7.base;refine I3 uG ?_;rintro e3 RO ⟨m2,fS,hy5⟩;exact⟨_,_,_,_,_,_,_,_,_,_,fS,hK7.kept hy5 hs7,λSL nQ=>QL.ok hW hb ((hK7.Sl hy5 hs7).step nQ)⟩
 ·have g4:¬zbe W (Q6 W t).J'>0:=Ou g4;have hC:PJ W t=(Q6 W t).J':=B' g4;have d0:=c0;have d1:=c1;refine⟨W8,_,hr.t.f t0 t1 (j:=1) rfl,λRE Sb hZ=>?_⟩;have eD:=hK.step Sb;have Rt:=VB eD.own sf (I2 _) (by simp only[Qj]; decide) (t:=t) (g:=(Q6 W t).group) (c:=(Q6 W t).J') t0 Qo tn hu d0 d1;refine I3 Rt ?_;rintro e1 R1 ⟨eH,dG⟩;rw[zbz Bh6 ((Q6 W t).J')] at dG;have fG:=eD.Sl dG hZ
  have Sk:Wk 8 [y,y1] w (R5 R1 m'.tO (Int.toNat t*9+0) [I 1]) (IM W t (XP W t ((Q6 W t).J'))) m':=by
   have:Wk 8 [y,y1] w (R5 R1 m'.tO (Int.toNat t*9+0) [I 1]) (IM (IM W t (Te W t (Q6 W t).group ((Q6 W t).J'))) t (XP W t ((Q6 W t).J'))) m':=fG.R5 (fG.own.pN t0 (by rw[J7]; exact t1) (j:=0) (vs:=[I 1]) (x:=XP W t ((Q6 W t).J')) (by rw[show gi (IM W t (Te W t (Q6 W t).group ((Q6 W t).J'))).tasks t=_ from P5 t0 t1]; rfl) Qs) Kd
   rwa[set_set] at this
  have B91:Ix m'.tO W.tasks.length t:=by
   have:=fG.rd.t.ix QG t0 (by rw[J7]; exact t1)
   rwa[J7] at this
  refine⟨_,_,_,_,_,_,_,_,_,_,eH,eD.kept dG hZ,B91,zkh fG.own fG.nb t0 (by rw[J7]; exact t1) (j:=0) Qd,λRP Wt tP=>?_⟩;have e5:Qb (IM W t (XP W t ((Q6 W t).J'))) m'=Qb W m':=VJ _ _ _ _;have hE:PK W t=Qh (Rp (IM W t (XP W t ((Q6 W t).J'))) ((Q6 W t).J')):=by unfold PK; rw[hC]
  have sfV:=N9 sf t0 t1 tn d0 d1;rw[hE];have hlV:(IM W t (XP W t ((Q6 W t).J'))).ID.length=W.ID.length:=rfl;generalize IM W t (XP W t ((Q6 W t).J'))=V at Sk e5 sfV hlV;have vR:=Sk.step Wt;have aK:=ZG vR.own d0 (by rw[hlV]; exact d1);rw[e5] at aK;refine I3 aK ?_;rintro e2 Rr ⟨aM,fL⟩;refine⟨_,_,_,_,_,_,_,_,_,_,aM,vR.kept fL tP,λSn dK hs7=>?_⟩;have hK7:=(vR.Sl fL tP).step dK;have uG:=Qy hK7.own (sfV.Rp d0 (by rw[hlV]; exact d1)).w (by simp only[Qj]; decide) (by simp only[Qj]; decide) hK7.base;refine I3 uG ?_;rintro e3 RO ⟨m2,fS,hy5⟩;exact⟨_,_,_,_,_,_,_,_,_,_,fS,hK7.kept hy5 hs7,λSL nQ=>QL.ok hW hb ((hK7.Sl hy5 hs7).step nQ)⟩
theorem zlw{cap:OA}{t:Int}(h:PW base pb w W m)(hW:QB W=true)(hc:Q1 [] w cap 0 [I t]) :
  Cz JY #[.pointer (pA pb),.pointer cap] w λe w2=>(XO W t≠0/\e=.returned (.iface Qi (.agg #[I (XO W t)]))/\Q0 [] w w2)\/(XO W t=0/\e=.returned .nilIface/\∃m2,Ki base pb [] w m w2 (PK W t) m2):=by
 have wp:=Qm.1 hW;have hM:=Mp.start h;have hp:=hM.wH
 refine(B4 (pA pb) cap (R:=λv w2=>(XO W t≠0/\v=.iface Qi (.agg #[I (XO W t)])/\Q0 [] w w2)\/(XO W t=0/\v=.nilIface/\∃m2,Ki base pb [] w m w2 (PK W t) m2)) ?_).mono λe w' ⟨v,he,h3⟩=>by
  rw[he];rcases h3 with ⟨a,b,c⟩ | ⟨a,b,c⟩
  ·exact .inl ⟨a,by rw[b],c⟩
  ·exact .inr ⟨a,by rw[b],c⟩
 refine⟨t,hc,_,JJ hp (by have:=wp.a.t; have:=Zg; omega),λg wr hx=>.inl ?_,λg=>?_⟩
 ·have g:Z4 W t=false:=by unfold Z4; simpa only[IB] using g
  have hb:XO W t=2:=by unfold XO; rw[C' g]
  rw[hb];exact⟨Qd,rfl,hx⟩
 have g:Z4 W t=true:=by unfold Z4; simpa only[I6] using g
 obtain⟨t0,t1,tn⟩:=Y0 g;have fZ:=wp.a.t;refine⟨hp.some,_,_,_,hp.tasks,t,hc,hp.rd.t.ix QG t0 t1,_,hp.rd.t.f t0 t1 (j:=0) rfl,λg2 wr hx=>.inl ?_,λg2=>⟨_,TX hp wp.a,λg3 wr hx=>.inl ?_,λg3=>?_⟩⟩
 ·have g2:(Q6 W t).state≠2:=by simpa[Q6] using g2
  have hb:XO W t=6:=by unfold XO; rw[B' (by rw[g]; decide),C' g2]
  rw[hb];exact⟨Qd,rfl,hx⟩
 ·have g2:¬(Q6 W t).state≠2:=by simpa[Q6] using g2
  have g3:QK W=false:=by simpa using g3
  have hb:XO W t=10:=by unfold XO; rw[B' (by rw[g]; decide),B' g2,C' g3]
  rw[hb];exact⟨Qd,rfl,hx⟩
 have g2:¬(Q6 W t).state≠2:=by simpa[Q6] using g2
 have g3:QK W=true:=by simpa using g3
 have hb:XO W t=0:=by unfold XO; rw[B' (by rw[g]; decide),B' g2,B' (by rw[g3]; decide)]
 have Bh6:(Q6 W t).state=2:=by simpa using g2
 obtain⟨_,_,_,sf,_,_⟩:=zb5 hW hb;obtain⟨hu,c0,c1⟩:=sf.w.t t t0 Qo tn;refine⟨_,hp.rd.t.f t0 t1 (j:=2) rfl,_,_,LL hp fZ (zep wp),λg4=>?_,λg4=>?_⟩
 ·have g4:zbe W (Q6 W t).J'>0:=Ot g4;have hC:PJ W t=Up W (Qn W (Q6 W t).group (Q6 W t).mask):=C' g4;obtain⟨d0,d1,_⟩:=Ln wp.a (Q6 W t).group (Q6 W t).mask;have hwo:=Kh wp.a (Q6 W t).group (Q6 W t).mask;refine⟨t,hc,_,K4 hp wp.a.c2 wp.a.tree t0 t1 hu,λRj R3 _=>?_⟩;have hM1:=hM.nil R3;refine I3 (Hk hM1.wH wp.a (zep wp) (λc hcx=>KE wp.a hcx) hwo.1 hwo.2) ?_;rintro e wv ⟨he,hy⟩;have CK2:=hM1.nil hy;refine⟨_,he,Z3,t,(hc.ext R3).ext hy,_,CK2.wH.rd.t.f t0 t1 (j:=1) rfl,λRn Si _=>?_⟩;have T':=CK2.nil Si;refine I3 (LR T'.pw sf (I2 _) (by simp only[Qj]; decide) (t:=t) (g:=(Q6 W t).group) (c:=Up W (Qn W (Q6 W t).group (Q6 W t).mask)) t0 Qo tn hu d0 d1) ?_;rintro e1 R1 ⟨eH,aR⟩;rw[zbz Bh6 (Up W (Qn W (Q6 W t).group (Q6 W t).mask))] at aR;have cJ:=T'.call aR Qs
  have Sk:Mp base pb [] w m (R5 R1 m.tO (Int.toNat t*9+0) [I 1]) (IM W t (XP W t (Up W (Qn W (Q6 W t).group (Q6 W t).mask)))) m:=by
   have:Mp base pb [] w m (R5 R1 m.tO (Int.toNat t*9+0) [I 1]) (IM (IM W t (Te W t (Q6 W t).group (Up W (Qn W (Q6 W t).group (Q6 W t).mask)))) t (XP W t (Up W (Qn W (Q6 W t).group (Q6 W t).mask)))) m:=cJ.Sl (cJ.own.pN t0 (by rw[J7]; exact t1) (j:=0) (vs:=[I 1]) (x:=XP W t (Up W (Qn W (Q6 W t).group (Q6 W t).mask))) (by rw[show gi (IM W t (Te W t (Q6 W t).group (Up W (Qn W (Q6 W t).group (Q6 W t).mask)))).tasks t=_ from P5 t0 t1]; rfl) Qs) Kd (VJ _ _ _ _)
   rwa[set_set] at this
  refine⟨eH,Z3,zkh cJ.own cJ.nb t0 (by rw[J7]; exact t1) (j:=0) Qd,_,_,Yr,λRE Sb _=>?_⟩;have hE:PK W t=Qh (Rp (IM W t (XP W t (Up W (Qn W (Q6 W t).group (Q6 W t).mask)))) (Up W (Qn W (Q6 W t).group (Q6 W t).mask))):=by unfold PK; rw[hC]
  have sfV:=N9 sf t0 t1 tn d0 d1;rw[hE];have hlV:(IM W t (XP W t (Up W (Qn W (Q6 W t).group (Q6 W t).mask)))).ID.length=W.ID.length:=rfl;generalize IM W t (XP W t (Up W (Qn W (Q6 W t).group (Q6 W t).mask)))=V at Sk sfV hlV;have tV:=Sk.nil Sb;refine I3 (YT tV.pw d0 (by rw[hlV]; exact d1)) ?_;rintro e2 Rr ⟨aM,Sm⟩;refine⟨aM,Z3,λRP Wt _=>?_⟩;have rZ:=(tV.call Sm Qs).nil Wt;refine I3 (Jt rZ.pw (sfV.Rp d0 (by rw[hlV]; exact d1)).w (by simp only[Qj]; decide) (by simp only[Qj]; decide)) ?_;rintro e3 RO ⟨fS,dG⟩;exact⟨fS,Z3,λSn dK=>.inr ⟨hb,rfl,m,((rZ.call dG Qs).nil dK).done⟩⟩
 ·have g4:¬zbe W (Q6 W t).J'>0:=Ou g4;have hC:PJ W t=(Q6 W t).J':=B' g4;have d0:=c0;have d1:=c1;refine⟨t,hc,_,hp.rd.t.f t0 t1 (j:=1) rfl,λRn Si _=>?_⟩;have T':=hM.nil Si;refine I3 (LR T'.pw sf (I2 _) (by simp only[Qj]; decide) (t:=t) (g:=(Q6 W t).group) (c:=(Q6 W t).J') t0 Qo tn hu d0 d1) ?_;rintro e1 R1 ⟨eH,aR⟩;rw[zbz Bh6 ((Q6 W t).J')] at aR;have cJ:=T'.call aR Qs
  have Sk:Mp base pb [] w m (R5 R1 m.tO (Int.toNat t*9+0) [I 1]) (IM W t (XP W t ((Q6 W t).J'))) m:=by
   have:Mp base pb [] w m (R5 R1 m.tO (Int.toNat t*9+0) [I 1]) (IM (IM W t (Te W t (Q6 W t).group ((Q6 W t).J'))) t (XP W t ((Q6 W t).J'))) m:=cJ.Sl (cJ.own.pN t0 (by rw[J7]; exact t1) (j:=0) (vs:=[I 1]) (x:=XP W t ((Q6 W t).J')) (by rw[show gi (IM W t (Te W t (Q6 W t).group ((Q6 W t).J'))).tasks t=_ from P5 t0 t1]; rfl) Qs) Kd (VJ _ _ _ _)
   rwa[set_set] at this
  refine⟨eH,Z3,zkh cJ.own cJ.nb t0 (by rw[J7]; exact t1) (j:=0) Qd,_,_,Yr,λRE Sb _=>?_⟩;have hE:PK W t=Qh (Rp (IM W t (XP W t ((Q6 W t).J'))) ((Q6 W t).J')):=by unfold PK; rw[hC]
  have sfV:=N9 sf t0 t1 tn d0 d1;rw[hE];have hlV:(IM W t (XP W t ((Q6 W t).J'))).ID.length=W.ID.length:=rfl;generalize IM W t (XP W t ((Q6 W t).J'))=V at Sk sfV hlV;have tV:=Sk.nil Sb;refine I3 (YT tV.pw d0 (by rw[hlV]; exact d1)) ?_;rintro e2 Rr ⟨aM,Sm⟩;refine⟨aM,Z3,λRP Wt _=>?_⟩;have rZ:=(tV.call Sm Qs).nil Wt;refine I3 (Jt rZ.pw (sfV.Rp d0 (by rw[hlV]; exact d1)).w (by simp only[Qj]; decide) (by simp only[Qj]; decide)) ?_;rintro e3 RO ⟨fS,dG⟩;exact⟨fS,Z3,λSn dK=>.inr ⟨hb,rfl,m,((rZ.call dG Qs).nil dK).done⟩⟩
theorem zae{t:Int}(h:XF [] w W m)(hl:UG W)(hg:Vw w) :
  Cz OE #[.agg (Qb W m).toArray,I t] w λe w'=>∃v,e=.returned v/\QL (Yv W (XO W t) (PK W t)) w v w':=by
 refine CU _ _ _ _ _ _ _ _ _ _ t (R:=λv w'=>QL (Yv W (XO W t) (PK W t)) w v w') ?_;intro x hx b1 wb RR fQ hc hn b2 bR wr R0 hs;have hX:Q0 [] w wr:=RR.fresh R0 λy hy=>.inl (O0 hy hx)
 have hc2:=Qg hc R0 hn;refine I3 (L7 (bar:=XO W t) (W':=PK W t) (h.ext hX) hl (hg.ext hX) λw1 pb m1 hW R3 hpb hP=>.inl ⟨JY,_,rfl,zlw hP hW (Ym (Qg hc2 R3 Qs) Qs (k0:=0) rfl)⟩) ?_;rintro e wv ⟨v,he,n,m',hv,hM,hy⟩;subst hv;refine⟨_,_,_,_,_,_,_,_,_,_,_,he,Qf hy hs,λI' Si=>⟨n,m',rfl,(hM.ext Si λy hy hm=>?_).mono hX.size,(hX.trans hy).fresh Si λy hm=>?_⟩⟩
 ·have:=(hM.lt y hy).1;have:=hs y hm;omega
 ·simp only[Ii,List.not_mem_nil,or_false] at hm;rcases hm with rfl | rfl
  ·exact .inl hx
  ·exact .inl (IA RR.size bR)
end
theorem zkf{a b w:Int}(ha:0<=a)(hb:0<=b)(h:a+b<=100000000)(w1:1<=w)(w2:w<=20):Zh (a+b) w=Zh a w+Zh b w:=by
 rw[PI Qo h w1 w2,PI ha Qo w1 w2,PI hb Qo w1 w2,Int.add_mul]
theorem zt4{l w:Int}(h0:0<=l)(h1:l<=Zw w):Yk l w=l:=by
 unfold Yk;rw[B' (show ¬Zw w<l by omega)]
 split <;> omega
theorem KY{p q:Nat->Bool}:∀{n:Nat},(∀j,j<n->p j=q j)->Oe p n=Oe q n
 | 0,_=>rfl
 | n+1,h=>by simp only[Oe]; rw[KY λj hj=>h j Qo,h n Qo]
theorem Kr{p q:Nat->Bool}{v u:Nat->Int}:∀{n:Nat},(∀j,j<n->p j=q j)->(∀j,j<n->p j=true->v j=u j)->Z0 p v n=Z0 q u n
 | 0,_,_=>rfl
 | n+1,h,hv=>by
  have ih:=Kr (p:=p) (q:=q) (v:=v) (u:=u) (n:=n) (λj hj=>h j Qo) λj hj=>hv j Qo
  simp only[Z0];rw[ih,<-h n Qo]
  cases hp:p n with
  | false=>simp
  | true=>
   rw[hv n Qo hp];rcases Zv q u n with ⟨e,_⟩ | ⟨e0,e1,e2,_⟩
   ·rw[e]; simp
   ·rw[hv _ Qo (by rw[h _ Qo]; exact e2)]
theorem X1{gs:List ZX}(ht:Ye gs):∀g:Int,Q7 gs g=true->∀x∈Zd gs g,Q7 gs x=true/\x≠0:=
 K7 ht (λx hx=>by rw[show Zd gs 0=[] from Zs _ _] at hx; cases hx) λh hu hz ih x hx=>by
  rw[YU ht hu hz] at hx;rcases Ii.1 hx with e | e
  ·subst e; exact⟨hu,hz⟩
  ·exact ih x e
def Tg(W:Q8)(k c:Int):Prop:=(Qc W (gi W.IC k).parent c).floor<=(Qc W k c).v/\(Qc W k c).v-(Qc W (gi W.IC k).parent c).floor<=Zw (Qc W k c).w
structure Fu (W:Q8) (x:KW):Prop where
 st:x.state=1\/x.state=2
 g:Q7 W.IC x.group=true
 n:Qe x.nice≠0
 m:O7 x.mask=true
 m0:x.mask≠0
 s:ZO x.sum=true
 u:ZO x.used=true
 l1:0<=x.load
 l2:x.load<=8000000
 f:x.state=1->(Qc W x.group x.J').floor<=x.v/\x.v-(Qc W x.group x.J').floor<=Zw (Qe x.nice)
structure zpl (W:Q8) (k c:Int):Prop where
 s:ZO (Qc W k c).sum=true
 root:k=0->(Qc W k c).on=false/\(Qc W k c).v=0/\(Qc W k c).w=10
 st:k≠0->(Qc W k c).on=true->Tg W k c
structure z1f (W:Q8) (c:Int):Prop where
 b:ZO (gi W.ID c).busy=true
 i:ZO (gi W.ID c).idle=true
 c1 : -1<=(gi W.ID c).cur
 c2:(gi W.ID c).cur<12
 no:(gi W.ID c).cur<0->(gi W.ID c).WV=0
 yes:0<=(gi W.ID c).cur->(gi W.ID c).up=true/\1<=(gi W.ID c).WV/\(gi W.ID c).WV<=149
 q:0<=(gi W.ID c).cur->(Q6 W (gi W.ID c).cur).state=1->(Q6 W (gi W.ID c).cur).J'=c->
  (Q6 W (gi W.ID c).cur).v-(Qc W (Q6 W (gi W.ID c).cur).group c).floor<=Zh (gi W.ID c).WV (Qe (Q6 W (gi W.ID c).cur).nice)/\
  ∀x∈Zd W.IC (Q6 W (gi W.ID c).cur).group,Tg W x c/\(Qc W x c).v-(Qc W (gi W.IC x).parent c).floor<=Zh (gi W.ID c).WV (Qc W x c).w
structure PreA (W:Q8):Prop where
 a:WA W
 t:∀t:Int,0<=t->t<12->(Q6 W t).state=0/\Q6 W t=Ow\/(Q6 W t).state≠0/\Fu W (Q6 W t)
 l:∀t:Int,0<=t->t<12->(Q6 W t).state≠0->0<=(Q6 W t).J'/\(Q6 W t).J'<(W.ID.length:Int)
 s:∀k c:Int,Q7 W.IC k=true->0<=c->c<(W.ID.length:Int)->zpl W k c
structure O6 (W:Q8):Prop extends PreA W where
 c:∀c:Int,0<=c->c<(W.ID.length:Int)->z1f W c
def zb8(W:Q8):Prop:=∀t:Int,0<=t->t<12->(Q6 W t).state≠0->Z1 (Qn W (Q6 W t).group (Q6 W t).mask) (Q6 W t).J'=true
def z37(W:Q8):Prop:=∀k c:Int,Q7 W.IC k=true->0<=c->c<(W.ID.length:Int)->Zy W k c 20=true->Z6 W k c 20<=(Qc W k c).floor
theorem HP{v f k:Int}(hv:ZO v=true)(hf:ZO f=true):KT v f k=true↔f<=v/\v-f<=Zw k:=by
 have h1:=YV.1 hv;have h2:=YV.1 hf;have hw:IntKind.i64.wrap (v-f)=v-f:=Qr.wrap (k:=.i64) ⟨by show _<=v-f; omega,by show v-f<=_; omega⟩;unfold KT;rw[hw];simp
theorem Vr{W:Q8}(wp:Jq W):zb8 W:=λt t0 t1 n=>by
 rcases wp.t t t0 t1 with h | h
 ·exact Ir h.1 n
 ·exact h.2.c
theorem HO{W:Q8}(wp:Jq W){k c:Int}(hu:Q7 W.IC k=true)(c0:0<=c)(c1:c<(W.ID.length:Int)):KA W k c:=by
 obtain⟨u0,u1,_⟩:=wp.a.u hu;have hl:=wp.a.sl hu;exact wp.s k c u0 u1 c0 Qo
theorem XN{W:Q8}(wp:Jq W):O6 W:=by
 have gX:∀k c:Int,Q7 W.IC k=true->k≠0->0<=c->c<(W.ID.length:Int)->(Qc W k c).on=true->Tg W k c:=λk c hu hz c0 c1 ho=>by
  have h1:=HO wp hu c0 c1;have h2:=HO wp (wp.a.up hu hz) c0 c1;exact(HP h1.v h2.f).1 (h1.st hz ho)
 refine⟨⟨wp.a,λt t0 t1=>?_,λt t0 t1 n=>?_,λk c hu c0 c1=>?_⟩,λc c0 c1=>?_⟩
 ·rcases wp.t t t0 t1 with h | ⟨n,h⟩
  ·exact .inl h
  ·refine .inr ⟨n,h.st,h.g,h.n,h.m,h.m0,h.s,h.u,h.l1,h.l2,λh1=>?_⟩;obtain⟨d0,d1⟩:=KE wp.a h.c;exact(HP h.v (HO wp h.g d0 d1).f).1 (h.f h1)
 ·rcases wp.t t t0 t1 with h | ⟨_,h⟩
  ·exact Ir h.1 n
  ·exact KE wp.a h.c
 ·have h:=HO wp hu c0 c1;exact⟨h.s,h.root,λhz ho=>gX k c hu hz c0 c1 ho⟩
 ·have h:=wp.c c c0 c1;have hl:=wp.a.t;refine⟨h.b,h.i,h.c1,by have:=h.c2; omega,h.no,λh0=>⟨(h.yes h0).1,(h.yes h0).2.1,(h.yes h0).2.2.1⟩,λh0 h1 h2=>?_⟩;obtain⟨_,_,_,_,mS,BJ2⟩:=h.yes h0;unfold Kc at BJ2;rw[A',Ij] at BJ2;refine⟨BJ2.1,λx hx=>?_⟩
  have hu:Q7 W.IC (Q6 W (gi W.ID c).cur).group=true:=by
   rcases wp.t _ h0 (by have:=h.c2; omega) with hz | ⟨_,hz⟩
   ·rw[hz.1] at h1; cases h1
   ·exact hz.g
  obtain⟨xu,xz⟩:=X1 wp.a.tree _ hu x hx;unfold ZL VC at mS;rw[A',h2,List.all_eq_true] at mS;have hs:=BJ2.2;unfold Ov at hs;rw[List.all_eq_true] at hs;exact⟨gX x c xu xz c0 c1 (mS.2 x hx),Ot (hs x hx)⟩
structure Ng (c:Int) (W W':Q8):Prop where
 n:W'.now=W.now
 t:W'.tasks=W.tasks
 g:Z7 W.IC W'.IC
 len:W'.ID.length=W.ID.length
 b:∀i:Int,0<=i->(gi W'.IC i).IS=(gi W.IC i).IS
 e:∀k d:Int,0<=k->0<=d->d≠c->Qc W' k d=Qc W k d
 cp:∀d:Int,0<=d->d≠c->gi W'.ID d=gi W.ID d
theorem Ng.refl(c:Int)(W:Q8):Ng c W W:=⟨rfl,rfl,Z7.refl _,rfl,λ_ _=>rfl,λ_ _ _ _ _=>rfl,λ_ _ _=>rfl⟩
theorem Ng.trans{c:Int}{A B C:Q8}(h:Ng c A B)(k:Ng c B C):Ng c A C:=⟨k.n.trans h.n,k.t.trans h.t,h.g.trans k.g,k.len.trans h.len,λi hi=>(k.b i hi).trans (h.b i hi),λi d hi hd hn=>(k.e i d hi hd hn).trans (h.e i d hi hd hn),λd hd hn=>(k.cp d hd hn).trans (h.cp d hd hn)⟩
theorem Ak{W:Q8}{g c:Int}{s:GO}(h0:0<=g)(h1:g<(W.IC.length:Int))(c0:0<=c)(c1:c<((gi W.IC g).IE.length:Int)):Ng c W (RF W g c s):=
 ⟨rfl,rfl,Jm h0 h1,rfl,λi hi=>zi4 h0 h1 hi,λk d hk hd hn=>by
  rw[Vf h0 h1 c0 c1 hk hd,B' λh=>hn h.2.symm],λ_ _ _=>rfl⟩
theorem zog{W:Q8}{c:Int}(c0:0<=c)(c1:c<(W.ID.length:Int)):Ng c W (Rp W c):=
 ⟨rfl,rfl,Z7.refl _,E',λ_ _=>rfl,λ_ _ _ _ _=>rfl,λd d0 hn=>by
  show gi (W.ID.set c.toNat (Js (gi W.ID c))) d=_;rw[QO _ _ c0 c1 d0,B' λh=>hn h.symm]⟩
section
variable {c d:Int}{W W':Q8}
theorem Pq(ht:W'.tasks=W.tasks)(hT:Z7 W.IC W'.IC){g:Int}(h:∀j:Nat,j<W.IC.length->1<=j->(gi W.IC (j:Int)).used=true->(gi W.IC (j:Int)).parent=g->(Qc W' (j:Int) d).on=(Qc W (j:Int) d).on):QX W' g d=QX W g d:=by
 unfold QX;rw[ht,hT.len]
 congr 1
 ·refine KY λj _=>?_
  unfold Pp;rw[ht]
 ·refine KY λj hj=>?_
  unfold Jy;rw[hT.u,hT.p]
  by_cases h1:1<=j
  ·cases hu:(gi W.IC (j:Int)).used with
   | false=>simp
   | true=>
    by_cases hp:(gi W.IC (j:Int)).parent=g
    ·rw[h j hj h1 hu hp]
    ·rw[show ((gi W.IC (j:Int)).parent==g)=false from beq_false_of_ne hp]; simp
  ·simp[h1]
theorem zub(ht:W'.tasks=W.tasks)(hT:Z7 W.IC W'.IC)(hl:W.IC.length=8)(h:∀k:Int,0<=k->(Qc W' k d).on=(Qc W k d).on)(g:Int){j:Nat}(hj:j<20):Zr W' g d j=Zr W g d j:=by
 unfold Zr;split
 ·unfold Pp; rw[ht]
 ·unfold Jy;rw[hT.u,hT.p,h _ Qo]
theorem zjj(ht:W'.tasks=W.tasks)(h:∀k:Int,0<=k->(Qc W' k d).v=(Qc W k d).v)(j:Nat):Zl W' d j=Zl W d j:=by
 unfold Zl;split
 ·unfold Q6; rw[ht]
 ·rw[h _ Qo]
theorem NH(ht:W'.tasks=W.tasks)(hT:Z7 W.IC W'.IC)(hl:W.IC.length=8)(h:∀k:Int,0<=k->(Qc W' k d).on=(Qc W k d).on)(hv:∀k:Int,0<=k->(Qc W' k d).v=(Qc W k d).v)(g:Int):Zy W' g d 20=Zy W g d 20/\Z6 W' g d 20=Z6 W g d 20:=by
 have e:Z0 (Zr W' g d) (Zl W' d) 20=Z0 (Zr W g d) (Zl W d) 20:=Kr (λj hj=>zub ht hT hl h g hj) λj _ _=>zjj ht hv j
 unfold Zy Z6;rw[e];refine⟨rfl,?_⟩;split
 ·rfl
 ·exact zjj ht hv _
theorem Ju(ht:W'.tasks=W.tasks)(t:Int):Q6 W' t=Q6 W t:=by unfold Q6; rw[ht]
theorem O5(hT:Z7 W.IC W'.IC)(g:Int):Zd W'.IC g=Zd W.IC g:=hT.path 3 g
theorem zlb{g:Int}(hb:(gi W'.IC g).IS=(gi W.IC g).IS):UD W' g d=UD W g d:=by unfold UD; rw[hb]
end
theorem zro{W:Q8}{g c:Int}{j:Nat}(hj:j<20)(h:Zr W g c j=true):Zy W g c 20=true/\Z6 W g c 20<=Zl W c j:=by
 unfold Zy Z6;rcases Zv (Zr W g c) (Zl W c) 20 with ⟨_,h2⟩ | ⟨h1,_,_,h4,_⟩
 ·rw[h2 j hj] at h; cases h
 ·rw[B' Qo];exact⟨Ih h1,h4 j hj h⟩
theorem ztg{W:Q8}(ha:WA W){t:Int}(t0:0<=t)(t1:t<12)(hs:(Q6 W t).state=1):Zy W (Q6 W t).group (Q6 W t).J' 20=true/\Z6 W (Q6 W t).group (Q6 W t).J' 20<=(Q6 W t).v:=by
 have e:((t.toNat:Nat):Int)=t:=Qo
 have h:Zr W (Q6 W t).group (Q6 W t).J' t.toNat=true:=by
  rw[Vs Qo];unfold Pp;rw[e];show (((Q6 W t).state==1)&&((Q6 W t).group==_)&&((Q6 W t).J'==_))=true;rw[hs]; simp
 have:=zro Qo h
 rwa[F2 Qo,e] at this
theorem zpt{W:Q8}(ha:WA W){k c:Int}(hu:Q7 W.IC k=true)(hz:k≠0)(ho:(Qc W k c).on=true):Zy W (gi W.IC k).parent c 20=true/\Z6 W (gi W.IC k).parent c 20<=(Qc W k c).v:=by
 obtain⟨k0,k1,ku⟩:=Q4.1 hu;have hl:=ha.gl;have e:((k.toNat:Nat):Int)=k:=Qo
 have h:Zr W (gi W.IC k).parent c (12+k.toNat)=true:=by
  rw[Uo];unfold Jy;rw[e,ku,ho];simp;omega
 have:=zro Qo h
 rwa[F1,e] at this
structure LC (c:Int) (W W':Q8):Prop where
 o:Ng c W W'
 cs:W'.ID=W.ID
 f:∀k d:Int,0<=k->0<=d->(Qc W' k d).floor=(Qc W k d).floor
 w:∀k d:Int,0<=k->0<=d->(Qc W' k d).w=(Qc W k d).w
 s:∀k d:Int,0<=k->0<=d->(Qc W' k d).sum=(Qc W k d).sum
 r:∀d:Int,0<=d->Qc W' 0 d=Qc W 0 d
 v:∀k d:Int,Q7 W.IC k=true->k≠0->0<=d->Tg W k d->(Qc W' k d).v=(Qc W k d).v
theorem LC.refl(c:Int)(W:Q8):LC c W W:=⟨Ng.refl _ _,rfl,λ_ _ _ _=>rfl,λ_ _ _ _=>rfl,λ_ _ _ _=>rfl,λ_ _=>rfl,λ_ _ _ _ _ _=>rfl⟩
theorem LC.st{c:Int}{W W':Q8}(ht:Ye W.IC)(h:LC c W W'){k d:Int}(hu:Q7 W.IC k=true)(hz:k≠0)(d0:0<=d)(hs:Tg W k d):Tg W' k d:=by
 have hp:=(Q4.1 (Yf ht hu hz).1).1;have k0:=(Q4.1 hu).1;unfold Tg;rw[h.o.g.p,h.f _ d hp d0,h.v k d hu hz d0 hs,h.w k d k0 d0];exact hs
theorem LC.trans{c:Int}{A B C:Q8}(ht:Ye A.IC)(h:LC c A B)(k:LC c B C):LC c A C:=
 ⟨h.o.trans k.o,k.cs.trans h.cs,λi d a b=>(k.f i d a b).trans (h.f i d a b),λi d a b=>(k.w i d a b).trans (h.w i d a b),λi d a b=>(k.s i d a b).trans (h.s i d a b),λd a=>(k.r d a).trans (h.r d a),λi d hu hz d0 hs=>by
  rw[k.v i d (by rw[h.o.g.eB]; exact hu) hz d0 (h.st ht hu hz d0 hs),h.v i d hu hz d0 hs]⟩
theorem O6.lc{c:Int}{W W':Q8}(p:O6 W)(h:LC c W W')(ha:WA W')(hon:∀k d:Int,Q7 W.IC k=true->k≠0->0<=d->d<(W.ID.length:Int)->(Qc W' k d).on=true->Tg W' k d):O6 W':=by
 have et:∀t,Q6 W' t=Q6 W t:=Ju h.o.t;refine⟨⟨ha,λt t0 t1=>?_,λt t0 t1 n=>?_,λk d hu d0 d1=>?_⟩,λd d0 d1=>?_⟩
 ·rw[et];rcases p.t t t0 t1 with hz | ⟨n,hx⟩
  ·exact .inl hz
  ·refine .inr ⟨n,hx.st,by rw[h.o.g.eB]; exact hx.g,hx.n,hx.m,hx.m0,hx.s,hx.u,hx.l1,hx.l2,λh1=>?_⟩;rw[h.f _ _ (Q4.1 hx.g).1 (p.l t t0 t1 n).1];exact hx.f h1
 ·rw[et] at n ⊢;rw[h.o.len];exact p.l t t0 t1 n
 ·rw[h.o.g.eB] at hu;rw[h.cs] at d1;have hs:=p.s k d hu d0 d1;have k0:=(Q4.1 hu).1;refine⟨by rw[h.s k d k0 d0]; exact hs.s,λhz=>?_,λhz ho=>hon k d hu hz d0 d1 ho⟩;subst hz;rw[h.r d d0];exact hs.root rfl
 ·rw[h.cs] at d1;have hc:=p.c d d0 d1;refine⟨by rw[h.cs]; exact hc.b,by rw[h.cs]; exact hc.i,by rw[h.cs]; exact hc.c1,by rw[h.cs]; exact hc.c2,by rw[h.cs]; exact hc.no,by rw[h.cs]; exact hc.yes,?_⟩;rw[h.cs];simp only[et];intro h0 h1 h2;obtain⟨q1,q2⟩:=hc.q h0 h1 h2
  have hu:Q7 W.IC (Q6 W (gi W.ID d).cur).group=true:=by
   rcases p.t _ h0 hc.c2 with hz | ⟨_,hx⟩
   ·rw[hz.1] at h1; cases h1
   ·exact hx.g
  refine⟨by rw[h.f _ d (Q4.1 hu).1 d0]; exact q1,λx hx=>?_⟩;rw[O5 h.o.g] at hx;obtain⟨xu,xz⟩:=X1 p.a.tree _ hu x hx;obtain⟨s1,s2⟩:=q2 x hx;refine⟨h.st p.a.tree xu xz d0 s1,?_⟩;rw[h.o.g.p,h.v x d xu xz d0 s1,h.f _ d (Q4.1 (p.a.up xu xz)).1 d0,h.w x d (Q4.1 xu).1 d0];exact s2
def Tr(W:Q8)(c k:Int):Prop:=(Qc W k c).on=(QX W k c && !UD W k c)
theorem zwu{W:Q8}(p:O6 W){k c d:Int}(hu:Q7 W.IC k=true)(hd:dep 3 W.IC k=d)(d1:1<=d)(c0:0<=c)(c1:c<(W.ID.length:Int)) :
  LC c W (RF W k c (ZZ W k c))/\O6 (RF W k c (ZZ W k c))/\Tr (RF W k c (ZZ W k c)) c k/\∀g:Int,Q7 W.IC g=true->g≠k->(gi W.IC k).parent≠g->Tr W c g->Tr (RF W k c (ZZ W k c)) c g:=by
 have hz:k≠0:=λe=>by subst e; rw[Y6] at hd; omega
 obtain⟨u0,u1,_⟩:=Q4.1 hu;have hl:=p.a.gl;have hsl:=p.a.sl hu;have tU:c<((gi W.IC k).IE.length:Int):=Qo;have hpu:=p.a.up hu hz
 have hpk:(gi W.IC k).parent≠k:=λe=>by
  obtain⟨_,_,_,n,e1,e2,_⟩:=Yf p.a.tree hu hz;rw[e] at e2; omega
 have e:∀{i j:Int},0<=i->0<=j->Qc (RF W k c (ZZ W k c)) i j=if k=i/\c=j then ZZ W k c else Qc W i j:=λhi hj=>Vf u0 u1 c0 tU hi hj
 have ev:Tg W k c->(ZZ W k c).v=(Qc W k c).v:=λhs=>by
  simp only[ZZ];split
  ·rw[zt4 (by have:=hs.1; omega) hs.2]; omega
  ·rfl
 have eq0:∀{i j:Int},k=i/\c=j->(ZZ W k c).floor=(Qc W i j).floor/\(ZZ W k c).w=(Qc W i j).w/\(ZZ W k c).sum=(Qc W i j).sum:=λh=>by
  obtain⟨rfl,rfl⟩:=h; exact⟨rfl,rfl,rfl⟩
 have hT:=Jm (W:=W) (g:=k) (c:=c) (s:=ZZ W k c) u0 u1
 have lc:LC c W (RF W k c (ZZ W k c)):=by
  refine⟨Ak u0 u1 c0 tU,rfl,λi j hi hj=>?_,λi j hi hj=>?_,λi j hi hj=>?_,λj hj=>?_,λi j iu iz hj hs=>?_⟩
  ·rw[e hi hj]; split
   ·rename_i h; exact(eq0 h).1
   ·rfl
  ·rw[e hi hj]; split
   ·rename_i h; exact(eq0 h).2.1
   ·rfl
  ·rw[e hi hj]; split
   ·rename_i h; exact(eq0 h).2.2
   ·rfl
  ·rw[e (I2 0) hj,B' λh=>hz h.1]
  ·rw[e (Q4.1 iu).1 hj]; split
   ·rename_i h;obtain⟨rfl,rfl⟩:=h;exact ev hs
   ·rfl
 have act:∀g:Int,(gi W.IC k).parent≠g->QX (RF W k c (ZZ W k c)) g c=QX W g c:=λg hg=>by
  refine Pq (W:=W) (W':=RF W k c (ZZ W k c)) rfl hT λj hj _ _ hp=>?_
  rw[e Qo c0,B'];rintro⟨h,_⟩;exact hg (by rw[h]; exact hp)
 have hoe:Tr (RF W k c (ZZ W k c)) c k:=by
  unfold Tr;rw[e u0 c0,C' ⟨rfl,rfl⟩,act k hpk,D8 u0 u1 u0];rfl
 refine⟨lc,p.lc lc (p.a.RF u0 Qo) λi j iu iz j0 j1 ho=>?_,hoe,λg gu gk hg h=>?_⟩
 ·by_cases h:k=i/\c=j
  ·obtain⟨rfl,rfl⟩:=h
   by_cases hs:Tg W k c
   ·exact lc.st p.a.tree hu hz c0 hs
   ·have Cp8:(Qc W k c).on=false:=by
     cases hb:(Qc W k c).on with
     | false=>rfl
     | true=>exact Ir ((p.s k c hu c0 c1).st hz hb) hs
    rw[e u0 c0,C' ⟨rfl,rfl⟩] at ho;have ho:(QX W k c && !UD W k c)=true:=ho;unfold Tg;rw[hT.p,e u0 c0,C' ⟨rfl,rfl⟩,lc.f _ c (Q4.1 hpu).1 c0];simp only[ZZ];rw[C' ⟨ho,Cp8⟩];have:=ZY ((Qc W k c).v-(Qc W (gi W.IC k).parent c).floor) (Qc W k c).w;omega
  ·rw[e (Q4.1 iu).1 j0,B' h] at ho;exact lc.st p.a.tree iu iz j0 ((p.s i j iu j0 j1).st iz ho)
 ·unfold Tr;have g0:=(Q4.1 gu).1;rw[e g0 c0,B' λh=>gk h.1.symm,act g hg,D8 u0 u1 g0];exact h
theorem zn8{W:Q8}(p:O6 W){c d:Int}(d1:1<=d)(c0:0<=c)(c1:c<(W.ID.length:Int))(hI:∀g:Int,Q7 W.IC g=true->d<dep 3 W.IC g->Tr W c g):∀k:Nat,k<=8->
  LC c W (Zq W c d k)/\O6 (Zq W c d k)/\∀g:Int,Q7 W.IC g=true->d<dep 3 W.IC g\/dep 3 W.IC g=d/\g<(k:Int)->Tr (Zq W c d k) c g
 | 0,_=>⟨LC.refl _ _,p,λg gu h=>hI g gu (by
   rcases h with h | h
   ·exact h
   ·have:=(Q4.1 gu).1;have:=h.2;omega)⟩
 | k+1,hk=>by
  obtain⟨a,b,ih⟩:=zn8 p d1 c0 c1 hI k Qo;have hl:=b.a.gl;have hT:=a.o.g;simp only[Zq];split
  ·rename_i hc;have hu:Q7 (Zq W c d k).IC (k:Int)=true:=Q4.2 ⟨Qo,Qo,hc.1⟩;obtain⟨l1,l2,l3,l4⟩:=zwu b hu hc.2 d1 c0 (c:=c) (by rw[a.cs]; exact c1);refine⟨a.trans p.a.tree l1,l2,λg gu h=>?_⟩
   by_cases e:g=(k:Int)
   ·subst e; exact l3
   ·have hkz:(k:Int)≠0:=λe=>by have:=hc.2; rw[e,Y6] at this; omega
    obtain⟨_,_,_,n,e1,e2,_⟩:=Yf b.a.tree hu hkz;refine l4 g (by rw[hT.eB]; exact gu) e (λhp=>?_) (ih g gu ?_)
    ·rw[hp,hT.dep] at e2;have:=hc.2;omega
    ·rcases h with h | h
     ·exact .inl h
     ·exact .inr ⟨h.1,by have:=h.2; omega⟩
  ·rename_i hc;refine⟨a,b,λg gu h=>ih g gu ?_⟩;rcases h with h | h
   ·exact .inl h
   ·refine .inr ⟨h.1,?_⟩
    by_cases e:g=(k:Int)
    ·subst e;exact Ir ⟨by rw[hT.u]; exact(Q4.1 gu).2.2,by rw[hT.dep]; exact h.1⟩ hc
    ·have:=h.2;omega
theorem zjh{W:Q8}(p:O6 W){c:Int}(c0:0<=c)(c1:c<(W.ID.length:Int)):LC c W (QJ W c)/\O6 (QJ W c)/\∀g:Int,Q7 W.IC g=true->g≠0->Tr (QJ W c) c g:=by
 have key:∀j:Nat,j<=3->LC c W (Xd W c j)/\O6 (Xd W c j)/\∀g:Int,Q7 W.IC g=true->3-(j:Int)<dep 3 W.IC g->Tr (Xd W c j) c g:=by
  intro j
  induction j with
  | zero=>exact λ_=>⟨LC.refl _ _,p,λg gu h=>by have:=(H2 p.a gu).2; omega⟩
  | succ j ih=>
   intro hj;obtain⟨a,b,h⟩:=ih Qo;have hT:=a.o.g;obtain⟨a2,b2,h2⟩:=zn8 b (c:=c) (d:=3-(j:Int)) Qo c0 (by rw[a.cs]; exact c1) (λg gu hd=>h g (by rwa[hT.eB] at gu) (by rwa[hT.dep] at hd)) 8 (I7 _);refine⟨a.trans p.a.tree a2,b2,λg gu hd=>h2 g (by rw[hT.eB]; exact gu) ?_⟩;rw[hT.dep];have:=(Q4.1 gu).2.1;have:=p.a.gl
   by_cases e:dep 3 W.IC g=3-(j:Int)
   ·exact .inr ⟨e,Qo⟩
   ·exact .inl Qo
 obtain⟨a,b,h⟩:=key 3 (I7 _);refine⟨a,b,λg gu gz=>h g gu ?_⟩;obtain⟨_,_,_,n,e1,_⟩:=Yf p.a.tree gu gz;omega
theorem zes{W:Q8}(p:O6 W):∀c:Nat,c<=W.ID.length->O6 (Yl W c)/\(Yl W c).ID=W.ID
 | 0,_=>⟨p,rfl⟩
 | c+1,hc=>by
  obtain⟨a,e⟩:=zes p c Qo;obtain⟨l,b,_⟩:=zjh a (c:=(c:Int)) Qo (by rw[e]; omega);exact⟨b,l.cs.trans e⟩
theorem O6.A21{W W':Q8}(p:O6 W)(ho:Tv W W')(ha:WA W'):O6 W':=by
 have et:∀t,Q6 W' t=Q6 W t:=Ju ho.t;have es:∀k d:Int,0<=k->Qc W' k d=Qc W k d:=λk d hk=>by unfold Qc; rw[ho.s k hk]
 have est:∀k d:Int,Q7 W.IC k=true->k≠0->(Tg W' k d↔Tg W k d):=λk d hu hz=>by
  unfold Tg;rw[ho.g.p,es _ _ (Q4.1 (p.a.up hu hz)).1,es _ _ (Q4.1 hu).1]
 refine⟨⟨ha,λt t0 t1=>?_,λt t0 t1 n=>?_,λk d hu d0 d1=>?_⟩,λd d0 d1=>?_⟩
 ·rw[et];rcases p.t t t0 t1 with hz | ⟨n,hx⟩
  ·exact .inl hz
  ·refine .inr ⟨n,hx.st,by rw[ho.g.eB]; exact hx.g,hx.n,hx.m,hx.m0,hx.s,hx.u,hx.l1,hx.l2,λh1=>?_⟩;rw[es _ _ (Q4.1 hx.g).1];exact hx.f h1
 ·rw[et] at n ⊢;rw[ho.c];exact p.l t t0 t1 n
 ·rw[ho.g.eB] at hu;rw[ho.c] at d1;have hs:=p.s k d hu d0 d1;have k0:=(Q4.1 hu).1;exact⟨by rw[es k d k0]; exact hs.s,by rw[es k d k0]; exact hs.root,λhz h=>(est k d hu hz).2 (hs.st hz (by rwa[es k d k0] at h))⟩
 ·rw[ho.c] at d1;have hc:=p.c d d0 d1;refine⟨by rw[ho.c]; exact hc.b,by rw[ho.c]; exact hc.i,by rw[ho.c]; exact hc.c1,by rw[ho.c]; exact hc.c2,by rw[ho.c]; exact hc.no,by rw[ho.c]; exact hc.yes,?_⟩;rw[ho.c];simp only[et];intro h0 h1 h2;obtain⟨q1,q2⟩:=hc.q h0 h1 h2
  have hu:Q7 W.IC (Q6 W (gi W.ID d).cur).group=true:=by
   rcases p.t _ h0 hc.c2 with hz | ⟨_,hx⟩
   ·rw[hz.1] at h1; cases h1
   ·exact hx.g
  refine⟨by rw[es _ d (Q4.1 hu).1]; exact q1,λx hx=>?_⟩;rw[O5 ho.g] at hx;obtain⟨xu,xz⟩:=X1 p.a.tree _ hu x hx;obtain⟨s1,s2⟩:=q2 x hx;refine⟨(est x d xu xz).2 s1,?_⟩;rw[ho.g.p,es x d (Q4.1 xu).1,es _ d (Q4.1 (p.a.up xu xz)).1];exact s2
structure FC (c:Int) (W W':Q8):Prop where
 o:Ng c W W'
 cs:W'.ID=W.ID
 on:∀k d:Int,0<=k->0<=d->(Qc W' k d).on=(Qc W k d).on
 v:∀k d:Int,0<=k->0<=d->(Qc W' k d).v=(Qc W k d).v
 w:∀k d:Int,0<=k->0<=d->(Qc W' k d).w=(Qc W k d).w
 s:∀k d:Int,0<=k->0<=d->(Qc W' k d).sum=(Qc W k d).sum
 up:∀k d:Int,0<=k->0<=d->(Qc W k d).floor<=(Qc W' k d).floor
 fl:∀k:Int,0<=k->(Qc W' k c).floor=(Qc W k c).floor\/Zy W k c 20=true/\(Qc W' k c).floor=Z6 W k c 20
theorem NW{W:Q8}(ha:WA W){c:Int}(c0:0<=c)(c1:c<(W.ID.length:Int)):∀k:Nat,k<=8->FC c W (QT W c k)/\WA (QT W c k)/\∀g:Int,Q7 W.IC g=true->g<(k:Int)->Zy W g c 20=true->Z6 W g c 20<=(Qc (QT W c k) g c).floor
 | 0,_=>⟨⟨Ng.refl _ _,rfl,λ_ _ _ _=>rfl,λ_ _ _ _=>rfl,λ_ _ _ _=>rfl,λ_ _ _ _=>rfl,λ_ _ _ _=>I2 _,λ_ _=>.inl rfl⟩,ha,λg gu h=>by have:=(Q4.1 gu).1; omega⟩
 | k+1,hk=>by
  obtain⟨f,hA,ih⟩:=NW ha c0 c1 k Qo;have hl:=hA.gl;have hT:=f.o.g;have hb:=NH f.o.t hT ha.gl (λi hi=>f.on i c hi c0) (λi hi=>f.v i c hi c0);simp only[QT];split
  ·rename_i hc;have hu:Q7 (QT W c k).IC (k:Int)=true:=Q4.2 ⟨Qo,Qo,hc.1⟩;have hsl:=hA.sl hu;have tU:c<((gi (QT W c k).IC (k:Int)).IE.length:Int):=by rw[hsl,f.cs]; exact c1
   have e:∀{i j:Int},0<=i->0<=j->Qc (RF (QT W c k) (k:Int) c (ER (QT W c k) (k:Int) c)) i j=if (k:Int)=i/\c=j then ER (QT W c k) (k:Int) c else Qc (QT W c k) i j:=λhi hj=>Vf Qo Qo c0 tU hi hj
   refine⟨⟨f.o.trans (Ak Qo Qo c0 tU),f.cs,λi j hi hj=>?_,λi j hi hj=>?_,λi j hi hj=>?_,λi j hi hj=>?_,λi j hi hj=>?_,λi hi=>?_⟩,hA.RF Qo Qo,λg gu hg hB=>?_⟩
   ·rw[e hi hj]; split
    ·rename_i h; obtain⟨rfl,rfl⟩:=h; exact f.on _ _ hi hj
    ·exact f.on i j hi hj
   ·rw[e hi hj]; split
    ·rename_i h; obtain⟨rfl,rfl⟩:=h; exact f.v _ _ hi hj
    ·exact f.v i j hi hj
   ·rw[e hi hj]; split
    ·rename_i h; obtain⟨rfl,rfl⟩:=h; exact f.w _ _ hi hj
    ·exact f.w i j hi hj
   ·rw[e hi hj]; split
    ·rename_i h; obtain⟨rfl,rfl⟩:=h; exact f.s _ _ hi hj
    ·exact f.s i j hi hj
   ·rw[e hi hj]; split
    ·rename_i h; obtain⟨rfl,rfl⟩:=h;have h1:=f.up (k:Int) c hi hj;have h2:=hc.2.2;show _<=Z6 (QT W c k) (k:Int) c 20;omega
    ·exact f.up i j hi hj
   ·rw[e hi c0]; split
    ·rename_i h; obtain⟨rfl,_⟩:=h;refine .inr ⟨(hb _).1▸hc.2.1,?_⟩;show Z6 (QT W c k) (k:Int) c 20=_;exact(hb _).2
    ·exact f.fl i hi
   ·have g0:=(Q4.1 gu).1;rw[e g0 c0];split
    ·rename_i h; obtain⟨rfl,_⟩:=h;show _<=Z6 (QT W c k) (k:Int) c 20;rw[(hb _).2]; exact I2 _
    ·rename_i h;exact ih g gu (by have:g≠(k:Int):=λe=>h ⟨e.symm,rfl⟩; omega) hB
  ·rename_i hc;refine⟨f,hA,λg gu hg hB=>?_⟩
   by_cases e:g=(k:Int)
   ·subst e;rw[hT.u,(hb _).1,(hb _).2] at hc
    by_cases h:Z6 W (k:Int) c 20>(Qc (QT W c k) (k:Int) c).floor
    ·exact Ir ⟨(Q4.1 gu).2.2,hB,h⟩ hc
    ·omega
   ·exact ih g gu Qo hB
theorem Ng.SM{c d:Int}{W W':Q8}(h:Ng c W W')(d0:0<=d)(hd:d≠c)(g:Int):QX W' g d=QX W g d:=
 Pq h.t h.g λj _ _ _ _=>by rw[h.e _ d Qo d0 hd]
theorem Ng.line{c:Int}{W W':Q8}(h:Ng c W W')(ht:Ye W.IC){t:Int}(hu:Q7 W.IC (Q6 W t).group=true)(d0:0<=(Q6 W t).J')(hd:(Q6 W t).J'≠c):ZL W' t=ZL W t:=by
 unfold ZL VC;rw[Ju h.t,O5 h.g]
 congr 1
 rw[Bool.eq_iff_iff,List.all_eq_true,List.all_eq_true];refine forall_congr' λx=>forall_congr' λhx=>?_
 rw[h.e x _ (Q4.1 (X1 ht _ hu x hx).1).1 d0 hd]
structure Dn (W:Q8) (c:Int):Prop where
 on:∀k:Int,Q7 W.IC k=true->k≠0->Tr W c k
 cu:0<=(gi W.ID c).cur->(Q6 W (gi W.ID c).cur).J'=c/\ZL W (gi W.ID c).cur=true
 fl:∀k:Int,Q7 W.IC k=true->Zy W k c 20=true->Z6 W k c 20<=(Qc W k c).floor
theorem Dn.oth{c d:Int}{W W':Q8}(h:Dn W d)(p:O6 W)(o:Ng c W W')(d0:0<=d)(d1:d<(W.ID.length:Int))(hd:d≠c):Dn W' d:=by
 refine⟨λk hu hz=>?_,λh0=>?_,λk hu hB=>?_⟩
 ·rw[o.g.eB] at hu;have k0:=(Q4.1 hu).1;have:=h.on k hu hz;unfold Tr at this ⊢;rw[o.e k d k0 d0 hd,o.SM d0 hd,zlb (o.b k k0)];exact this
 ·rw[o.cp d d0 hd] at h0 ⊢;rw[Ju o.t];obtain⟨h1,h2⟩:=h.cu h0;refine⟨h1,?_⟩
  have hs:(Q6 W (gi W.ID d).cur).state=1:=by
   unfold ZL at h2;rw[A'] at h2;exact Iy h2.1
  have hu:Q7 W.IC (Q6 W (gi W.ID d).cur).group=true:=by
   rcases p.t _ h0 (p.c d d0 d1).c2 with hz | ⟨_,hx⟩
   ·rw[hz.1] at hs; cases hs
   ·exact hx.g
  rw[o.line p.a.tree hu (by rw[h1]; exact d0) (by rw[h1]; exact hd)];exact h2
 ·rw[o.g.eB] at hu;have hb:=NH (d:=d) o.t o.g p.a.gl (λi hi=>by rw[o.e i d hi d0 hd]) (λi hi=>by rw[o.e i d hi d0 hd]) k;rw[hb.1] at hB;rw[hb.2,o.e k d (Q4.1 hu).1 d0 hd];exact h.fl k hu hB
theorem Fu.cp{W:Q8}{x:KW}(h:Fu W x)(cs:List KV):Fu { W with ID:=cs } x:=⟨h.st,h.g,h.n,h.m,h.m0,h.s,h.u,h.l1,h.l2,h.f⟩
theorem zpl.cp{W:Q8}{k c:Int}(h:zpl W k c)(cs:List KV):zpl { W with ID:=cs } k c:=⟨h.s,h.root,h.st⟩
theorem PreA.Rp{W:Q8}(p:PreA W){c:Int}(c0:0<=c)(c1:c<(W.ID.length:Int)):PreA (Rp W c):=by
 have hlen:(YtnclplgaicdapaaGreatDoor.Rp W c).ID.length=W.ID.length:=E';refine⟨?_,λt t0 t1=>?_,λt t0 t1 n=>?_,λk d hu d0 d1=>?_⟩
 ·refine p.a.cp E' ?_;rw[zmv E' λj hj=>?_]
  ·exact p.a.ups
  ·rw[QO _ _ c0 c1 Qo];split
   ·rename_i e; rw[<-e]; rfl
   ·rfl
 ·rcases p.t t t0 t1 with h | h
  ·exact .inl h
  ·exact .inr ⟨h.1,h.2.cp _⟩
 ·rw[hlen]; exact p.l t t0 t1 n
 ·rw[hlen] at d1; exact(p.s k d hu d0 d1).cp _
theorem O6.Rp{W:Q8}(p:O6 W){c:Int}(c0:0<=c)(c1:c<(W.ID.length:Int)):O6 (Rp W c):=by
 refine⟨p.toPreA.Rp c0 c1,λd d0 d1=>?_⟩;have hlen:(YtnclplgaicdapaaGreatDoor.Rp W c).ID.length=W.ID.length:=E';have kR:gi (YtnclplgaicdapaaGreatDoor.Rp W c).ID d=if c=d then Js (gi W.ID c) else gi W.ID d:=QO _ _ c0 c1 d0;rw[hlen] at d1;have hc:=p.c d d0 d1
 by_cases e:c=d
 ·subst e;rw[C' rfl] at kR;have n1:(Js (gi W.ID c)).cur = -1:=rfl;exact⟨by rw[kR]; exact hc.b,by rw[kR]; exact hc.i,by rw[kR,n1]; exact I2 _,by rw[kR,n1]; decide,λ_=>by rw[kR]; rfl,λh=>by rw[kR,n1] at h; omega,λh=>by rw[kR,n1] at h; omega⟩
 ·rw[B' e] at kR;exact⟨by rw[kR]; exact hc.b,by rw[kR]; exact hc.i,by rw[kR]; exact hc.c1,by rw[kR]; exact hc.c2,by rw[kR]; exact hc.no,by rw[kR]; exact hc.yes,by rw[kR]; exact hc.q⟩
theorem zx1{W:Q8}(p:O6 W){c:Int}(c0:0<=c)(c1:c<(W.ID.length:Int)):O6 (VG W c)/\Ng c W (VG W c)/\Dn (VG W c) c:=by
 obtain⟨l,p1,hon⟩:=zjh p c0 c1;obtain⟨f,hA,oF⟩:=NW p1.a c0 (c:=c) (by rw[l.cs]; exact c1) 8 (I7 _);have f:FC c (QJ W c) (Zc (QJ W c) c):=f;have hA:WA (Zc (QJ W c) c):=hA;have oF:∀g:Int,Q7 (QJ W c).IC g=true->g<((8:Nat):Int)->Zy (QJ W c) g c 20=true->Z6 (QJ W c) g c 20<=(Qc (Zc (QJ W c) c) g c).floor:=oF;have hon:∀g:Int,Q7 (QJ W c).IC g=true->g≠0->Tr (QJ W c) c g:=λg gu gz=>hon g (by rwa[l.o.g.eB] at gu) gz
 have dD:=p1.a.gl;have hlc:(QJ W c).ID.length=W.ID.length:=by rw[l.cs]
 have SP:VG W c=if MX (Zc (QJ W c) c) c=true then Rp (Zc (QJ W c) c) c else Zc (QJ W c) c:=rfl;have hO:Ng c W (Zc (QJ W c) c):=l.o.trans f.o;rw[SP];clear SP;have tU:c<((QJ W c).ID.length:Int):=by rw[hlc]; exact c1
 generalize QJ W c=V at p1 hon f hA oF dD hlc hO tU;generalize Zc V c=F at f hA oF hO;have et:∀t,Q6 F t=Q6 V t:=Ju f.o.t;have hT:=f.o.g;have aQ:=NH (d:=c) f.o.t hT dD (λi hi=>f.on i c hi c0) (λi hi=>f.v i c hi c0)
 have low:∀k:Int,Q7 V.IC k=true->∀v:Int,(Zy V k c 20=true/\Z6 V k c 20<=v)->(Qc V k c).floor<=v->(Qc F k c).floor<=v:=λk hu v hv hf=>by
  rcases f.fl k (Q4.1 hu).1 with e | ⟨_,e⟩
  ·rw[e]; exact hf
  ·rw[e]; exact hv.2
 have st:∀k d:Int,Q7 V.IC k=true->k≠0->0<=d->(Qc V k d).on=true->Tg V k d->Tg F k d:=λk d hu hz d0 ho hs=>by
  have pu:=p1.a.up hu hz;have k0:=(Q4.1 hu).1;have q0:=(Q4.1 pu).1;unfold Tg;rw[hT.p,f.v k d k0 d0,f.w k d k0 d0];have hup:=f.up _ d q0 d0;refine⟨?_,by have:=hs.2; omega⟩
  by_cases hd:d=c
  ·subst hd;exact low _ pu _ (zpt p1.a hu hz ho) hs.1
  ·rw[f.o.e _ d q0 d0 hd]; exact hs.1
 have pa:PreA F:=by
  refine⟨hA,λt t0 t1=>?_,λt t0 t1 n=>?_,λk d hu d0 d1=>?_⟩
  ·rw[et];rcases p1.t t t0 t1 with hz | ⟨n,hx⟩
   ·exact .inl hz
   ·refine .inr ⟨n,hx.st,by rw[hT.eB]; exact hx.g,hx.n,hx.m,hx.m0,hx.s,hx.u,hx.l1,hx.l2,λh1=>?_⟩;obtain⟨d0,d1⟩:=p1.l t t0 t1 n;have g0:=(Q4.1 hx.g).1;have hup:=f.up _ _ g0 d0;have hs:=hx.f h1;refine⟨?_,Qo⟩
    by_cases hd:(Q6 V t).J'=c
    ·have hb:=ztg p1.a t0 t1 h1;rw[hd] at hb hs ⊢;exact low _ hx.g _ hb hs.1
    ·rw[f.o.e _ _ g0 d0 hd]; exact hs.1
  ·rw[et] at n ⊢;rw[f.cs];exact p1.l t t0 t1 n
  ·rw[hT.eB] at hu;rw[f.cs] at d1;have hs:=p1.s k d hu d0 d1;have k0:=(Q4.1 hu).1;refine⟨by rw[f.s k d k0 d0]; exact hs.s,λhz=>?_,λhz h=>?_⟩
   ·rw[f.on k d k0 d0,f.v k d k0 d0,f.w k d k0 d0]; exact hs.root hz
   ·rw[f.on k d k0 d0] at h;exact st k d hu hz d0 h (hs.st hz h)
 have ptu:∀t:Int,0<=t->t<12->(Q6 V t).state=1->Q7 V.IC (Q6 V t).group=true:=λt t0 t1 h=>by
  rcases p1.t t t0 t1 with hz | ⟨_,hx⟩
  ·rw[hz.1] at h; cases h
  ·exact hx.g
 have pc:∀d:Int,0<=d->d<(V.ID.length:Int)->(d=c->MX F c=false)->z1f F d:=λd d0 d1 hg=>by
  have hc:=p1.c d d0 d1;refine⟨by rw[f.cs]; exact hc.b,by rw[f.cs]; exact hc.i,by rw[f.cs]; exact hc.c1,by rw[f.cs]; exact hc.c2,by rw[f.cs]; exact hc.no,by rw[f.cs]; exact hc.yes,?_⟩;rw[f.cs];simp only[et];intro h0 h1 h2;obtain⟨q1,q2⟩:=hc.q h0 h1 h2;have hu:=ptu _ h0 hc.c2 h1;have hup:=f.up _ d (Q4.1 hu).1 d0;refine⟨Qo,λx hx=>?_⟩;rw[O5 hT] at hx;obtain⟨xu,xz⟩:=X1 p1.a.tree _ hu x hx;obtain⟨s1,s2⟩:=q2 x hx;have x0:=(Q4.1 xu).1;have q0:=(Q4.1 (p1.a.up xu xz)).1;have DK6:=f.up _ d q0 d0;refine⟨?_,by rw[hT.p,f.v x d x0 d0,f.w x d x0 d0]; omega⟩
  by_cases hd:d=c
  ·subst hd
   have hl:ZL F (gi V.ID d).cur=true:=by
    have:=hg rfl;unfold MX at this;rw[f.cs,et,Ih h0,h2] at this
    simpa using this
   unfold ZL VC at hl;rw[et,h2,O5 hT,A',List.all_eq_true] at hl;have ho:=hl.2 x hx;rw[f.on x d x0 d0] at ho;exact st x d xu xz d0 ho s1
  ·unfold Tg;rw[hT.p,f.o.e x d x0 d0 hd,f.o.e _ d q0 d0 hd];exact s1
 have BR9:∀k:Int,Q7 F.IC k=true->k≠0->Tr F c k:=λk hu hz=>by
  rw[hT.eB] at hu;have k0:=(Q4.1 hu).1;have:=hon k hu hz;unfold Tr at this ⊢;rw[f.on k c k0 c0,Pq f.o.t hT λj _ _ _ _=>f.on _ c Qo c0,zlb (f.o.b k k0)];exact this
 have CM6:∀k:Int,Q7 F.IC k=true->Zy F k c 20=true->Z6 F k c 20<=(Qc F k c).floor:=λk hu hB=>by
  rw[hT.eB] at hu;rw[(aQ k).1] at hB;rw[(aQ k).2];exact oF k hu (by have:=(Q4.1 hu).2.1; omega) hB
 split
 ·rename_i hg;have cF:c<(F.ID.length:Int):=by rw[f.cs]; exact tU
  have kR:∀d:Int,0<=d->gi (Rp F c).ID d=if c=d then Js (gi F.ID c) else gi F.ID d:=λd d0=>QO _ _ c0 cF d0
  have hlen:(Rp F c).ID.length=F.ID.length:=E';refine⟨⟨pa.Rp c0 cF,λd d0 d1=>?_⟩,hO.trans (zog c0 cF),BR9,λh0=>?_,CM6⟩
  ·rw[hlen] at d1
   by_cases e:c=d
   ·subst e;have hc:=p1.c c c0 tU;have e1:gi (Rp F c).ID c=Js (gi V.ID c):=by rw[kR c c0,C' rfl,f.cs]
    have n1:(Js (gi V.ID c)).cur = -1:=rfl;exact⟨by rw[e1]; exact hc.b,by rw[e1]; exact hc.i,by rw[e1,n1]; exact I2 _,by rw[e1,n1]; decide,λ_=>by rw[e1]; rfl,λh=>by rw[e1,n1] at h; omega,λh=>by rw[e1,n1] at h; omega⟩
   ·have hc:=pc d d0 (by rw[<-f.cs]; exact d1) λh=>Ir h.symm e
    have e1:gi (Rp F c).ID d=gi F.ID d:=by rw[kR d d0,B' e]
    exact⟨by rw[e1]; exact hc.b,by rw[e1]; exact hc.i,by rw[e1]; exact hc.c1,by rw[e1]; exact hc.c2,by rw[e1]; exact hc.no,by rw[e1]; exact hc.yes,by rw[e1]; exact hc.q⟩
  ·rw[kR c c0,C' rfl] at h0;have h0:(0:Int)<=-1:=h0;omega
 ·rename_i hg;have hg:MX F c=false:=by simpa using hg
  refine⟨⟨pa,λd d0 d1=>pc d d0 (by rw[<-f.cs]; exact d1) λ_=>hg⟩,hO,BR9,λh0=>?_,CM6⟩;unfold MX at hg;rw[Ih h0,Bool.true_and,H'] at hg;exact⟨by simpa using hg.1,by simpa using hg.2⟩
theorem zo2{W:Q8}(p:O6 W):∀c:Nat,c<=W.ID.length->O6 (Jg W c)/\(Jg W c).ID.length=W.ID.length/\(Jg W c).tasks=W.tasks/\Z7 W.IC (Jg W c).IC/\∀d:Int,0<=d->d<(c:Int)->Dn (Jg W c) d
 | 0,_=>⟨p,rfl,rfl,Z7.refl _,λd a b=>by omega⟩
 | c+1,hc=>by
  obtain⟨a,e,et,eg,ih⟩:=zo2 p c Qo;obtain⟨p1,o,dn⟩:=zx1 a (c:=(c:Int)) Qo (by rw[e]; omega);refine⟨p1,o.len.trans e,o.t.trans et,eg.trans o.g,λd d0 d1=>?_⟩
  by_cases h:d=(c:Int)
  ·subst h; exact dn
  ·exact(ih d d0 Qo).oth a o d0 (by rw[e]; omega) h
theorem zuv{K:Int}{W:Q8}(sw:SW K W)(p:O6 W)(hK:0<=K):O6 (Qh W)/\Fr W (Qh W)/\∀d:Int,0<=d->d<(W.ID.length:Int)->Dn (Qh W) d:=by
 obtain⟨a,e⟩:=zes p W.ID.length (I7 _);obtain⟨s1,_⟩:=OV (F:=K) (K:=K+Qj) (sw.sf.mono (I2 _) (by simp only[Qj]; omega)) (I2 _) W.ID.length (I7 _);obtain⟨s2,b2⟩:=TW s1 8 (I7 _);have p2:=a.A21 b2 s2.w.a;have e2:(Yg (Yl W W.ID.length) 8).ID.length=W.ID.length:=by rw[b2.c,e]
 obtain⟨p3,e3,_,_,dn⟩:=zo2 p2 W.ID.length (by rw[e2]; exact I7 _);exact⟨p3,(P2 sw hK).2,dn⟩
theorem z2t{K:Int}{W:Q8}(sw:SW K W)(hK:K<=100000000000000000)(p:O6 W)(hl:zb8 W)(dn:∀d:Int,0<=d->d<(W.ID.length:Int)->Dn W d):Jq W/\z37 W:=by
 have tm:∀k c:Int,Q7 W.IC k=true->0<=c->c<(W.ID.length:Int)->ZO (Qc W k c).floor=true/\ZO (Qc W k c).v=true:=λk c hu c0 c1=>by
  have:=sw.s k c hu c0 c1;exact⟨YV.2 Qo,YV.2 Qo⟩
 have tv:∀t:Int,0<=t->t<12->ZO (Q6 W t).v=true:=λt t0 t1=>by
  have:=sw.tv t t0 t1;exact YV.2 Qo
 refine⟨⟨p.a,λt t0 t1=>?_,λk c k0 k1 c0 c1=>?_,λc c0 c1=>?_⟩,λk c hu c0 c1 hB=>(dn c c0 c1).fl k hu hB⟩
 ·rcases p.t t t0 t1 with hz | ⟨n,hx⟩
  ·exact .inl hz
  ·obtain⟨d0,d1⟩:=p.l t t0 t1 n;exact .inr ⟨n,hx.st,hx.g,hx.n,hx.m,hx.m0,tv t t0 t1,hx.s,hx.u,hx.l1,hx.l2,hl t t0 t1 n,λh1=>(HP (tv t t0 t1) (tm _ _ hx.g d0 d1).1).2 (hx.f h1)⟩
 ·have dD:=p.a.gl
  have hu:Q7 W.IC k=true:=by
   cases hb:(gi W.IC k).used with
   | true=>exact Q4.2 ⟨k0,Qo,hb⟩
   | false=>
    have:=((p.a.grp k k0 k1).1 hb).l;omega
  have hsl:=p.a.sl hu;have c1:c<(W.ID.length:Int):=Qo;have hs:=p.s k c hu c0 c1;have ht:=tm k c hu c0 c1;have hw:=sw.s k c hu c0 c1;exact⟨ht.1,ht.2,hs.s,hw.2.2.2.2.1,hw.2.2.2.2.2,hs.root,λhz=>(dn c c0 c1).on k hu hz,λhz ho=>(HP ht.2 (tm _ c (p.a.up hu hz) c0 c1).1).2 (hs.st hz ho)⟩
 ·have hc:=p.c c c0 c1;have fZ:=p.a.t;refine⟨hc.b,hc.i,hc.c1,by have:=hc.c2; omega,hc.no,λh0=>?_⟩;obtain⟨y1,y2,y3⟩:=hc.yes h0;obtain⟨z1,z2⟩:=(dn c c0 c1).cu h0
  have hs:(Q6 W (gi W.ID c).cur).state=1:=by
   unfold ZL at z2;rw[A'] at z2;exact Iy z2.1
  obtain⟨q1,q2⟩:=hc.q h0 hs z1;refine⟨y1,y2,y3,z1,z2,?_⟩;unfold Kc Ov;rw[A',List.all_eq_true];exact⟨Ih q1,λx hx=>Ih (q2 x hx).2⟩
theorem Xc{α β:Type}[Inhabited α]{f:α->β}(l:List α)(k:Int){x:α}(h:f x=f (gi l k))(i:Int):f (gi (l.set k.toNat x) i)=f (gi l i):=by
 unfold gi at *;simp only[List.getD_eq_getElem?_getD,List.getElem?_set] at *
 by_cases e:k.toNat=i.toNat
 ·rw[C' e];split
  ·rw[<-e]; simpa using h
  ·rename_i hl;have:l[i.toNat]? = none:=List.getElem?_eq_none_iff.2 Qo;rw[this]
 ·rw[B' e]
structure Oc (W W':Q8):Prop where
 g:Z7 W.IC W'.IC
 m:∀i:Int,(gi W'.IC i).ID=(gi W.IC i).ID
 w:∀i:Int,(gi W'.IC i).weight=(gi W.IC i).weight
 len:W'.ID.length=W.ID.length
 u:∀i:Int,(gi W'.ID i).up=(gi W.ID i).up
theorem Oc.refl(W:Q8):Oc W W:=⟨Z7.refl _,λ_=>rfl,λ_=>rfl,rfl,λ_=>rfl⟩
theorem Oc.trans{A B C:Q8}(h:Oc A B)(k:Oc B C):Oc A C:=⟨h.g.trans k.g,λi=>(k.m i).trans (h.m i),λi=>(k.w i).trans (h.w i),k.len.trans h.len,λi=>(k.u i).trans (h.u i)⟩
theorem zq3{W:Q8}{g:Int}{x:ZX}(u:x.used=(gi W.IC g).used)(p:x.parent=(gi W.IC g).parent)(n:x.name=(gi W.IC g).name)(m:x.ID=(gi W.IC g).ID)(w:x.weight=(gi W.IC g).weight):Oc W (Rm W g x):=
 ⟨⟨E',λi=>Xc (f:=ZX.used) _ _ u i,λi=>Xc (f:=ZX.parent) _ _ p i,λi=>Xc (f:=ZX.name) _ _ n i⟩,λi=>Xc (f:=ZX.ID) _ _ m i,λi=>Xc (f:=ZX.weight) _ _ w i,rfl,λ_=>rfl⟩
theorem zf0(W:Q8)(g c:Int)(s:GO):Oc W (RF W g c s):=zq3 rfl rfl rfl rfl rfl
theorem zq2(W:Q8)(g:Int)(b:Vv):Oc W (RL W g b):=zq3 rfl rfl rfl rfl rfl
theorem zq5(W:Q8)(t:Int)(x:KW):Oc W (IM W t x):=⟨Z7.refl _,λ_=>rfl,λ_=>rfl,rfl,λ_=>rfl⟩
theorem zmq{W:Q8}{c:Int}{x:KV}(u:x.up=(gi W.ID c).up):Oc W (Se W c x):=⟨Z7.refl _,λ_=>rfl,λ_=>rfl,E',λi=>Xc (f:=KV.up) _ _ u i⟩
theorem G6(W:Q8)(c:Int):Oc W (Rp W c):=zmq rfl
theorem AC(W:Q8)(c d:Int):∀k:Nat,Oc W (Zq W c d k)
 | 0=>Oc.refl _
 | k+1=>by
  simp only[Zq];split
  ·exact(AC W c d k).trans (zf0 _ _ _ _)
  ·exact AC W c d k
theorem Fk(W:Q8)(c:Int):∀j:Nat,Oc W (Xd W c j)
 | 0=>Oc.refl _
 | j+1=>(Fk W c j).trans (AC _ _ _ _)
theorem zfz(W:Q8):∀c:Nat,Oc W (Yl W c)
 | 0=>Oc.refl _
 | c+1=>(zfz W c).trans (Fk (Yl W c) (c:Int) 3)
theorem AA(W:Q8)(k:Int):∀c:Nat,Oc W (ZV W k c)
 | 0=>Oc.refl _
 | c+1=>by
  simp only[ZV];split
  ·exact(AA W k c).trans (zq2 _ _ _)
  ·exact AA W k c
theorem AB(W:Q8):∀k:Nat,Oc W (Yg W k)
 | 0=>Oc.refl _
 | k+1=>by
  simp only[Yg];split
  ·exact(AB W k).trans (AA _ _ _)
  ·exact AB W k
theorem Fj(W:Q8)(c:Int):∀k:Nat,Oc W (QT W c k)
 | 0=>Oc.refl _
 | k+1=>by
  simp only[QT];split
  ·exact(Fj W c k).trans (zf0 _ _ _ _)
  ·exact Fj W c k
theorem zuz(W:Q8)(c:Int):Oc W (VG W c):=by
 have h:=(Fk W c 3).trans (Fj (QJ W c) c 8);unfold VG;split
 ·exact h.trans (G6 _ _)
 ·exact h
theorem zj5(W:Q8):∀c:Nat,Oc W (Jg W c)
 | 0=>Oc.refl _
 | c+1=>(zj5 W c).trans (zuz (Jg W c) (c:Int))
theorem zq4(W:Q8):Oc W (Qh W):=((zfz W W.ID.length).trans (AB (Yl W W.ID.length) 8)).trans (zj5 (Gc (Yl W W.ID.length)) W.ID.length)
theorem Oc.ups{W W':Q8}(h:Oc W W'):Ue W'.ID=Ue W.ID:=zmv h.len λj _=>h.u j
theorem Oc.pin{W W':Q8}(h:Oc W W')(g u:Int):Ts W'.IC g u=Ts W.IC g u:=by
 unfold Ts;rw[show Zd W'.IC g=Zd W.IC g from h.g.path 3 g]
 congr 1
 funext s x
 rw[h.m]
theorem Oc.wh{W W':Q8}(h:Oc W W')(g m:Int):Qn W' g m=Qn W g m:=by
 unfold Qn;rw[h.ups,h.pin]
theorem Oc.loc{W W':Q8}(h:Oc W W')(ht:W'.tasks=W.tasks)(hl:zb8 W):zb8 W':=λt t0 t1 n=>by
 rw[Ju ht] at n ⊢;rw[h.wh];exact hl t t0 t1 n
theorem zfx{K:Int}{W:Q8}(sw:SW K W)(hK:0<=K)(gV:K+Vu<=100000000000000000)(p:O6 W)(hl:zb8 W):Jq (Qh W)/\z37 (Qh W):=by
 obtain⟨p1,hf,dn⟩:=zuv sw p hK;exact z2t (P2 sw hK).1 gV p1 ((zq4 W).loc hf.t hl) λd d0 d1=>dn d d0 (by rw[<-hf.c]; exact d1)
theorem zpl.Bd9{W W':Q8}{k c:Int}(h:zpl W k c)(e:Qc W' k c=Qc W k c)(ep:k≠0->(Qc W' (gi W'.IC k).parent c).floor=(Qc W (gi W.IC k).parent c).floor):zpl W' k c:=
 ⟨by rw[e]; exact h.s,by rw[e]; exact h.root,λhz ho=>by
  rw[e] at ho;have:=h.st hz ho;unfold Tg at this ⊢;rw[e,ep hz]; exact this⟩
theorem O6.IM{W:Q8}(p:O6 W){t:Int}(t0:0<=t)(t1:t<12){x:KW}(hx:x.state=0/\x=Ow\/x.state≠0/\Fu W x/\0<=x.J'/\x.J'<(W.ID.length:Int))(hc:∀c:Int,0<=c->c<(W.ID.length:Int)->(gi W.ID c).cur=t->x.state=1->x.J'=c->x.v-(Qc W x.group c).floor<=Zh (gi W.ID c).WV (Qe x.nice)/\∀y∈Zd W.IC x.group,Tg W y c/\(Qc W y c).v-(Qc W (gi W.IC y).parent c).floor<=Zh (gi W.ID c).WV (Qc W y c).w):O6 (IM W t x):=by
 have hl:=p.a.t;have e:∀i:Int,0<=i->Q6 (YtnclplgaicdapaaGreatDoor.IM W t x) i=if t=i then x else Q6 W i:=λi i0=>QO _ _ t0 Qo i0
 refine⟨⟨p.a.tk E',λi a b=>?_,λi a b n=>?_,λk c hu c0 c1=>?_⟩,λc c0 c1=>?_⟩
 ·rw[e i a];split
  ·rcases hx with h | ⟨h1,h2,_⟩
   ·exact .inl h
   ·exact .inr ⟨h1,h2.st,h2.g,h2.n,h2.m,h2.m0,h2.s,h2.u,h2.l1,h2.l2,h2.f⟩
  ·rcases p.t i a b with h | ⟨h1,h2⟩
   ·exact .inl h
   ·exact .inr ⟨h1,h2.st,h2.g,h2.n,h2.m,h2.m0,h2.s,h2.u,h2.l1,h2.l2,h2.f⟩
 ·rw[e i a] at n ⊢;split
  ·rename_i h;rw[C' h] at n;rcases hx with h | ⟨_,_,h2⟩
   ·exact Ir h.1 n
   ·exact h2
  ·rename_i h;rw[B' h] at n;exact p.l i a b n
 ·exact(p.s k c hu c0 c1).Bd9 rfl λ_=>rfl
 ·have h:=p.c c c0 c1;refine⟨h.b,h.i,h.c1,h.c2,h.no,h.yes,λh0=>?_⟩;rw[e _ h0];split
  ·rename_i he;exact λh1 h2=>hc c c0 c1 he.symm h1 h2
  ·exact h.q h0
def ES(p:Nat->Bool):Nat->Int
 | 0 => -1
 | k+1=>if (decide (ES p k<0)&&p k)=true then (k:Int) else ES p k
theorem L5(p:Nat->Bool):∀k:Nat,(ES p k = -1/\∀j,j<k->p j=false)\/(0<=ES p k/\ES p k<(k:Int)/\p (ES p k).toNat=true/\∀j:Nat,(j:Int)<ES p k->p j=false)
 | 0=>.inl ⟨rfl,λj hj=>Ir hj (Nat.not_lt_zero j)⟩
 | k+1=>by
  simp only[ES];rcases L5 p k with ⟨h1,h2⟩ | ⟨h1,h2,h3,h4⟩
  ·cases hp:p k with
   | true=>
    rw[h1,C' (by rfl)];exact .inr ⟨Qo,Qo,by simpa using hp,λj hj=>h2 j Qo⟩
   | false=>
    rw[B' Qs,h1];refine .inl ⟨rfl,λj hj=>?_⟩
    by_cases e:j=k
    ·rw[e]; exact hp
    ·exact h2 j Qo
  ·rw[B' (by rw[decide_eq_false (by omega:¬ES p k<0)]; simp)];exact .inr ⟨h1,Qo,h3,h4⟩
theorem zll{p:Nat->Bool}{n:Nat}(h:∀j,j<n->p j=false):ES p n = -1:=by
 rcases L5 p n with ⟨h1,_⟩ | ⟨h1,h2,h3,_⟩
 ·exact h1
 ·rw[h _ Qo] at h3; cases h3
theorem zlk{p:Nat->Bool}{n:Nat}{a:Int}(a0:0<=a)(a1:a<(n:Int))(hp:p a.toNat=true)(hn:∀j:Nat,(j:Int)<a->p j=false):ES p n=a:=by
 rcases L5 p n with ⟨_,h2⟩ | ⟨h1,h2,h3,h4⟩
 ·rw[h2 _ Qo] at hp; cases hp
 ·by_cases l:ES p n<a
  ·rw[hn _ Qo] at h3; cases h3
  ·by_cases g:a<ES p n
   ·rw[h4 _ Qo] at hp; cases hp
   ·omega
def OS(W:Q8)(j:Nat):Bool:=(Q6 W (j:Int)).state==0
def Yq(W:Q8):Int:=ES (OS W) 12
noncomputable def Y9(W:Q8)(g n x:Int):Int:=if Qe n=0\/O7 x=false\/x=0 then 1 else if Q7 W.IC g=false then 2 else if Yq W<0 then 3 else if QK W=false then 10 else 0
def MU(W:Q8)(g x:Int):Int:=Up W (Qn W g x)
def PC(W:Q8)(g n x:Int):KW:=⟨1,g,MU W g x,n,x,(Qc W g (MU W g x)).floor,0,0,0⟩
def Me(W:Q8)(g n x:Int):Q8:=Qh (Rp (IM W (Yq W) (PC W g n x)) (MU W g x))
noncomputable def J0(W:Q8)(bar:Int)(W':Q8)(a:Int):Q8×Int×Int:=if QB W=false then (Kw,-1,1) else if bar≠0 then (W,-1,bar) else (W',a,0)
def O8(r:Q8×Int×Int)(w:Wo)(v:Va)(w':Wo):Prop:=∃n m',v=.tuple #[.agg (Qb r.1 m').toArray,.int .i64 r.2.1,.int .i64 r.2.2]/\Zj n w.heap.size w' r.1 m'/\Q0 [] w w'
structure z24 (W:Q8) (g n x:Int):Prop where
 w:Qe n≠0
 m:O7 x=true
 m0:x≠0
 u:Q7 W.IC g=true
 f0:0<=Yq W
 f1:Yq W<12
 f2:(Q6 W (Yq W)).state=0
 r:QK W=true
 sw:SW Qq W
 c0:0<=MU W g x
 c1:MU W g x<(W.ID.length:Int)
 ch:Z1 (Qn W g x) (MU W g x)=true
 sw2:SW Qq (IM W (Yq W) (PC W g n x))
theorem Bi{W:Q8}{g n x:Int}(hW:QB W=true)(hb:Y9 W g n x=0):z24 W g n x:=by
 have wp:=Qm.1 hW;unfold Y9 at hb
 split at hb
 ·cases hb
 ·rename_i h1
  split at hb
  ·cases hb
  ·rename_i h2
   split at hb
   ·cases hb
   ·rename_i h3
    split at hb
    ·cases hb
    ·rename_i h4;have h4:QK W=true:=by simpa using h4
     have h2:Q7 W.IC g=true:=by simpa using h2
     have sw:=Mi wp (Qm.1 h4)
     have hf:0<=Yq W/\Yq W<12/\OS W (Yq W).toNat=true:=by
      rcases L5 (OS W) 12 with ⟨a,_⟩ | ⟨a,b,c,_⟩
      ·unfold Yq at h3; omega
      ·exact⟨a,b,c⟩
     obtain⟨c0,c1,ch⟩:=Ln wp.a g x;have hs:=sw.s g _ h2 c0 c1;have e:(((Yq W).toNat:Nat):Int)=Yq W:=Qo;refine⟨λh=>h1 (.inl h),?_,λh=>h1 (.inr (.inr h)),h2,hf.1,hf.2.1,?_,h4,sw,c0,c1,ch,sw.IM hf.1 hf.2.1 (x:=PC W g n x) (λ_=>⟨h2,c0,c1⟩) hs.1 hs.2.1⟩
     ·cases hm:O7 x with
      | true=>rfl
      | false=>exact Ir (.inr (.inl hm)) h1
     ·have:=hf.2.2;unfold OS at this;rw[e] at this;exact Iy this
section
variable {W W':Q8}{m:MW}{w:Wo}{bar a:Int}
theorem O8.bad{w':Wo}(hW:QB W=false)(hx:Q0 [] w w'):O8 (J0 W bar W' a) w (.tuple #[.agg (Qb Kw zym).toArray,.int .i64 (-1),.int .i64 1]) w':=by
 rw[show J0 W bar W' a=(Kw,-1,1) from C' hW];exact⟨0,zym,rfl,Zj.zero _ _,hx⟩
theorem O8.no{n:Nat}{bs:List Nat}{w':Wo}{m':MW}(hW:QB W=true)(hb:bar≠0)(hk:Wk n bs w w' W m'){c:Int}(hc:bar=c):O8 (J0 W bar W' a) w (.tuple #[.agg (Qb W m').toArray,.int .i64 (-1),.int .i64 c]) w':=by
 rw[show J0 W bar W' a=(W,-1,c) by unfold J0; rw[B' (by rw[hW]; decide),C' hb,hc]];exact⟨n,m',rfl,hk.fin⟩
theorem O8.ok{n:Nat}{bs:List Nat}{w':Wo}{m':MW}(hW:QB W=true)(hb:bar=0)(hk:Wk n bs w w' W' m'):O8 (J0 W bar W' a) w (.tuple #[.agg (Qb W' m').toArray,.int .i64 a,.int .i64 0]) w':=by
 rw[show J0 W bar W' a=(W',a,0) by unfold J0; rw[B' (by rw[hW]; decide),B' (by simpa using hb)]];exact⟨n,m',rfl,hk.fin⟩
theorem M1{g n x:Int}(h:XF [] w W m)(hl:UG W) :
  Cz YO #[.agg (Qb W m).toArray,.int .i64 g,.int .i64 n,.int .i64 x] w λe w'=>∃v,e=.returned v/\O8 (J0 W (Y9 W g n x) (Me W g n x) (Yq W)) w v w':=by
 refine j8 W.now m.cO W.ID.length m.cC m.tO W.tasks.length m.tC m.gO W.IC.length m.gC g n x (R:=λv w'=>O8 (J0 W (Y9 W g n x) (Me W g n x) (Yq W)) w v w') ?_;intro y hy y1 aR wr R0 SR;refine I3 (Zi (h.ext R0) hl) ?_;rintro e wv (⟨hW,he,Sm⟩ | ⟨hW,m',he,hM,Sm⟩)
 ·exact⟨_,_,_,_,_,_,_,_,_,_,_,he,Qf Sm SR,λ_ I' R3=>O8.bad hW ((R0.trans Sm).fresh R3 λz hm=>.inl (X4 hy aR z hm)),λg=>by simp at g⟩
 have hK:=Wk.begin hy aR R0 SR hM Sm;have hr:=hK.rd;have wp:=Qm.1 hW;have fZ:=wp.a.t;refine⟨_,_,_,_,_,_,_,_,_,_,_,he,Qf Sm SR,λg=>by split at g <;> simp at g,λ_=>⟨_,ZA,_,λ_=>XA,λg1 O' R3=>?_,λg1=>⟨_,XB hr.g,λg2 Rj R3=>?_,λg2=>⟨⟨Qo,Qo⟩,?_⟩⟩⟩⟩
 ·have hb:Y9 W g n x=1:=by
   unfold Y9;rw[C'];simp only[Iu,Is,IB] at g1;rcases g1 with (g1 | g1) | g1
   ·exact .inl g1
   ·exact .inr (.inl g1)
   ·exact .inr (.inr g1)
  exact O8.no hW (by rw[hb]; decide) (hK.step R3) hb
 ·have n1:¬(Qe n=0\/O7 x=false\/x=0):=by
   simp only[H',beq_eq_false_iff_ne,I6,ne_eq] at g1;rintro (h | h | h)
   ·exact g1.1.1 h
   ·rw[g1.1.2] at h; cases h
   ·exact g1.2 h
  have hb:Y9 W g n x=2:=by unfold Y9; rw[B' n1,C' (by simpa using g2)]
  exact O8.no hW (by rw[hb]; decide) (hK.step R3) hb
 have n1:¬(Qe n=0\/O7 x=false\/x=0):=by
  simp only[H',beq_eq_false_iff_ne,I6,ne_eq] at g1;rintro (h | h | h)
  ·exact g1.1.1 h
  ·rw[g1.1.2] at h; cases h
  ·exact g1.2 h
 have hu:Q7 W.IC g=true:=by simpa using g2
 have n2:¬Q7 W.IC g=false:=by rw[hu]; decide
 refine⟨λvs w1=>∃a t:Int,vs=[.int .i64 a,.int .i64 t]/\-1<=t/\t<12/\(a = -1/\(∀j:Nat,t<(j:Int)->j<12->OS W j=false)\/t<a/\a<12/\OS W a.toNat=true/\∀j:Nat,t<(j:Int)->(j:Int)<a->OS W j=false)/\Q0 [y,y1] wv w1,
  λvs _=>(ZP 1 vs+1).toNat,λw1 tZ _=>⟨-1,_,rfl,Qo,Qo,.inl ⟨rfl,λj h1 h2=>by omega⟩,tZ⟩,?_⟩
 rintro av tv R1 gI ⟨a,t,aM,ht0,ht1,uH,hxw⟩;simp only[I4,I5,true_and,and_true] at aM;obtain⟨rfl,rfl⟩:=aM;have hK1:=hK.step hxw;have wE:=hK1.rd;refine⟨λIT=>?_,λRC=>?_⟩
 ·have IT:=Ot IT;have e:((tv.toNat:Nat):Int)=tv:=Qo;have gX:OS W tv.toNat=((Q6 W tv).state==0):=by unfold OS; rw[e]
  refine⟨wE.t.ix QG IT Qo,_,wE.t.f IT Qo (j:=0) rfl,λg3=>⟨⟨Qo,Qo⟩,λRE Sb _=>⟨⟨tv,tv-1,rfl,Qo,Qo,.inr ⟨Qo,ht1,by rw[gX]; exact g3,λj h1 h2=>by omega⟩,hxw.trans Sb⟩,?_⟩⟩,λg3=>⟨⟨Qo,Qo⟩,λRP Wt _=>⟨⟨av,tv-1,rfl,Qo,Qo,?_,hxw.trans Wt⟩,?_⟩⟩⟩
  ·simp only[ZP,Ie,List.getElem?_cons_succ]; omega
  ·have g3:OS W tv.toNat=false:=by rw[gX]; exact g3
   have one:∀j:Nat,tv-1<(j:Int)->¬tv<(j:Int)->OS W j=false:=λj h1 h2=>by
    have:j=tv.toNat:=Qo;rw[this]; exact g3
   rcases uH with ⟨h1,h2⟩ | ⟨h1,h2,h3,h4⟩
   ·exact .inl ⟨h1,λj j1 j2=>if h:tv<(j:Int) then h2 j h j2 else one j j1 h⟩
   ·exact .inr ⟨Qo,h2,h3,λj j1 j2=>if h:tv<(j:Int) then h4 j h j2 else one j j1 h⟩
  ·simp only[ZP,Ie,List.getElem?_cons_succ]; omega
 ·have RC:=Ou RC;have ht:tv = -1:=Qo;subst ht
  have uI:av=Yq W:=by
   rcases uH with ⟨h1,h2⟩ | ⟨h1,h2,h3,h4⟩
   ·rw[h1]; exact(zll λj hj=>h2 j Qo hj).symm
   ·exact(zlk Qo h2 h3 λj hj=>h4 j Qo hj).symm
  subst uI;refine⟨λg4 Sn dK=>?_,λg4=>⟨λg5 SL nQ=>?_,λg5=>?_⟩⟩
  ·have g4:=Ot g4;have hb:Y9 W g n x=3:=by unfold Y9; rw[B' n1,B' n2,C' g4]
   exact O8.no hW (by rw[hb]; decide) (hK1.step dK) hb
  ·have g4:=Ou g4;have bQ:¬QK W=true:=λhr=>by rw[C' hr] at g5; simp at g5
   have hb:Y9 W g n x=10:=by unfold Y9; rw[B' n1,B' n2,B' g4,C' (by simpa using bQ)]
   rw[B' bQ];exact O8.no hW (by rw[hb]; decide) (hK1.step nQ) hb
  have g4:=Ou g4;have bQ:QK W=true:=Iq λhr=>by rw[B' hr] at g5; simp at g5
  have hb:Y9 W g n x=0:=by unfold Y9; rw[B' n1,B' n2,B' g4,B' (by rw[bQ]; decide)]
  have hf:=Bi hW hb;obtain⟨u0,u1,_⟩:=Q4.1 hu;have hsl:=wp.a.sl hu;have c0:=hf.c0;have c1:=hf.c1;have f0:=hf.f0;have f1:=hf.f1;have Sk:Wk 8 [y,y1] w (R5 R1 m'.tO (Int.toNat (Yq W)*9) (Xq (PC W g n x))) (IM W (Yq W) (PC W g n x)) m':=hK1.R5 (hK1.own.pN f0 (by rw[fZ]; exact f1) (j:=0) (vs:=Xq (PC W g n x)) (x:=PC W g n x) (by simp[Xq]) (by simp[Xq])) Kd;refine⟨_,JK wE wp.a.c2 wp.a.tree hu,_,Gh wE wp.a (zep wp),wE.g.ix u0 u1,_,_,_,wE.g.Ry u0 u1,(wE.g.IE g u0 u1).ix X7 c0 (by rw[hsl]; exact c1),(Qc W g (MU W g x)).floor,zpf.f (wE.g.IE g u0 u1) c0 (by rw[hsl]; exact c1) (j:=0) rfl,wE.t.ix QG f0 (by rw[fZ]; exact f1),zkh hK1.own hK1.nb f0 (by rw[fZ]; exact f1) (j:=0) (k:=9) Qd,λWw kS hs9=>?_⟩;have e5:Qb (IM W (Yq W) (PC W g n x)) m'=Qb W m':=VJ _ _ _ _;have fN:=Sk.step kS;have aK:=ZG fN.own c0 (show MU W g x<((IM W (Yq W) (PC W g n x)).ID.length:Int) from c1);rw[e5] at aK;refine I3 aK ?_;rintro e2 Rr ⟨aM,fL⟩;refine⟨_,_,_,_,_,_,_,_,_,_,aM,fN.kept fL hs9,λS9 AD8 nP=>?_⟩;have hK7:=(fN.Sl fL hs9).step AD8;have uG:=Qy hK7.own (hf.sw2.Rp c0 c1) Qd Qd hK7.base;refine I3 uG ?_;rintro e3 RO ⟨m2,fS,hy5⟩;exact⟨_,_,_,_,_,_,_,_,_,_,fS,hK7.kept hy5 nP,λSL nQ=>O8.ok hW hb ((hK7.Sl hy5 nP).step nQ)⟩
theorem z14{p:OA}(h:Mk [] w p W m)(fZ:W.tasks.length=12) :
  Cz ZJ #[.slice m.tO W.tasks.length m.tC,.func (.func X9) #[] #[]] w λe w'=>e=.returned (.int .i64 (Yq W))/\Q0 [] w w':=by
 refine(UK m.tO W.tasks.length m.tC (.func X9) #[] #[] (R:=λv w'=>v=.int .i64 (Yq W)/\Q0 [] w w') ?_).mono λe w' ⟨v,he,hv,h3⟩=>⟨by rw[he,hv],h3⟩
 refine XL 12 0 rfl (λk w1=>k<=12/\(∀j:Nat,j<k->OS W j=false)/\Q0 [] w w1) (λwr hx _=>⟨Ic _,λj hj=>Ir hj (Nat.not_lt_zero j),hx⟩) λk w1 _ ⟨hk,iQ,hxw⟩=>?_
 refine⟨λIT=>?_,λRC Rn Si=>⟨?_,hxw.trans Si⟩⟩
 ·have IT:=Ot IT;have hp:=h.ext hxw;refine⟨hp.rd.t.ix QG Qo IT,_,_,_,_,_,_,_,_,_,hp.rd.t (k:Int) Qo IT,λI' RR _=>.inl ⟨X9,_,rfl,?_⟩⟩;refine((DQ _ _ _ _ _ _ _ _ _ λ_ _=>λ_ _=>rfl) I' (Q0.refl [] _)).mono λe w2 ⟨he,R0⟩=>⟨_,he,Z3,λg O' R3=>⟨?_,((hxw.trans RR).trans R0).trans R3⟩,λg=>⟨⟨Qo,Qo⟩,λRj R3 _=>Qp Qo ⟨Qo,λj hj=>?_,((hxw.trans RR).trans R0).trans R3⟩⟩⟩
  ·have g:OS W k=true:=g;rw[show Yq W=(k:Int) from zlk Qo Qo (by simpa using g) λj hj=>iQ j Qo]
  ·by_cases e:j=k
   ·rw[e]; exact g
   ·exact iQ j Qo
 ·have RC:=Ou RC;have:k=12:=Qo;subst this;rw[show Yq W = -1 from zll iQ]
theorem zmb(n:Int):X6 n (-10) 9=true↔Qe n≠0:=by
 unfold Qe;split
 ·rename_i h;have:=Qx.1 h;exact⟨λ_=>by omega,λ_=>h⟩
 ·rename_i h;exact⟨λh'=>Ir h' h,λh'=>Ir rfl h'⟩
end
section
variable {base pb:Nat}{W W':Q8}{m:MW}{w:Wo}
theorem zlt{b5:Nat}{cap cap1 Aw6:OA}{t5:TypeId}{g n x:Int}(h:PW base pb w W m)(hW:QB W=true)(h0:Q1 [] w cap 0 [.int .i64 n])(h1:Q1 [] w cap1 0 [.int .i64 x])(h2:Q1 [] w Aw6 0 [.int .i64 g])(h5:w.heap[b5]? = some (.cells ([.int .i64 (-1)]:List Va).toArray t5 (0,0)))(hb5:b5<base)(hpb:base<=pb) :
  Cz JV #[.pointer (pA pb),.pointer cap,.pointer cap1,.pointer Aw6,.pointer (some ⟨b5,0,none⟩)] w λe w2=>(Y9 W g n x≠0/\e=.returned (.iface Qi (.agg #[.int .i64 (Y9 W g n x)]))/\Q0 [] w w2)\/(Y9 W g n x=0/\e=.returned .nilIface/\(∃t,w2.heap[b5]? = some (.cells ([.int .i64 (Yq W)]:List Va).toArray t (0,0)))/\∃m2,Ki base pb [b5] w m w2 (Me W g n x) m2):=by
 have wp:=Qm.1 hW;have hM:=Mp.start h;have hp:=hM.wH;have fZ:=wp.a.t;have hm9:=Zg
 refine(B1 (pA pb) cap cap1 Aw6 (some ⟨b5,0,none⟩) (R:=λv w2=>(Y9 W g n x≠0/\v=.iface Qi (.agg #[.int .i64 (Y9 W g n x)])/\Q0 [] w w2)\/(Y9 W g n x=0/\v=.nilIface/\(∃t,w2.heap[b5]? = some (.cells ([.int .i64 (Yq W)]:List Va).toArray t (0,0)))/\∃m2,Ki base pb [b5] w m w2 (Me W g n x) m2)) ?_).mono λe w' ⟨v,he,h3⟩=>by
  rw[he];rcases h3 with ⟨a,b,c⟩ | ⟨a,b,c⟩
  ·exact .inl ⟨a,by rw[b],c⟩
  ·exact .inr ⟨a,by rw[b],c⟩
 refine⟨n,h0,_,Pa,x,λ_=>h1,_,λ_=>zua,λg1 wr hx=>.inl ?_,λg1=>⟨hp.some,_,_,_,hp.IC,g,h2,_,Ve hp.rd.g (by have:=wp.a.gl; omega),λg2 wr hx=>.inl ?_,λg2=>?_⟩⟩
 ·have hb:Y9 W g n x=1:=by
   unfold Y9;rw[C']
   by_cases hn:Qe n=0
   ·exact .inl hn
   ·rw[(zmb n).2 hn] at g1;refine .inr ?_
    cases hm:O7 x with
    | false=>exact .inl rfl
    | true=>rw[hm] at g1; exact .inr (by simpa using g1)
  rw[hb];exact⟨Qd,rfl,hx⟩
 ·have n1:¬(Qe n=0\/O7 x=false\/x=0):=by
   simp only[H',I6,A',It,ne_eq] at g1;rintro (h | h | h)
   ·exact(zmb n).1 g1.1 h
   ·rw[g1.2.1] at h; cases h
   ·exact g1.2.2 h
  have hb:Y9 W g n x=2:=by unfold Y9; rw[B' n1,C' (by simpa using g2)]
  rw[hb];exact⟨Qd,rfl,hx⟩
 have n1:¬(Qe n=0\/O7 x=false\/x=0):=by
  simp only[H',I6,A',It,ne_eq] at g1;rintro (h | h | h)
  ·exact(zmb n).1 g1.1 h
  ·rw[g1.2.1] at h; cases h
  ·exact g1.2.2 h
 have hu:Q7 W.IC g=true:=by simpa using g2
 have n2:¬Q7 W.IC g=false:=by rw[hu]; decide
 refine⟨hp.some,_,_,_,hp.tasks,λO' R0 _=>?_⟩;have T':=hM.nil R0;refine I3 (z14 T'.wH fZ) ?_;rintro e wv ⟨he,hy⟩;have hX:=R0.trans hy;have cJ:=T'.nil hy;have hp3:=cJ.wH;refine⟨_,he,Z3,λg4 Rj R3=>.inl ?_,λg4=>⟨_,TX hp3 wp.a,λg5 Rn Si=>.inl ?_,λg5=>?_⟩⟩
 ·have g4:=Ot g4;have hb:Y9 W g n x=3:=by unfold Y9; rw[B' n1,B' n2,C' g4]
  rw[hb];exact⟨Qd,rfl,hX.trans R3⟩
 ·have g4:=Ou g4;have g5:QK W=false:=by simpa using g5
  have hb:Y9 W g n x=10:=by unfold Y9; rw[B' n1,B' n2,B' g4,C' g5]
  rw[hb];exact⟨Qd,rfl,hX.trans Si⟩
 have g4:=Ou g4;have g5:QK W=true:=by simpa using g5
 have hb:Y9 W g n x=0:=by unfold Y9; rw[B' n1,B' n2,B' g4,B' (by rw[g5]; decide)]
 have hf:=Bi hW hb;obtain⟨u0,u1,_⟩:=Q4.1 hu;have hsl:=wp.a.sl hu;have c0:=hf.c0;have c1:=hf.c1;have f0:=hf.f0;have f1:=hf.f1;have hwo:=Kh wp.a g x;refine⟨x,h1.ext hX,g,h2.ext hX,_,OT hp3 wp.a.c2 wp.a.tree hu,λRE Sb _=>?_⟩;have tV:=cJ.nil Sb;refine I3 (Hk tV.wH wp.a (zep wp) (λc hcx=>KE wp.a hcx) hwo.1 hwo.2) ?_;rintro e1 Rr ⟨eH,aR⟩;have tW:=(hX.trans Sb).trans aR;have rZ:=tV.nil aR;have hp6:=rZ.wH;refine⟨_,eH,Z3,_,_,Yr,λb hbb=>⟨hp6.some,_,_,_,hp6.tasks,g,h2.ext tW,n,h0.ext tW,x,h1.ext tW,g,h2.ext tW,_,Zn hp6 u0 u1 c0 (by rw[hsl]; exact c1),?_⟩⟩;have hsh:=hp6.rd.g.IE g u0 u1;have hcs:=hsh (MU W g x) c0 (by rw[hsl]; exact c1);have CK3:Mp base pb [b] w m Rr W m:=rZ.add hbb;have Sk:Mp base pb [b] w m (R5 Rr m.tO (Int.toNat (Yq W)*9) (Xq (PC W g n x))) (IM W (Yq W) (PC W g n x)) m:=CK3.Sl (CK3.own.pN f0 (by rw[fZ]; exact f1) (j:=0) (vs:=Xq (PC W g n x)) (x:=PC W g n x) (by simp[Xq]) (by simp[Xq])) Kd (VJ _ _ _ _);refine⟨Lt hcs,(Qc W g (MU W g x)).floor,GX hcs (j:=0) rfl,hp6.rd.t.ix QG f0 (by rw[fZ]; exact f1),zkh rZ.own rZ.nb f0 (by rw[fZ]; exact f1) (j:=0) (k:=9) Qd,λRP Wt tP=>?_⟩;have uD:Mp base pb [b] w m RP (IM W (Yq W) (PC W g n x)) m:=Sk.M' Wt;refine I3 (YT uD.pw c0 (show MU W g x<((IM W (Yq W) (PC W g n x)).ID.length:Int) from c1)) ?_;rintro e2 RO ⟨aM,Sm⟩;refine⟨aM,uD.kept Sm tP,λSn dK hs7=>?_⟩;have hM8:=(uD.call Sm tP).step dK;refine I3 (Jt hM8.pw (hf.sw2.Rp c0 c1) Qd Qd) ?_;rintro e3 aE ⟨fS,dG⟩;have hM9:=hM8.call dG hs7;have h5':=zk3 h hb5 hpb h5 hM9.close
 have CL6:b5≠b:=λe=>by
  have:=Yt h5;have:=tW.size;omega
 have hn5:b5∉QR 8 m:=λhm=>by
  have:=(h.own.lt b5 hm).1;omega
 refine⟨fS,hM8.kept dG hs7,U7 (k0:=0) h5' (by simpa using CL6) Qs,λSL nQ=>.inr ⟨hb,rfl,?_⟩⟩;have gX:Q0 [b5] aE (R5 aE (some ⟨b5,0,none⟩) 0 [.int .i64 (Yq W)]):=X3 (bs:=[b5]) Qs;have SO:=Qg (U6 (k:=0) (n:=0) (vs:=[.int .i64 (Yq W)]) h5') nQ (by simpa using CL6);refine⟨⟨_,SO⟩,m,?_⟩;have hD:=hM9.close;have B99:Zj 8 base SL (Me W g n x) m:=(hD.own.ext gX λy hy hm=>hn5 ((by simpa using hm:y=b5)▸hy)).ext nQ hM9.nb;refine⟨B99,Qg (Qg hD.pt gX (by simp; omega)) nQ hM9.pb,?_,λy hy=>.inl hy⟩;refine((hD.v.ext.mono (cs:=[b5]++(pb::QR 8 m)) λy hy=>by simp[hy]).trans (gX.mono λy hy=>by simp at hy; simp[hy])).fresh nQ λy hy=>.inl ?_
 have:y=b:=by simpa using hy
 rw[this];exact IA tW.size hbb
theorem XF.new{w1:Wo}{bs:List Nat}(h:XF [] w W m)(hb:∀y∈bs,w.heap.size<=y){wb:Wo}(hx:Q0 [] w wb)(RR:Q0 bs wb w1):XF [] w1 W m:=
 (((h.wide (cs:=bs) λy hy=>.inr (hb y hy)).ext hx.of_nil).ext RR).less Qs
theorem zab{g n x:Int}(h:XF [] w W m)(hl:UG W)(hg:Vw w) :
  Cz OB #[.agg (Qb W m).toArray,.int .i64 g,.int .i64 n,.int .i64 x] w λe w'=>∃v,e=.returned v/\O8 (J0 W (Y9 W g n x) (Me W g n x) (Yq W)) w v w':=by
 refine CR W.now m.cO W.ID.length m.cC m.tO W.tasks.length m.tC m.gO W.IC.length m.gC g n x (R:=λv w'=>O8 (J0 W (Y9 W g n x) (Me W g n x) (Yq W)) w v w') ?_;intro y hy b1 wb RR fQ vS hn1 b2 lY hxb bR hc2 hn2 b3 wb2 Bt8 wC hc3 hn3 b4 hb4 b5 wb3 Bt9 hb5 hc5 hn5;refine⟨U7 (k0:=0) hc5 hn5 Qs,λwr R0 hs=>?_⟩;have hX0:Q0 [] w lY:=RR.fresh hxb λz hz=>.inl (O0 hz hy)
 have hX1:Q0 [] w wb2:=hX0.fresh Bt8 λz hz=>.inl (O0 hz hy)
 have tW:Q0 [] w wb3:=hX1.fresh Bt9 λz hz=>.inl (O0 hz hy)
 have gX:Q0 [b5] wb3 (R5 wb3 (some ⟨b5,0,none⟩) 0 [.int .i64 (-1)]):=X3 (bs:=[b5]) Qs;have Cl1:w.heap.size<=b5:=IA hX1.size hb5
 have two:∀z∈[y,b4],w.heap.size<=z:=λz hm=>by
  simp only[Ii,List.not_mem_nil,or_false] at hm;rcases hm with rfl | rfl
  ·exact hy
  ·exact IA hX1.size hb4
 have hX:Q0 [] w wr:=(tW.fresh gX λz hz=>.inl (by
  have:z=b5:=by simpa using hz
  omega)).fresh R0 λz hz=>.inl (two z hz)
 have n15:∀{b:Nat} {o:Obj} {w9:Wo},w9.heap[b]? = some o->w9.heap.size<=b5->b∉[b5]:=λ{b o w9} hb hl hm=>by
  have:b=b5:=by simpa using hm
  have:=Yt hb;omega
 have s1:=hxb.size;have s2:=Bt8.size
 have n2:b2∉[y,b4]:=λhm=>by
  simp only[Ii,List.not_mem_nil,or_false] at hm;have:=Yt hc2;rcases hm with rfl | rfl
  ·exact hn2 Qs
  ·omega
 have n1:b1∉[y,b4]:=λhm=>by
  simp only[Ii,List.not_mem_nil,or_false] at hm;have:=Yt vS;rcases hm with rfl | rfl
  ·exact hn1 Qs
  ·omega
 have n3:b3∉[y,b4]:=λhm=>by
  simp only[Ii,List.not_mem_nil,or_false] at hm;have:=Yt hc3;rcases hm with rfl | rfl
  ·exact hn3 Qs
  ·omega
 have c1:=Qg (Qg (Qg (Qg (Qg vS hxb hn1) Bt8 hn1) Bt9 hn1) gX (n15 vS Qo)) R0 n1;have c2:=Qg (Qg (Qg (Qg hc2 Bt8 hn2) Bt9 hn2) gX (n15 hc2 Qo)) R0 n2;have c3:=Qg (Qg (Qg hc3 Bt9 hn3) gX (n15 hc3 hb5)) R0 n3;have c5:=Qg (U6 (k:=0) (n:=0) (vs:=[.int .i64 (-1)]) hc5) R0 hn5;have hgw:=hg.ext hX;have CL7:=Yt c5;have Cq8:∀w1,Q0 [b5] wr w1->XF [] w1 W m:=λw1 hx=>XF.new h (bs:=[b5]) (by simpa using Cl1) hX hx
 have cell:∀{b:Nat} {v:Va} {t:TypeId} {w1:Wo},wr.heap[b]? = some (Obj.cells ([v]:List Va).toArray t (0,0))->Q0 [] wr w1->Q1 [] w1 (some ⟨b,0,none⟩) 0 [v]:=λhb hx=>Ym (Qg hb hx Qs) Qs (k0:=0) rfl
 have DG6:=hg.lt
 refine I3 (zd6 (bar:=Y9 W g n x) (W':=Me W g n x) [b5] (λw2=>∃t,w2.heap[b5]? = some (.cells ([.int .i64 (Yq W)]:List Va).toArray t (0,0)))
  (λa b bs ha hx hb=>ha.imp λ_ h=>Qg h hx λhm=>by have:=hb _ hm; omega) (by simpa using CL7) (by simp; omega) (h.ext hX) (λz hz w1 hx=>Cq8 w1 hx) hl hgw
  λw1 pb m1 hW R3 hpb hP=>.inl ⟨JV,_,rfl,zlt hP hW (cell c2 R3) (cell c3 R3) (cell c1 R3) (Qg c5 R3 Qs) CL7 hpb⟩) ?_
 rintro e wv ⟨v,he,⟨n',m',hv,hM,Sm⟩,Bf8,iQ⟩;subst hv
 have CO3:Q9 [y,b4] wr wv:=λz hz=>Sm.block z (hs z hz) λhm=>by
  have:z=b5:=by simpa using hm
  subst this;exact hn5 hz
 refine⟨_,_,_,_,_,_,_,_,_,_,_,he,CO3,λb6 hb6=>?_⟩
 have hXv:Q0 [] w wv:=hX.fresh Sm λz hz=>.inl (by
  have:z=b5:=by simpa using hz
  omega)
 have fin:∀I',Q0 [y,b4] wv I'->Zj n' w.heap.size I' (Yv W (Y9 W g n x) (Me W g n x)).1 m'/\Q0 [] w I':=λI' Si=>⟨(hM.ext Si λz hz hm=>by
  have:=(hM.lt z hz).1;have:=hs z hm;omega).mono hX.size,hXv.fresh Si λz hm=>.inl (two z hm)⟩
 by_cases uH:QB W=true/\Y9 W g n x=0
 ·obtain⟨hW,hb⟩:=uH;obtain⟨t9,hd⟩:=Bf8 hW hb;have hc9:Q1 [y,b4] wv (some ⟨b5,0,none⟩) 0 [.int .i64 (Yq W)]:=Ym hd hn5 (k0:=0) rfl;refine⟨Yq W,hc9,hc9,λI' Si=>?_⟩;obtain⟨f1,f2⟩:=fin I' Si;rw[zkv hW hb] at f1 ⊢;rw[show J0 W (Y9 W g n x) (Me W g n x) (Yq W)=(Me W g n x,Yq W,0) by unfold J0; rw[B' (by rw[hW]; decide),B' (by simpa using hb)]];exact⟨n',m',rfl,f1,f2⟩
 ·have hX9:=iQ (by
   cases hW:QB W with
   | false=>exact .inl rfl
   | true=>exact .inr λhb=>uH ⟨hW,hb⟩)
  have hc9:Q1 [y,b4] wv (some ⟨b5,0,none⟩) 0 [.int .i64 (-1)]:=Ym (Qg c5 hX9 Qs) hn5 (k0:=0) rfl;refine⟨-1,hc9,hc9,λI' Si=>?_⟩;obtain⟨f1,f2⟩:=fin I' Si
  cases hW:QB W with
  | false=>
   rw[zku hW] at f1 ⊢;rw[show J0 W (Y9 W g n x) (Me W g n x) (Yq W)=(Kw,-1,1) from C' hW];exact⟨n',m',rfl,f1,f2⟩
  | true=>
   have hb:Y9 W g n x≠0:=λhb=>uH ⟨hW,hb⟩
   rw[zbl hW hb] at f1 ⊢;rw[show J0 W (Y9 W g n x) (Me W g n x) (Yq W)=(W,-1,Y9 W g n x) by unfold J0; rw[B' (by rw[hW]; decide),C' hb]];exact⟨n',m',rfl,f1,f2⟩
end
structure Jw (W:Q8):Prop where
 wp:Jq W
 fl:z37 W
theorem ZC{K:Int}{W:Q8}(sw:SW K W)(hK:0<=K)(gV:K+Vu<=100000000000000000)(p:O6 W)(hl:zb8 W):Jw (Qh W):=by
 obtain⟨a,b⟩:=zfx sw hK gV p hl;exact⟨a,b⟩
theorem zb8.Rp{W:Q8}(h:zb8 W)(c:Int):zb8 (Rp W c):=(G6 W c).loc rfl h
theorem zb8.IM{W:Q8}(h:zb8 W)(ha:WA W){t:Int}(t0:0<=t)(t1:t<12){x:KW}(hx:x.state≠0->Z1 (Qn W x.group x.mask) x.J'=true):zb8 (IM W t x):=λi i0 i1 n=>by
 have hl:=ha.t;have e:Q6 (YtnclplgaicdapaaGreatDoor.IM W t x) i=if t=i then x else Q6 W i:=QO _ _ t0 Qo i0;rw[e] at n ⊢;rw[(zq5 W t x).wh]
 split at n
 ·rename_i he;rw[C' he]; exact hx n
 ·rename_i he;rw[B' he]; exact h i i0 i1 n
theorem zy9(W:Q8)(t c:Int)(x:KW):Rp (IM W t x) c=IM (Rp W c) t x:=rfl
theorem Pc{W:Q8}(p:O6 W){t:Int}(t0:0<=t)(t1:t<12)(n:(Q6 W t).state≠0):Fu W (Q6 W t):=by
 rcases p.t t t0 t1 with h | h
 ·exact Ir h.1 n
 ·exact h.2
theorem ztx{W:Q8}{t:Int}(hW:QB W=true)(hb:Tx W t=0):Jw (zk2 W t):=by
 have wp:=Qm.1 hW;obtain⟨h1,h2,sw,sw2⟩:=zm7 hW hb;obtain⟨t0,t1,n⟩:=Y0 h1;have hl:=wp.a.t;have p:=XN wp;have h:=Pc p t0 Qo n;have sD:=Vr wp;refine ZC sw2 Qd Qd (p.IM t0 Qo (.inr ⟨by show (2:Int)≠0; decide,⟨.inr rfl,h.g,h.n,h.m,h.m0,h.s,h.u,h.l1,h.l2,λh=>by cases h⟩,p.l t t0 Qo n⟩) λc c0 c1 _ hs _=>by cases hs) (sD.IM wp.a t0 Qo λ_=>sD t t0 Qo n)
theorem zwl{W:Q8}{t:Int}(hW:QB W=true)(hb:Ti W t=0):Jw (AP W t):=by
 have wp:=Qm.1 hW;obtain⟨h1,_,sw,_,sw2⟩:=zlj hW hb;obtain⟨t0,t1,n⟩:=Y0 h1;have hl:=wp.a.t;have p:=XN wp;obtain⟨c0,c1⟩:=p.l t t0 Qo n
 have key:O6 (QF W t)/\zb8 (QF W t):=by
  unfold QF;split
  ·exact⟨p.Rp c0 c1,(Vr wp).Rp _⟩
  ·exact⟨p,Vr wp⟩
 exact ZC sw2 Qd Qd (key.1.IM t0 Qo (.inl ⟨rfl,rfl⟩) λc c0 c1 _ hs _=>by cases hs) (key.2.IM key.1.a t0 Qo λh=>Ir rfl h)
theorem zbx{W:Q8}(p:O6 W){t c:Int}(t0:0<=t)(t1:t<12){x:KW}(n:x.state≠0)(hx:Fu W x)(hc:x.J'=c)(c0:0<=c)(c1:c<(W.ID.length:Int)):O6 (Rp (IM W t x) c):=by
 rw[zy9];have hl:(Rp W c).ID.length=W.ID.length:=E';refine(p.Rp c0 c1).IM t0 t1 (.inr ⟨n,⟨hx.st,hx.g,hx.n,hx.m,hx.m0,hx.s,hx.u,hx.l1,hx.l2,hx.f⟩,by rw[hl,hc]; exact⟨c0,c1⟩⟩) λd d0 d1 sA _ hd=>?_
 rw[hc] at hd;subst hd;have e1:gi (Rp W c).ID c=Js (gi W.ID c):=(QO _ _ c0 c1 c0).trans (C' rfl);rw[e1] at sA;have sA:(-1:Int)=t:=sA;omega
theorem z18(f v w:Int):f<=f+Yk (v-f) w/\f+Yk (v-f) w-f<=Zw w:=by
 have:=ZY (v-f) w;omega
theorem zny{W:Q8}{t n:Int}(hW:QB W=true)(hb:Xv W t n=0):Jw (Tl W t n):=by
 have wp:=Qm.1 hW;have hq:=zbw hW hb;obtain⟨t0,t1,tn⟩:=Y0 hq.th;have hl:=wp.a.t;have p:=XN wp;have hw:Qe n≠0:=λh=>by unfold Xv at hb; rw[C' h] at hb; cases hb
 have h:=Pc p t0 Qo tn;obtain⟨c0,c1⟩:=p.l t t0 Qo tn;have sD:=Vr wp;have hL:zb8 (IM W t (Je W t n)):=sD.IM wp.a t0 Qo λ_=>sD t t0 Qo tn
 have hT:Fu W (Je W t n):=⟨h.st,h.g,hw,h.m,h.m0,h.s,h.u,h.l1,h.l2,λhs=>by
  have hs:(Q6 W t).state=1:=hs;rw[zma hs];exact z18 _ _ _⟩
 have hK:K1+Vu<=100000000000000000:=by simp only[K1,Qj,Vu]; decide
 have hK0:0<=K1:=by simp only[K1,Qj]; decide
 unfold Tl;split
 ·rename_i hs
  have hlv:QF (IM W t (Je W t n)) t=if (gi W.ID (Q6 W t).J').cur=t then Rp (IM W t (Je W t n)) (Q6 W t).J' else IM W t (Je W t n):=by
   unfold QF;rw[P5 t0 t1]; rfl
  have s2:=hq.s2;rw[hlv] at s2 ⊢;split
  ·rename_i sA;rw[C' sA] at s2;exact ZC s2 hK0 hK (zbx p t0 Qo tn hT rfl c0 c1) (hL.Rp _)
  ·rename_i sA;rw[B' sA] at s2;refine ZC s2 hK0 hK (p.IM t0 Qo (.inr ⟨tn,hT,c0,c1⟩) λd d0 d1 hd _ hx=>?_) hL;have hx:(Q6 W t).J'=d:=hx;rw[hx] at sA;exact Ir hd sA
 ·rename_i hs;exact ZC hq.s1 hK0 hK (p.IM t0 Qo (.inr ⟨tn,hT,c0,c1⟩) λd d0 d1 hd hx _=>Ir hx hs) hL
theorem znz{W:Q8}{t:Int}(hW:QB W=true)(hb:XO W t=0):Jw (PK W t):=by
 have wp:=Qm.1 hW;obtain⟨h1,h2,_,sf,c0,c1⟩:=zb5 hW hb;obtain⟨t0,t1,tn⟩:=Y0 h1;have hl:=wp.a.t;have p:=XN wp;have h:=Pc p t0 Qo tn;have sD:=Vr wp
 have hT:Fu W (XP W t (PJ W t)):=⟨.inl rfl,h.g,h.n,h.m,h.m0,h.s,h.u,h.l1,h.l2,λ_=>by
  have:=ZY ((Q6 W t).v-(Qc W (Q6 W t).group (Q6 W t).J').floor) (Qe (Q6 W t).nice);show (Qc W (Q6 W t).group (PJ W t)).floor<=(Qc W (Q6 W t).group (PJ W t)).floor+DP W t/\(Qc W (Q6 W t).group (PJ W t)).floor+DP W t-(Qc W (Q6 W t).group (PJ W t)).floor<=Zw (Qe (Q6 W t).nice);unfold DP;exact⟨Qo,Qo⟩⟩
 have hwh:Z1 (Qn W (Q6 W t).group (Q6 W t).mask) (PJ W t)=true:=by
  unfold PJ;split
  ·exact(Ln wp.a _ _).2.2
  ·exact sD t t0 Qo tn
 exact ZC ((N9 sf t0 t1 tn c0 c1).Rp c0 c1).w (by simp only[Qj]; decide) (by simp only[Qj,Vu]; decide) (zbx p t0 Qo (show (1:Int)≠0 by decide) hT rfl c0 c1) ((sD.IM wp.a t0 Qo (x:=XP W t (PJ W t)) λ_=>hwh).Rp _)
def FX(l u:Int):Int:=if X6 l 0 8000000=true/\X6 u 0 1000000=true then l-Int.tdiv l 8+u else 0
def zhe(x:KW):KW:={ x with used:=0,load:=ZH (FX x.load (ZH x.used 1000000)) 8000000 }
def PN(W:Q8):Nat->Q8
 | 0=>W
 | t+1=>IM (PN W t) (t:Int) (zhe (Q6 (PN W t) (t:Int)))
def Hx(next p now:Int):Nat->Int
 | 0=>next
 | i+1=>if Hx next p now i<=now+((i:Int)+1) then Hx next p now i+p else Hx next p now i
structure zvd (next p now v:Int):Prop where
 gt:now<v
 oH:∃j:Nat,v=next+p*(j:Int)/\(j=0\/v-p<=now)
theorem F5{next p now:Int}(hp:1<=p)(hn:now<next):∀i:Nat,zvd next p (now+(i:Int)) (Hx next p now i)
 | 0=>⟨by simp only[Hx]; omega,0,by simp only[Hx]; omega,.inl rfl⟩
 | i+1=>by
  obtain⟨h1,j,h2,h3⟩:=F5 hp hn i;simp only[Hx]
  push_cast
  split
  ·refine⟨Qo,j+1,?_,.inr Qo⟩;rw[h2]; push_cast; rw[Int.mul_add,Int.mul_one,Int.add_assoc]
  ·exact⟨Qo,j,h2,h3.imp id λh=>by omega⟩
theorem zzp{next p now v v':Int}(hp:1<=p)(h:zvd next p now v)(h':zvd next p now v'):v=v':=by
 obtain⟨h1,j,h2,h3⟩:=h;obtain⟨k1,k,k2,k3⟩:=h'
 have key:∀a b:Nat,a<b->p*(a:Int)+p<=p*(b:Int):=λa b hab=>by
  have:p*((a:Int)+1)<=p*(b:Int):=Int.mul_le_mul_of_nonneg_left Qo Qo;rw[Int.mul_add,Int.mul_one] at this;exact this
 rcases Nat.lt_trichotomy j k with h | h | h
 ·have:=key j k h; omega
 ·subst h; omega
 ·have:=key k j h; omega
def Jf(now:Int)(n:Nat)(G:ZX):ZX:=if (G.used&&(G.IS.IX != 0))=true/\G.next<=now+(n:Int) then { G with next:=Hx G.next G.period now n,IS:=JP G.IS } else G
theorem zqn{now:Int}{G:ZX}(h:G.IS.IX≠0->now<G.next):Jf now 0 G=G:=by
 unfold Jf;rw[B'];rintro⟨h1,h2⟩;simp only[A',It,ne_eq] at h1;have:=h h1.2;simp at h2;omega
def O4(W:Q8)(n:Nat):Nat->Q8
 | 0=>{ W with now:=W.now+(n:Int) }
 | k+1=>Rm (O4 W n k) (k:Int) (Jf W.now n (gi W.IC (k:Int)))
def ZW(W:Q8)(n:Nat):Q8:=O4 W n 8
noncomputable def Gl(W:Q8)(n:Int):Int:=if X6 n 1 1000=false then 1 else if QK W=false then 10 else 0
def zkc(W:Q8)(n:Int):Q8:=Qh (PN (ZW W n.toNat) 12)
theorem Dg(now:Int)(n:Nat)(G:ZX):(Jf now n G).used=G.used/\(Jf now n G).parent=G.parent/\(Jf now n G).name=G.name/\(Jf now n G).IE=G.IE/\(Jf now n G).weight=G.weight/\(Jf now n G).ID=G.ID/\(Jf now n G).sum=G.sum/\(Jf now n G).period=G.period/\(Jf now n G).IS.IX=G.IS.IX:=by
 unfold Jf; split <;> exact⟨rfl,rfl,rfl,rfl,rfl,rfl,rfl,rfl,rfl⟩
theorem OZ(W:Q8)(n:Nat):∀k:Nat,(O4 W n k).IC.length=W.IC.length/\(O4 W n k).now=W.now+(n:Int)/\(O4 W n k).ID=W.ID/\(O4 W n k).tasks=W.tasks
 | 0=>⟨rfl,rfl,rfl,rfl⟩
 | k+1=>by
  obtain⟨a,b,c,d⟩:=OZ W n k;exact⟨by show (List.set _ _ _).length=_; rw[E']; exact a,b,c,d⟩
theorem Lm(W:Q8)(n:Nat):∀k:Nat,k<=W.IC.length->∀i:Int,0<=i->gi (O4 W n k).IC i=if i<(k:Int) then Jf W.now n (gi W.IC i) else gi W.IC i
 | 0,_,i,i0=>by rw[B' Qo]; rfl
 | k+1,hk,i,i0=>by
  have ih:=Lm W n k Qo i i0;have hl:=(OZ W n k).1;show gi (Rm (O4 W n k) (k:Int) _).IC i=_;rw[Xo Qo Qo i0]
  by_cases e:(k:Int)=i
  ·subst e;rw[C' rfl,C' Qo]
  ·rw[B' e,ih]
   by_cases h:i<(k:Int)
   ·rw[C' h,C' Qo]
   ·rw[B' h,B' Qo]
theorem zru(W:Q8):∀k:Nat,(PN W k).IC=W.IC/\(PN W k).now=W.now/\(PN W k).ID=W.ID/\(PN W k).tasks.length=W.tasks.length
 | 0=>⟨rfl,rfl,rfl,rfl⟩
 | k+1=>by
  obtain⟨a,b,c,d⟩:=zru W k;exact⟨a,b,c,by show (List.set _ _ _).length=_; rw[E']; exact d⟩
theorem zrv{K:Int}{W:Q8}(h:SW K W):∀k:Nat,k<=12->SW K (PN W k)
 | 0,_=>h
 | k+1,hk=>by
  have ih:=zrv h k Qo;have hv:=ih.tv (k:Int) Qo Qo;exact ih.IM Qo Qo (x:=zhe (Q6 (PN W k) (k:Int))) (λhs=>ih.t (k:Int) Qo Qo hs) hv.1 hv.2
theorem zv9{b:Vv}(h:Pg b):Pg (JP b)/\(JP b).locals.length=b.locals.length:=by
 have hd:=h.dl;refine⟨⟨h.q1,h.q2,by simp only[JP,List.length_replicate]; have:=h.l1; omega,by simp only[JP,List.length_replicate]; have:=h.l2; omega,by simp[JP],by simp only[JP]; have:=h.q1; omega,I2 _,by simp[JP],by simp only[JP]; have:=h.q1; omega,λc c0 c1=>?_,?_⟩,by simp[JP,hd]⟩
 ·simp only[JP,List.length_replicate] at c1 ⊢;rw[MV _ _ c0 c1,MV _ _ c0 c1];have:=h.q1;exact⟨I2 _,Qo,λh=>by cases h⟩
 ·simp only[JP,List.length_replicate];rw[AD _ _ (I7 _)]; omega
theorem zxd{W W':Q8}{n:Nat}{k:Int}{G:ZX}(hg:zpj W k G)(hu:G.used=true)(hn:W'.now=W.now+(n:Int))(hc:W'.ID.length=W.ID.length):zpj W' k (Jf W.now n G):=by
 obtain⟨_,_,_,u4,u5,u6,u7,u8,u9⟩:=Dg W.now n G;refine⟨by rw[u5]; exact hg.w1,by rw[u5]; exact hg.w2,by rw[u6]; exact hg.m,by rw[u6]; exact hg.m0,by rw[u7]; exact hg.s,by rw[u4,hc]; exact hg.len,λh=>by rw[u5,u6,u9]; exact hg.root h,λhq=>?_,λhq=>?_⟩
 ·rw[u9] at hq
  have:Jf W.now n G=G:=by
   unfold Jf;rw[B'];rintro⟨h1,_⟩;simp only[A',It,ne_eq] at h1;exact h1.2 hq
  rw[this];exact hg.none hq
 ·rw[u9] at hq;obtain⟨b1,b2,b3,b4,b5,b6⟩:=hg.IS hq;rw[hn,hc];unfold Jf;split
  ·obtain⟨f1,f2⟩:=zv9 b1;have hj:=F5 b3 b5 n;refine⟨f1,by show (JP G.IS).locals.length=_; rw[f2]; exact b2,b3,b4,hj.gt,?_⟩;obtain⟨h1,j,h2,h3⟩:=hj;show Hx G.next G.period W.now n-(W.now+(n:Int))<=G.period;rcases h3 with rfl | h3
   ·simp at h2; omega
   ·omega
  ·rename_i hcnd;have IT:W.now+(n:Int)<G.next:=Int.not_le.1 λhle=>hcnd ⟨by rw[hu]; simpa using hq,hle⟩
   exact⟨b1,b2,b3,b4,IT,Qo⟩
theorem Ff(W:Q8)(n:Nat):∀k:Nat,k<=W.IC.length->Z7 W.IC (O4 W n k).IC
 | 0,_=>Z7.refl _
 | k+1,hk=>by
  have ih:=Ff W n k Qo;have hl:=(OZ W n k).1;have e:=Lm W n k Qo (k:Int) Qo;rw[B' Qo] at e;obtain⟨u1,u2,u3,_⟩:=Dg W.now n (gi W.IC (k:Int));exact ih.trans (Uj (W:=O4 W n k) (g:=(k:Int)) (x:=Jf W.now n (gi W.IC (k:Int))) Qo Qo (by rw[u1,e]) (by rw[u2,e]) (by rw[u3,e]))
theorem zxe{K:Int}{W:Q8}{n:Nat}(h:SW K W)(h1:W.now+(n:Int)<=100000000000000000):SW K (ZW W n):=by
 have hl:=h.a.gl;have hT:=Ff W n 8 Qo;obtain⟨l1,l2,l3,l4⟩:=OZ W n 8
 have e:∀i:Int,0<=i->i<8->gi (ZW W n).IC i=Jf W.now n (gi W.IC i):=λi a b=>by
  have:=Lm W n 8 Qo i a
  rwa[C' (show i<((8:Nat):Int) by omega)] at this
 have n1:=h.a.n1;have et:∀t:Int,Q6 (ZW W n) t=Q6 W t:=λt=>by unfold Q6; rw[show (ZW W n).tasks=W.tasks from l4]
 have ec:(ZW W n).ID=W.ID:=l3;have hT:Z7 W.IC (ZW W n).IC:=hT;refine⟨⟨by rw[show (ZW W n).now=_ from l2]; omega,by rw[show (ZW W n).now=_ from l2]; exact h1,by rw[ec]; exact h.a.c1,by rw[ec]; exact h.a.c2,by rw[show (ZW W n).tasks=W.tasks from l4]; exact h.a.t,hT.tree h.a.tree,by rw[ec]; exact h.a.ups,λk a b=>?_⟩,λt a b hs=>?_,λt a b=>?_,λk c u a b=>?_,λc a b=>?_⟩
 ·have hg:=h.a.grp k a b;obtain⟨u1,u2,u3,u4,u5,u6,u7,u8,u9⟩:=Dg W.now n (gi W.IC k);unfold Kz;rw[e k a b];refine⟨λhu=>?_,λhu=>?_⟩
  ·rw[u1] at hu
   have:Jf W.now n (gi W.IC k)=gi W.IC k:=by
    unfold Jf;rw[B'];rintro⟨h1,_⟩;rw[hu] at h1;cases h1
   rw[this];exact hg.1 hu
  ·rw[u1] at hu;exact zxd (hg.2 hu) hu l2 (by rw[ec])
 ·rw[et] at hs ⊢;rw[hT.eB,ec];exact h.t t a b hs
 ·rw[et]; exact h.tv t a b
 ·rw[hT.eB] at u;rw[ec] at b;have hk:=Q4.1 u
  have:Qc (ZW W n) k c=Qc W k c:=by
   unfold Qc;rw[e k hk.1 Qo,(Dg W.now n (gi W.IC k)).2.2.2.1]
  rw[this];exact h.s k c u a b
 ·rw[ec] at b ⊢;exact h.cu c a b
theorem z2o{W:Q8}(ha:WA W):ZW W 0=W:=by
 have hl:=ha.gl;obtain⟨l1,l2,l3,l4⟩:=OZ W 0 8
 have hg:(ZW W 0).IC=W.IC:=zp8 l1 λk hk=>by
  have hk8:k<8:=by have:(ZW W 0).IC.length=W.IC.length:=l1; omega
  have:=Lm W 0 8 Qo (k:Int) Qo;rw[C' Qo] at this;refine this.trans (zqn λhq=>?_);have hgp:=ha.grp (k:Int) Qo Qo
  cases hu:(gi W.IC (k:Int)).used with
  | true=>exact((hgp.2 hu).IS hq).2.2.2.2.1
  | false=>
   have:=(hgp.1 hu).b;exact Ir (by unfold OY at this; simp only[A',Is] at this; exact this.1.1.1.1) hq
 have h2:(ZW W 0).now=W.now:=by rw[show (ZW W 0).now=_ from l2]; simp
 have h3:(ZW W 0).ID=W.ID:=l3;have h4:(ZW W 0).tasks=W.tasks:=l4;generalize ZW W 0=V at hg h2 h3 h4;cases V;cases W;simp only at hg h2 h3 h4;subst hg; subst h2; subst h3; subst h4;rfl
theorem zs2{W:Q8}{n:Int}(hW:QB W=true)(hb:Gl W n=0):X6 n 1 1000=true/\QK W=true/\SW Qq W/\W.now<=Qq/\SW Qq (ZW W n.toNat)/\SW Qq (PN (ZW W n.toNat) 12):=by
 have wp:=Qm.1 hW;unfold Gl at hb
 split at hb
 ·cases hb
 ·rename_i h1
  split at hb
  ·cases hb
  ·rename_i h3;have h1:X6 n 1 1000=true:=by simpa using h1
   have h3:QK W=true:=by simpa using h3
   have hr:=Qm.1 h3;have sw:=Mi wp hr;have hn:=hr.n;have hi:=Qx.1 h1;have hh:Qq=50000000000000000:=rfl;have s1:=zxe (n:=n.toNat) sw Qo;exact⟨h1,h3,sw,hn,s1,zrv s1 12 (I7 _)⟩
section
variable {W W':Q8}{m:MW}{w:Wo}{bar:Int}
theorem zy0{l u:Int}(h1:X6 l 0 8000000=true)(h2:X6 u 0 1000000=true):0<=Int.tdiv l 8/\Int.tdiv l 8<=l:=by
 have:=Qx.1 h1;rw[Int.tdiv_eq_ediv_of_nonneg this.1];omega
theorem A3{bs:List Nat}{l u:Int}:PX bs TI #[I l,I u] w (I (FX l u)):=
 Ao l u λwr hx=>⟨_,Qu,_,λ_=>Qu,λg=>(by
  unfold FX;rw[B'];rintro⟨h1,h2⟩;rw[h1,h2] at g
  cases g),λg=>by
  have h1:X6 l 0 8000000=true:=by cases h:X6 l 0 8000000 <;> simp_all
  have h2:X6 u 0 1000000=true:=by cases h:X6 u 0 1000000 <;> simp_all
  have hb:=zy0 h1 h2;have i1:=Qx.1 h1;have i2:=Qx.1 h2;refine⟨⟨Qd,Qo,Qo⟩,⟨Qo,Qo⟩,⟨Qo,Qo⟩,?_⟩;unfold FX;rw[C' ⟨h1,h2⟩]⟩
theorem zqy{W:Q8}{k:Int}(h0:0<=k)(h1:k<(W.IC.length:Int)):Rm W k (gi W.IC k)=W:=by
 unfold Rm;rw[Ls h0 h1]
theorem zak{n:Int}(h:XF [] w W m)(hl:UG W) :
  Cz OI #[.agg (Qb W m).toArray,I n] w λe w'=>∃v,e=.returned v/\QL (Yv W (Gl W n) (zkc W n)) w v w':=by
 refine k9 _ _ _ _ _ _ _ _ _ _ n (R:=λv w'=>QL (Yv W (Gl W n) (zkc W n)) w v w') ?_;intro x hx x1 RR wr R0 SR;refine I3 (Zi (h.ext R0) hl) ?_;rintro e wv (⟨hW,he,hy⟩ | ⟨hW,m',he,hM,hy⟩)
 ·exact⟨_,_,_,_,_,_,_,_,_,_,_,he,Qf hy SR,false,λg=>by simp at g,λ_ I' R3=>QL.bad hW ((R0.trans hy).fresh R3 λy hm=>.inl (X4 hx RR y hm)),λg=>by simp at g⟩
 have hK:=Wk.begin hx RR R0 SR hM hy;have vS:((if QK W=true then 0 else 10:Int)==1)=false:=by split <;> rfl
 refine⟨_,_,_,_,_,_,_,_,_,_,_,he,Qf hy SR,_,λ_=>Qu,λg I' R3=>?_,λg=>⟨λg3 O' R3=>?_,λg3=>?_⟩⟩
 ·rw[vS] at g;have g:X6 n 1 1000=false:=by simpa using g
  have hb:Gl W n=1:=by unfold Gl; rw[C' g]
  exact QL.no hW (by rw[hb]; decide) (hK.step R3) hb
 ·rw[vS] at g;have g:X6 n 1 1000=true:=by simpa using g
  have bQ:¬QK W=true:=λhr=>by rw[C' hr] at g3; simp at g3
  have hb:Gl W n=10:=by unfold Gl; rw[B' (by rw[g]; decide),C' (by simpa using bQ)]
  rw[B' bQ];exact QL.no hW (by rw[hb]; decide) (hK.step R3) hb
 rw[vS] at g;have g:X6 n 1 1000=true:=by simpa using g
 have bQ:QK W=true:=Iq λhr=>by rw[B' hr] at g3; simp at g3
 have hb:Gl W n=0:=by unfold Gl; rw[B' (by rw[g]; decide),B' (by rw[bQ]; decide)]
 obtain⟨_,_,sw,CP9,sp,sd⟩:=zs2 hW hb;have hn:=Qx.1 g;obtain⟨N,rfl⟩:=Int.eq_ofNat_of_zero_le (show 0<=n by omega);have hE:zkc W (N:Int)=Qh (PN (ZW W N) 12):=by unfold zkc; rw[Ig]
 rw[Ig] at sp sd;rw[hE];have dD:=sw.a.gl;have fZ:=sw.a.t;have hn1:=sw.a.n1;have hh:Qq=50000000000000000:=rfl;refine⟨⟨Qo,Qo⟩,?_⟩;refine XL W.IC.length 0 rfl (λk w2=>k<=8/\∃m2,Wk 8 [x,x1] w w2 (O4 W N k) m2/\m2={ m' with ms:=m2.ms }) (λw2 R3 _=>⟨Qd,m',(show Wk 8 [x,x1] w wv (O4 W N 0) m' from ⟨hK.s,⟨⟨hK.own.c,hK.own.t,hK.own.g,hK.own.len⟩,hK.nb⟩⟩).step R3,rfl⟩) λk w2 gI ⟨hk8,m2,gV,hd2⟩=>?_
 obtain⟨l1,l2,l3,l4⟩:=OZ W N k;have eG:=Lm W N k Qo (k:Int) Qo;rw[B' Qo] at eG;have SP:O4 W N (k+1)=Rm (O4 W N k) (k:Int) (Jf W.now N (gi W.IC (k:Int))):=rfl;have nO:k=8->ZW W N=O4 W N k:=λe=>by rw[e]; rfl
 have B15:(k:Int)<(W.IC.length:Int)->Rm (O4 W N k) (k:Int) (gi W.IC (k:Int))=O4 W N k:=λIT=>by
  have:=zqy (W:=O4 W N k) (k:=(k:Int)) Qo Qo
  rwa[eG] at this
 have emg:m2.gO=m'.gO:=by rw[hd2]
 have emc:m2.gC=m'.gC:=by rw[hd2]
 refine⟨λIT=>?_,λRC=>?_⟩
 ·have IT:=Ot IT;generalize O4 W N k=V at gV l1 l2 l3 l4 eG SP nO B15;have hr:=gV.rd;have Bt1:(k:Int)<(V.IC.length:Int):=Qo;have W8:Ix m'.gO W.IC.length (k:Int):=by have:=hr.g.ix (i:=(k:Int)) Qo Bt1; rwa[l1,emg] at this
  have hcs:=hr.g.cells (k:Int) Qo Bt1;rw[eG,emg] at hcs;refine⟨W8,_,_,_,_,_,_,_,_,_,_,_,_,_,_,_,_,_,_,_,_,hcs,λb2 bR=>⟨λg4=>⟨⟨Qo,Qo⟩,λw3 R3 _=>Qp Qo ⟨Qo,m2,?_,hd2⟩⟩,λg4 RE Sb hZ=>?_⟩⟩
  ·have:Jf W.now N (gi W.IC (k:Int))=gi W.IC (k:Int):=by
    unfold Jf;rw[B'];rintro⟨a,b⟩;simp only[Iu,IB,Is,Ij] at g4;simp only[A',It,ne_eq] at a;rcases g4 with (h1 | h1) | h1
    ·rw[a.1] at h1; cases h1
    ·exact a.2 h1
    ·omega
   rw[SP,this,B15 IT];exact gV.step R3
  ·simp only[H',I6,beq_eq_false_iff_ne,ne_eq,decide_eq_false_iff_not] at g4;obtain⟨⟨hu,hq⟩,DF8⟩:=g4;have kF:=(sw.a.grp (k:Int) Qo Qo).2 hu;obtain⟨fR,hbl,hp1,gW,hnx,hnp⟩:=kF.IS hq
   have hP:Jf W.now N (gi W.IC (k:Int))={ gi W.IC (k:Int) with next:=Hx (gi W.IC (k:Int)).next (gi W.IC (k:Int)).period W.now N,IS:=JP (gi W.IC (k:Int)).IS }:=by
    unfold Jf;rw[C' ⟨by rw[hu]; simpa using hq,Qo⟩]
   have hJ:=F5 hp1 hnx N;have rY:=(gV.add bR).step (Sb.mono λy hy=>Ia _ hy);have hr5:=rY.o.rd0;have hLo:=hr5.g.locals (k:Int) Qo Bt1;have hDo:=hr5.g.Rz (k:Int) Qo Bt1;rw[eG] at hLo hDo;refine I3 (VA (op:=⟨4,0,0⟩) fR hLo hDo) ?_;rintro e Rr ⟨pb,he,hO,Sm⟩;have Cl5:ZU (gi W.IC (k:Int)).IS ⟨4,0,0⟩=(JP (gi W.IC (k:Int)).IS,0):=by unfold ZU; rw[C' rfl]
   rw[Cl5] at he hO
   dsimp only at he hO
   refine⟨_,_,_,_,_,_,_,_,_,_,he,Qf Sm hZ,λb3 wC=>?_⟩;have fN:=(rY.M' Sm).add wC
   have hOb:∀y∈YC pb,y∉QR 8 m2/\y∉[x,x1]++[b2]++[b3]:=λy hy=>by
    have:=hO.lt y hy;refine⟨λhm=>by have:=(rY.own.lt y hm).2; omega,λhm=>?_⟩;rcases Im.1 hm with h1 | h1
    ·have:=hZ y h1; omega
    ·have:y=b3:=by simpa using h1
     omega
   have hO4:Zu w.heap.size Rr (JP (gi W.IC (k:Int)).IS) pb:=hO.mono rY.base;refine⟨λvs w'=>∃v:Int,vs=YE { gi W.IC (k:Int) with next:=v,IS:=JP (gi W.IC (k:Int)).IS } (KR (m2.ms k) pb)/\(∃j:Nat,v=(gi W.IC (k:Int)).next+(gi W.IC (k:Int)).period*(j:Int)/\(j=0\/v-(gi W.IC (k:Int)).period<=W.now+(N:Int)))/\0<=v/\Wk 8 ([x,x1]++[b2]++[b3]) w w' V m2/\Zu w.heap.size w' (JP (gi W.IC (k:Int)).IS) pb,λvs _=>(W.now+(N:Int)+1-ZP 6 vs).toNat,λSn dK hs7=>⟨(gi W.IC (k:Int)).next,by simp[YE,KR],⟨0,Qs,.inl rfl⟩,Qo,fN.step (dK.mono λy hy=>Ia _ hy),hO4.ext dK λy hy hm=>(hOb y hy).2 (Ia _ hm)⟩,?_⟩;rintro l0 a1 a2 a3 a4 a5 a6 a7 a8 a9 a10 C75 C74 C73 C78 C77 C76 C81 C80 C79 aE fT ⟨v,hv,hj,hv0,fG,hO5⟩;simp only[YE,ZF,List.cons_append,List.nil_append,I4,Value.bool.injEq,I5,Value.string.injEq,Iv,true_and,and_true] at hv;obtain⟨rfl,rfl,rfl,rfl,rfl,rfl,rfl,rfl,rfl,rfl,rfl,⟨rfl,rfl,rfl⟩,⟨rfl,rfl,rfl⟩,rfl,rfl,rfl⟩:=hv;refine⟨λhle=>?_,λhgt=>?_⟩
   ·have hle:=Ot hle;refine⟨⟨Qo,Qo⟩,λSL nQ hs8=>⟨⟨a6+(gi W.IC (k:Int)).period,rfl,?_,Qo,fG.step nQ,hO5.ext nQ λy hy=>(hOb y hy).2⟩,?_⟩⟩
    ·obtain⟨j,h1,_⟩:=hj;exact⟨j+1,by rw[h1]; push_cast; rw[Int.mul_add,Int.mul_one,Int.add_assoc],.inr Qo⟩
    ·show (_-(a6+(gi W.IC (k:Int)).period)).toNat<(_-a6).toNat;omega
   ·have hgt:=Ou hgt;have hv6:a6=Hx (gi W.IC (k:Int)).next (gi W.IC (k:Int)).period W.now N:=zzp hp1 ⟨Qo,hj⟩ hJ;have vV:=zs7 fG.own fG.nb (i:=(k:Int)) Qo Qo (j:=0) (k:=14) Qd;rw[emg] at vV;refine⟨W8,vV,⟨Qo,Qo⟩,λWw kS hs9=>Qp Qo ⟨Qo,GJ m2 k (KR (m2.ms k) pb),?_,by rw[hd2]; rfl⟩⟩;rw[SP];have vR:=fG.gr (g:=(k:Int)) Qo Qo (G:=Jf W.now N (gi W.IC (k:Int))) (p:=pb) (j:=0) (vs:=YE (Jf W.now N (gi W.IC (k:Int))) (KR (m2.ms k) pb)) (by rw[hP]; exact hO5) hOb (by rw[eG]; exact(Dg _ _ _).2.2.2.1) (by simp[YE]) (by simp[YE]);refine(vR.step (w':=Ww) ?_).sub λy hy=>Ia _ (Ia _ hy)
    rw[hP,<-hv6,emg];exact kS
 ·have RC:=Ou RC;rw[<-nO Qo] at gV l1 l2 l3 l4;have emt:m2.tO=m'.tO:=by rw[hd2]
  refine XL W.tasks.length 0 rfl (λt w2=>t<=12/\Wk 8 [x,x1] w w2 (PN (ZW W N) t) m2) (λw2 R3 _=>⟨Qd,gV.step R3⟩) λt w2 fT ⟨CB3,rY⟩=>?_
  obtain⟨q1,q2,q3,q4⟩:=zru (ZW W N) t;have AM2:PN (ZW W N) (t+1)=IM (PN (ZW W N) t) (t:Int) (zhe (Q6 (PN (ZW W N) t) (t:Int))):=rfl;have AS3:t=12->PN (ZW W N) 12=PN (ZW W N) t:=λe=>by rw[e]
  generalize hU:PN (ZW W N) t=U at rY q1 q2 q3 q4 AM2 AS3;have hr:=rY.rd;refine⟨λIT=>?_,λbP So wS AN9=>?_⟩
  ·have IT:=Ot IT;have t1:(t:Int)<(U.tasks.length:Int):=by rw[q4,l4]; exact IT
   have W8:Ix m'.tO W.tasks.length (t:Int):=by have:=hr.t.ix QG (i:=(t:Int)) Qo t1; rwa[q4,l4,emt] at this
   have hcs:=hr.t (t:Int) Qo t1;rw[emt] at hcs;have vV:=zkh rY.own rY.nb (i:=(t:Int)) Qo t1 (j:=0) (k:=9) Qd;rw[emt] at vV;refine⟨W8,_,_,_,_,_,_,_,_,_,hcs,λb4 hb4=>⟨_,U5,_,A3,_,U5,W8,vV,⟨Qo,Qo⟩,λSh AT0 AD6=>Qp Qo ⟨Qo,?_⟩⟩⟩;rw[AM2];have Sk:=rY.own.pN (i:=(t:Int)) Qo t1 (j:=0) (vs:=Xq (zhe (Q6 U (t:Int)))) (x:=zhe (Q6 U (t:Int))) (by simp[Xq]) (by simp[Xq]);have fN:=rY.R5 Sk Kd;rw[emt] at fN;exact fN.step AT0
  ·have bP:=Ou bP;rw[AS3 Qo] at sd ⊢;have fN:=rY.step wS;have Rt:=Qy fN.own sd Qd Qd fN.base
   have e5:Qb U m2=[I (W.now+(N:Int)),.slice m'.cO W.ID.length m'.cC,.slice m'.tO W.tasks.length m'.tC,.slice m'.gO W.IC.length m'.gC]:=by
    unfold Qb;rw[q2,q3,q4,q1,l1,l2,l3,l4,hd2]
   rw[e5] at Rt;refine I3 Rt ?_;rintro e2 Rr ⟨m3,aM,Sm⟩;exact⟨_,_,_,_,_,_,_,_,_,_,aM,fN.kept Sm AN9,λSX Bh8=>QL.ok hW hb ((fN.Sl Sm AN9).step Bh8)⟩
structure Mn (base pb:Nat) (w0:Wo) (m0:MW) (w:Wo) (W:Q8) (m:MW):Prop where
 own:Zj 8 base w W m
 pt:w.heap[pb]? = some (.cells (Qb W m).toArray Q5 (0,0))
 pn:pb∉QR 8 m
 ext:Q0 (pb::QR 8 m0) w0 w
 sub:∀x∈QR 8 m,x∈QR 8 m0\/w0.heap.size<=x
section
variable {base pb:Nat}{w0 w':Wo}{m0 m':MW}
theorem Mn.start(h:PW base pb w W m):Mn base pb w m w W m:=⟨h.own,h.pt,h.pn,Q0.refl _ _,λ_ hx=>.inl hx⟩
end
end
theorem O6.same{W W':Q8}(p:O6 W)(ha:WA W')(ht:W'.tasks=W.tasks)(hc:W'.ID=W.ID)(hT:Z7 W.IC W'.IC)(hs:∀k c:Int,Qc W' k c=Qc W k c):O6 W':=by
 have est:∀k c:Int,Tg W' k c↔Tg W k c:=λk c=>by
  unfold Tg;rw[hT.p,hs,hs]
 refine⟨⟨ha,λt t0 t1=>?_,λt t0 t1 n=>by rw[Ju ht] at n ⊢; rw[hc]; exact p.l t t0 t1 n,λk c hk c0 c1=>?_⟩,λc c0 c1=>?_⟩
 ·rw[Ju ht];rcases p.t t t0 t1 with h | ⟨h1,h2⟩
  ·exact .inl h
  ·exact .inr ⟨h1,h2.st,by rw[hT.eB]; exact h2.g,h2.n,h2.m,h2.m0,h2.s,h2.u,h2.l1,h2.l2,λh=>by rw[hs]; exact h2.f h⟩
 ·rw[hT.eB] at hk;rw[hc] at c1;exact(p.s k c hk c0 c1).Bd9 (hs _ _) λ_=>by rw[hT.p,hs]
 ·rw[hc] at c1;have h:=p.c c c0 c1;refine⟨by rw[hc]; exact h.b,by rw[hc]; exact h.i,by rw[hc]; exact h.c1,by rw[hc]; exact h.c2,by rw[hc]; exact h.no,by rw[hc]; exact h.yes,λh0 h1 h2=>?_⟩;rw[hc,Ju ht] at *;obtain⟨q1,q2⟩:=h.q h0 h1 h2;refine⟨by rw[hs]; exact q1,λy hy=>?_⟩;rw[O5 hT] at hy;rw[est,hT.p,hs,hs];exact q2 y hy
theorem z0r{W W':Q8}(hT:Z7 W.IC W'.IC)(hm:∀i:Int,(gi W'.IC i).ID=(gi W.IC i).ID)(hu:Ue W'.ID=Ue W.ID)(g m:Int):Qn W' g m=Qn W g m:=by
 unfold Qn
 have hp:Ts W'.IC g (Ue W.ID)=Ts W.IC g (Ue W.ID):=by
  unfold Ts;rw[show Zd W'.IC g=Zd W.IC g from hT.path 3 g]
  congr 1
  funext s x
  rw[hm]
 rw[hu,hp]
theorem zb8.same{W W':Q8}(h:zb8 W)(ht:W'.tasks=W.tasks)(hT:Z7 W.IC W'.IC)(hm:∀i:Int,(gi W'.IC i).ID=(gi W.IC i).ID)(hu:Ue W'.ID=Ue W.ID):zb8 W':=λt t0 t1 n=>by
 rw[Ju ht] at n ⊢;rw[z0r hT hm hu];exact h t t0 t1 n
theorem zq1{W:Q8}{g:Int}{x:ZX}(s:x.IE=(gi W.IC g).IE)(k c:Int):Qc (Rm W g x) k c=Qc W k c:=by
 unfold Qc;rw[show (gi (Rm W g x).IC k).IE=(gi W.IC k).IE from Xc (f:=ZX.IE) _ _ s k]
theorem zzk{W:Q8}{g q p:Int}(hW:QB W=true)(hb:zn6 W g q p=0):Jw (zzy W g q p):=by
 have wp:=Qm.1 hW;obtain⟨hu,hz,_,_,sw,sw2⟩:=zwt hW hb;obtain⟨u0,u1,_⟩:=Q4.1 hu;have h:=zl0 (W:=W) (g:=g) (q:=q) (p:=p);have hT:=Uj (W:=W) (x:=KP W g q p) u0 u1 h.1 h.2.1 h.2.2.1;exact ZC sw2 Qd Qd ((XN wp).same sw2.a rfl rfl hT (zq1 h.2.2.2.1)) ((Vr wp).same rfl hT (λi=>Xc (f:=ZX.ID) _ _ h.2.2.2.2.2.1 i) rfl)
theorem zwn{W:Q8}{n:Int}(hW:QB W=true)(hb:Gl W n=0):Jw (zkc W n):=by
 have wp:=Qm.1 hW;obtain⟨_,_,sw,_,sp,sd⟩:=zs2 hW hb;have dD:=wp.a.gl;obtain⟨l1,l2,l3,l4⟩:=OZ W n.toNat 8;have hT:Z7 W.IC (ZW W n.toNat).IC:=Ff W n.toNat 8 Qo
 have key:∀i:Int,(gi (ZW W n.toNat).IC i).IE=(gi W.IC i).IE/\(gi (ZW W n.toNat).IC i).ID=(gi W.IC i).ID:=λi=>by
  have hu:=Dg W.now n.toNat (gi W.IC ((i.toNat:Nat):Int));have e:=Lm W n.toNat 8 Qo ((i.toNat:Nat):Int) Qo;rw[zdx (ZW W n.toNat).IC i,zdx W.IC i];unfold ZW;rw[e];split
  ·exact⟨hu.2.2.2.1,hu.2.2.2.2.2.1⟩
  ·exact⟨rfl,rfl⟩
 have p1:O6 (ZW W n.toNat):=(XN wp).same sp.a l4 l3 hT λk c=>by unfold Qc; rw[(key k).1]
 have q1:zb8 (ZW W n.toNat):=(Vr wp).same l4 hT (λi=>(key i).2) (by rw[show (ZW W n.toNat).ID=W.ID from l3])
 have all:∀k:Nat,k<=12->O6 (PN (ZW W n.toNat) k)/\zb8 (PN (ZW W n.toNat) k):=by
  intro k
  induction k with
  | zero=>exact λ_=>⟨p1,q1⟩
  | succ k ih=>
   intro hk;obtain⟨a,b⟩:=ih Qo;show O6 (IM (PN (ZW W n.toNat) k) (k:Int) (zhe (Q6 (PN (ZW W n.toNat) k) (k:Int))))/\zb8 (IM (PN (ZW W n.toNat) k) (k:Int) (zhe (Q6 (PN (ZW W n.toNat) k) (k:Int))));generalize PN (ZW W n.toNat) k=V at a b
   by_cases hs:(Q6 V (k:Int)).state=0
   ·have hz:Q6 V (k:Int)=Ow:=by
     rcases a.t (k:Int) Qo Qo with h | h
     ·exact h.2
     ·exact Ir hs h.1
    rw[hz];have hd:zhe Ow=Ow:=Qd;rw[hd];exact⟨a.IM Qo Qo (.inl ⟨rfl,rfl⟩) λc _ _ _ h _=>(by cases h),b.IM a.a Qo Qo λh=>Ir rfl h⟩
   ·have h:=Pc a (t:=(k:Int)) Qo Qo hs;have hlo:=a.l (k:Int) Qo Qo hs
    have hld:0<=(zhe (Q6 V (k:Int))).load/\(zhe (Q6 V (k:Int))).load<=8000000:=by
     have h1:=h.l1;have h2:=h.l2;have h3:=YV.1 h.u
     have ht:0<=Int.tdiv (Q6 V (k:Int)).load 8/\Int.tdiv (Q6 V (k:Int)).load 8<=(Q6 V (k:Int)).load:=by
      rw[Int.tdiv_eq_ediv_of_nonneg h1];omega
     show 0<=ZH (FX (Q6 V (k:Int)).load (ZH (Q6 V (k:Int)).used 1000000)) 8000000/\ZH (FX (Q6 V (k:Int)).load (ZH (Q6 V (k:Int)).used 1000000)) 8000000<=8000000;have hm:0<=ZH (Q6 V (k:Int)).used 1000000:=by unfold ZH; split <;> omega
     have hbt:0<=FX (Q6 V (k:Int)).load (ZH (Q6 V (k:Int)).used 1000000):=by unfold FX; split <;> omega
     generalize FX (Q6 V (k:Int)).load (ZH (Q6 V (k:Int)).used 1000000)=y at hbt;unfold ZH
     split <;> omega
    refine⟨a.IM Qo Qo (.inr ⟨hs,⟨h.st,h.g,h.n,h.m,h.m0,h.s,by show ZO 0=true; decide,hld.1,hld.2,h.f⟩,hlo⟩) λc c0 c1 sA h1 h2=>?_,b.IM a.a Qo Qo λ_=>b (k:Int) Qo Qo hs⟩;have hc:=(a.c c c0 c1).q (by rw[sA]; omega);rw[sA] at hc;exact hc h1 h2
 obtain⟨p2,q2⟩:=all 12 (I7 _);exact ZC sd Qd Qd p2 q2
theorem zfo{W:Q8}(p:O6 W){t g c:Int}(t0:0<=t)(t1:t<12)(n:(Q6 W t).state≠0)(hg:Q7 W.IC g=true)(c0:0<=c)(c1:c<(W.ID.length:Int)):O6 (Uq W t g c):=by
 have h:=Pc p t0 t1 n
 have hT:Fu W (Te W t g c):=⟨h.st,hg,h.n,h.m,h.m0,h.s,h.u,h.l1,h.l2,λ_=>by
  have:=ZY ((Q6 W t).v-(Qc W (Q6 W t).group (Q6 W t).J').floor) (Qe (Q6 W t).nice);show (Qc W g c).floor<=(Qc W g c).floor+DP W t/\(Qc W g c).floor+DP W t-(Qc W g c).floor<=Zw (Qe (Q6 W t).nice);unfold DP;exact⟨Qo,Qo⟩⟩
 unfold Uq;split
 ·exact zbx p t0 t1 n hT rfl c0 c1
 ·rename_i hs;exact p.IM t0 t1 (.inr ⟨n,hT,c0,c1⟩) λd _ _ _ h _=>Ir h hs
end Go.Proofs.YtnclplgaicdapaaGreatDoor
