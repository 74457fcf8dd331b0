/- Part 13 of what the law FnPlug needs. -/
import Derived.Test.YtnclplgaicdapaaGreatDoorFnPlugPl
import Derived.Shelf.Abstract
set_option linter.unusedVariables false
set_option linter.unusedSimpArgs false
set_option maxRecDepth 100000
set_option maxHeartbeats 8000000
namespace Go.Proofs.YtnclplgaicdapaaGreatDoor
open Go.RowKit
theorem Nl{P:Program}{fn:Func}{R:Ending->Wo->Prop}{a:Act}{w:Wo}{D:Nat}(hd:a.defers=[BG D])(hD:w.heap[D]? = some (.deferred (some [])))(h:∀w',Q0 [D] w w'->∃v,(results fn a.tmps).run P w'=.ok v w'/\R (.returned v) w') :
  bodyPostM (Vf none) 0 P fn R .normal a w/\bodyPostM (Vf none) 0 P fn R .ret a w:=by
 have:LeavesInM (Vf none) 0 P fn a.tmps R a.defers .returning w:=by
  rw[hd];obtain⟨v,hr,hR⟩:=h _ (Y8 _ _ _);exact⟨Qs,.inl ⟨_,_,rfl,run_takeDeferred hD,⟨v,hr,hR⟩⟩⟩
 exact⟨this,this⟩
theorem zyh:Uf zoe Qb=some ⟨false,[.int .i64],.int .i64⟩:=Qk
theorem zf2{fn:Func}{p:Tmp}(h:fn.results=#[.cell p Qb]){tmps:Array Va}{b:Nat}{n:Int}{w:Wo}{t:TypeId}(hp:tmps.getD p undef=.pointer (some ⟨b,0,none⟩))(hb:w.heap[b]? = some (.cells ([I n]:List Va).toArray t (0,0))) :
  (results fn tmps).run Tryz.prog w=.ok (I n) w:=by
 have hl:=Vz z2j zyh (vs:=[I n]) (v:=I n) rfl rfl (a:=⟨b,0,none⟩) (w:=w) (fun j x hx=>by rw[Addr.add_lit,UP hb]; simpa using hx);have hp':tmps[p]?.getD undef=.pointer (some ⟨b,0,none⟩):=by simpa using hp
 simp[results,h,hp',asAddr,hl]
theorem zgq(m:Int):(LJ m 4=[]/\Tv m = -1)\/(0<(LJ m 4).length/\Tv m=gi (LJ m 4) ((0:Nat):Int)):=by
 have e:LJ m 4=([0,1,2,3]:List Nat).filterMap fun (i:Nat)=>if QX m (i:Int)=true then some (i:Int) else none:=by
  unfold LJ;rw[show List.range 4=[0,1,2,3] from rfl]
  cases h0:QX m ((0:Nat):Int) <;> cases h1:QX m ((1:Nat):Int) <;> cases h2:QX m ((2:Nat):Int) <;> cases h3:QX m ((3:Nat):Int) <;> simp[List.filter,h0,h1,h2,h3] <;> simp_all
 rw[e];unfold Tv;have i1:((1:Nat):Int)=1:=rfl;have i2:((2:Nat):Int)=2:=rfl;have i3:((3:Nat):Int)=3:=rfl
 cases h0:QX m 0 <;> cases h1:QX m 1 <;> cases h2:QX m 2 <;> cases h3:QX m 3 <;> simp[h0,h1,h2,h3,gi,i1,i2,i3]
theorem zkm:JG Tryz.f119=zn5 YP (.seq (.seq XN (.block 0 (.rangeFunc (.tmp 5) #[6] XM Xt))) Xu):=Qk
theorem Bq{m:Int}{w:Wo}:Cz My #[.int .i64 m] w fun e w'=>e=.returned (.int .i64 (Tv m))/\Q0 [] w w':=by
 refine Ev (args:=[.int .i64 m]) (n:=8) Tryz.func119 (body:=JG Tryz.f119) rfl Qk Qs fun a hn ha hd=>?_
 rw[zkm];have a0:=ha 0 _ rfl;refine Ga none (R:=fun e vs w1=>e=.normal/\∃b:Nat,vs=[.pointer (some ⟨b,0,none⟩)]/\w.heap.size<=b/\w1.heap[b]? = some (.cells ([.int .i64 0]:List Va).toArray Qb (0,0))/\Q0 [] w w1) hn ?_ ?_ ?_ (fun e vs a1 w1 dE hR _=>Ir hR.1 dE)
 ·intro p hp;cases hp
 ·intro b wb hx hb0 Wr _ wr R0;exact⟨rfl,b,rfl,hb0,QM Wr R0 Qs,hx.trans R0⟩
 rintro vs a2 w1 ⟨_,b,rfl,hwb,hB,hX⟩ fo
 have o2:a2.tmps.getD 2 undef=.pointer (some ⟨b,0,none⟩):=by
  have:=fo.out
  simpa using this
 have o0:a2.tmps.getD 0 undef=.int .i64 m:=(fo.kept 0 (by decide +kernel)).trans a0;refine wpIn_seq (wpIn_seq (G9 none m (R:=fun e vs w2=>e=.normal/\∃bm:Nat,vs=[.func (.func QH) #[] #[.pointer (some ⟨bm,0,none⟩)]]/\Q1 [] w2 (some ⟨bm,0,none⟩) 0 [.int .i64 m]/\w1.heap.size<=bm/\Q0 [] w1 w2) (by rw[fo.size,hn]) (fun p hp=>?_) (fun wr hx _=>?_) fun e vs a3 w2 hR fo3=>?_))
 ·simp only[Ii,List.not_mem_nil,or_false] at hp;subst hp;exact⟨Ik rfl,o0⟩
 ·refine(zgk (m:=m)).mono fun e w2 ⟨bm,hbm,he,hcm,R4⟩=>⟨_,_,_,he,Yf,fun I' SD=>⟨rfl,bm,rfl,hcm.ext SD,by have:=hx.size; omega,(hx.trans R4).trans SD⟩⟩
 obtain⟨rfl,bm,rfl,hcm,hbm,R0⟩:=hR
 have p5:a3.tmps.getD 5 undef=.func (.func QH) #[] #[.pointer (some ⟨bm,0,none⟩)]:=by
  have:=fo3.out
  simpa using this
 have p2:=(fo3.kept 2 (by decide +kernel)).trans o2;have A80:a3.tmps.size=8:=by rw[fo3.size,fo.size,hn]
 have hd3:a3.defers=[]:=by rw[fo3.defers,fo.defers,hd]
 have hX2:=hX.trans R0;have hB2:=QM hB R0 Qs;have hbL:=JF hB;have Ce7:=JF hB2;have Cf4:=zox hcm
 have fin:∀{D:Nat} {W:Wo} {n:Int} {tm:Array Va},tm.getD 2 undef=.pointer (some ⟨b,0,none⟩)->W.heap[b]? = some (.cells ([.int .i64 n]:List Va).toArray Qb (0,0))->w2.heap.size<=D->Q0 [] w W->n=Tv m->∀w',Q0 [D] W w'->∃v,(results Tryz.f119 tm).run Tryz.prog w'=.ok v w'/\(Ending.returned v=.returned (.int .i64 (Tv m))/\Q0 [] w w'):=fun {D W n tm} h2 hW hD hXW hn w' hx=>by
  subst hn;refine⟨_,zf2 Qk h2 (QM hW hx fun hm=>?_),rfl,hXW.fresh hx fun x hm=>.inl ?_⟩
  ·have:b=D:=by simpa using hm
   omega
  ·have:x=D:=by simpa using hm
   have:=hX2.size;omega
 refine wpIn_block (zvb (gf:=QH) (lb:=#[.pointer (some ⟨bm,0,none⟩)]) p5 (enters_of Tryz.func233 Qk rfl)
  (fun k W1=>k=0/\W1.heap[b]? = some (.cells ([.int .i64 0]:List Va).toArray Qb (0,0))/\Q1 [] W1 (some ⟨bm,0,none⟩) 0 [.int .i64 m]/\Q0 [] w W1)
  (fun cd W1=>cd=.ret/\W1.heap[b]? = some (.cells ([.int .i64 (Tv m)]:List Va).toArray Qb (0,0))/\Q0 [] w W1) (LJ m 4).length (fun k=>[.int .i64 (gi (LJ m 4) (k:Int))])
  (fun k W1 W2 ys h hx hy=>⟨h.1,QM h.2.1 hx fun hm=>by have:=hy _ hm; omega,GY h.2.2.1 hx fun hm=>by have:=hy _ hm; omega,h.2.2.2.fresh hx fun x hm=>.inl (by have:=hy x hm; have:=hX2.size; omega)⟩)
  (fun cd W1 W2 ys h hx hy=>⟨h.1,QM h.2.1 hx fun hm=>by have:=hy _ hm; omega,h.2.2.fresh hx fun x hm=>.inl (by have:=hy x hm; have:=hX2.size; omega)⟩)
  ⟨rfl,hB2,hcm,hX2⟩ (fun k=>rfl) (za8 (m:=m) (bm:=bm) (w:=w2) (I:=fun k W1=>k=0/\W1.heap[b]? = some (.cells ([.int .i64 0]:List Va).toArray Qb (0,0))/\Q1 [] W1 (some ⟨bm,0,none⟩) 0 [.int .i64 m]/\Q0 [] w W1) (fun k W1 h=>h.2.2.1)) ?_ ?_ ?_)
 ·rintro l k W hk ⟨rfl,hb,hc,hXW⟩ hl
  have rA:Tv m=gi (LJ m 4) ((0:Nat):Int):=by
   rcases zgq m with h | h
   ·rw[h.1] at hk; simp at hk
   ·exact h.2
  rw[zko];refine G8 (some l) (gi (LJ m 4) ((0:Nat):Int)) (R:=fun e vs W1=>e=.normal/\vs=[.int .i64 (gi (LJ m 4) ((0:Nat):Int))]/\Q0 [] W W1) (by simpa using A80) (fun p hp=>?_) (fun wr hx=>⟨rfl,rfl,hx⟩) fun e vs a4 W1 hR fo4=>?_
  ·simp only[Ii,List.not_mem_nil,or_false] at hp;subst hp;exact⟨Ik rfl,zes (i:=6) (by rw[A80]; decide)⟩
  obtain⟨rfl,rfl,SD⟩:=hR
  have q3:a4.tmps.getD 3 undef=.int .i64 (gi (LJ m 4) ((0:Nat):Int)):=by
   have:=fo4.out
   simpa using this
  have q2:a4.tmps.getD 2 undef=.pointer (some ⟨b,0,none⟩):=((fo4.kept 2 (by decide +kernel)).trans (Gb (i:=6) (j:=2) Qd)).trans p2;refine⟨⟨[],SD,Qs⟩,fun W2 Sg=>?_⟩
  have hbn:b∉[l]:=fun hm=>by
   have:b=l:=by simpa using hm
   omega
  have hb5:=QM (QM hb SD Qs) Sg hbn
  have hX5:Q0 [] w W2:=(hXW.trans SD).fresh Sg fun x hm=>.inl (by
   have:x=l:=by simpa using hm
   have:=hX2.size;omega)
  refine Lq (some l) (some ⟨b,0,none⟩) (gi (LJ m 4) ((0:Nat):Int)) (R:=fun e _ W3=>e=.ret/\(∃X,Q0 X W2 W3/\∀x∈X,x<w2.heap.size)/\W3.heap[b]? = some (.cells ([.int .i64 (Tv m)]:List Va).toArray Qb (0,0))/\Q0 [] w W3) (by rw[fo4.size]; simpa using A80) (fun p hp=>?_) ⟨MH (k0:=0) hb5 Qs Qs,fun wr hx=>?_⟩ fun e vs a5 W3 hR _=>?_
  ·simp only[Ii,List.not_mem_nil,or_false] at hp;rcases hp with rfl | rfl
   ·exact⟨Ik rfl,q2⟩
   ·exact⟨Ik rfl,q3⟩
  ·have e1:Q0 [b] W2 (Rl W2 (some ⟨b,0,none⟩) 0 [.int .i64 (gi (LJ m 4) ((0:Nat):Int))]):=JV (bs:=[b]) Qs;have eX:Q0 [b] W2 wr:=e1.trans hx.of_nil;refine⟨rfl,⟨[b],eX,fun x hm=>?_⟩,?_,hX5.fresh eX fun x hm=>.inl ?_⟩
   ·have:x=b:=by simpa using hm
    omega
   ·rw[rA];exact QM (Ol (vs:=[.int .i64 (gi (LJ m 4) ((0:Nat):Int))]) (n:=0) hb5) hx Qs
   ·have:x=b:=by simpa using hm
    omega
  ·obtain⟨rfl,hX3,h3⟩:=hR;exact⟨hX3,rfl,h3⟩
 ·intro D W hD ⟨hN,hb,hc,hXW⟩ hdD
  have hm1:Tv m = -1:=by
   rcases zgq m with h | h
   ·exact h.2
   ·omega
  refine Lr none (some ⟨b,0,none⟩) (R:=fun e vs W1=>e=.ret/\W1.heap[b]? = some (.cells ([.int .i64 (-1)]:List Va).toArray Qb (0,0))/\(∃X,Q0 X W W1/\D∉X)/\Q0 [] w W1) A80 (fun p hp=>?_) ⟨MH (k0:=0) hb Qs Qs,fun wr hx=>?_⟩ fun e vs a6 W1 hR fo6=>?_
  ·simp only[Ii,List.not_mem_nil,or_false] at hp;subst hp;exact⟨Ik rfl,p2⟩
  ·have e1:Q0 [b] W (Rl W (some ⟨b,0,none⟩) 0 [.int .i64 (-1)]):=JV (bs:=[b]) Qs;have eX:Q0 [b] W wr:=e1.trans hx.of_nil;refine⟨rfl,QM (Ol (vs:=[.int .i64 (-1)]) (n:=0) hb) hx Qs,⟨[b],eX,fun hm=>?_⟩,hXW.fresh eX fun x hm=>.inl ?_⟩
   ·have:D=b:=by simpa using hm
    omega
   ·have:x=b:=by simpa using hm
    omega
  ·obtain⟨rfl,hb6,⟨X,aO,hDX⟩,hX6⟩:=hR;exact(Nl (D:=D) (by rw[fo6.defers]; simp[hd3]) ((aO.block D (Array.getElem?_eq_some_iff.1 hdD).1 hDX).trans hdD) (fin ((fo6.kept 2 (by decide +kernel)).trans p2) hb6 hD hX6 hm1.symm)).2
 ·intro D cd W hD ⟨hcd,hb,hXW⟩ hdD;subst hcd;exact wpIn_ret (Nl (a:={ a3 with defers:=BG D::a3.defers }) (D:=D) (by simp[hd3]) hdD (fin p2 hb hD hXW rfl)).2
theorem zxq{m:Int}{k:Nat}(h4:k<4)(iW:∀j:Nat,j<k->QX m (j:Int)=false)(h:QX m (k:Int)=true):Tv m=(k:Int):=by
 have h0:=iW 0;have h1:=iW 1;have h2:=iW 2;have:k=0\/k=1\/k=2\/k=3:=Qo;unfold Tv;rcases this with rfl | rfl | rfl | rfl
 ·rw[C' (show QX m 0=true from h)]; rfl
 ·rw[B' (by rw[show QX m 0=false from h0 Qd]; decide),C' (show QX m 1=true from h)]; rfl
 ·rw[B' (by rw[show QX m 0=false from h0 Qd]; decide),B' (by rw[show QX m 1=false from h1 Qd]; decide),C' (show QX m 2=true from h)]; rfl
 ·rw[B' (by rw[show QX m 0=false from h0 Qd]; decide),B' (by rw[show QX m 1=false from h1 Qd]; decide),B' (by rw[show QX m 2=false from h2 Qd]; decide),C' (show QX m 3=true from h)]; rfl
theorem zxr{m:Int}(iW:∀j:Nat,j<4->QX m (j:Int)=false):Tv m = -1:=by
 unfold Tv;rw[B' (by rw[show QX m 0=false from iW 0 Qd]; decide),B' (by rw[show QX m 1=false from iW 1 Qd]; decide),B' (by rw[show QX m 2=false from iW 2 Qd]; decide),B' (by rw[show QX m 3=false from iW 3 Qd]; decide)]
section
variable {base:Nat}{W W':Q8}{m:MW}{w:Wo}{bar:Int}
theorem Kf{x:Int}{bs:List Nat}:PX bs JO #[I x] w (I (Tv x)):=
 BR x fun wr hx=>by
  refine Xw 4 0 rfl (fun k=>k<=4/\∀j:Nat,j<k->QX x (j:Int)=false) ⟨Qd,fun j hj=>Ir hj (Nat.not_lt_zero j)⟩ fun k ⟨hk,iW⟩=>⟨fun IS=>?_,fun Ry=>?_⟩
  ·have IS:=Ot IS;refine⟨_,Y2,fun g=>?_,fun g=>⟨⟨Qo,Qo⟩,QB Qo ⟨Qo,fun j hj=>?_⟩⟩⟩
   ·rw[zxq Qo iW g]
   ·by_cases e:j=k
    ·rw[e]; exact g
    ·exact iW j Qo
  ·have Ry:=Ou Ry;have:k=4:=Qo;subst this;rw[zxr iW]
theorem Ms(W:Q8)(t:Int)(x:MM)(m:MW):Qa (IT W t x) m=Qa W m:=by simp[Qa,IT]
theorem UT{F K:Int}(h:Zf 8 base w W m)(dR:SF F K W)(hk:F+Qi<=K)(hK:K<=1000000000000000000){t g c:Int}(t0:0<=t)(t1:t<12)(hs:(Q7 W t).state≠0)(hg:Q6 W.IC g=true)(c0:0<=c)(c1:c<(W.ID.length:Int)) :
  Cz Xj #[.agg (Qa W m).toArray,I t,I g,I c] w fun e w'=>e=.returned (.agg (Qa W m).toArray)/\Mv 8 base [] w m w' (Jd W t g c) m:=by
 refine(zep _ _ _ _ _ _ _ _ _ _ t g c (R:=fun v w'=>v=.agg (Qa W m).toArray/\Mv 8 base [] w m w' (Jd W t g c) m) ?_).mono fun e w' ⟨v,he,hv,h3⟩=>⟨by rw[he,hv],h3⟩
 intro y hy y1 bE;obtain⟨g0,g1,_⟩:=Q4.1 hg;have iX:=dR.w.a.t;have bM:=dR.w.a.gl;have hsl:=dR.w.a.sl hg;have mG:t<(W.tasks.length:Int):=Qo;obtain⟨hu,d0,d1⟩:=dR.w.t t t0 t1 hs;obtain⟨q0,q1,_⟩:=Q4.1 hu;have hql:=dR.w.a.sl hu;have s1:=dR.w.s g c hg c0 c1;have s2:=dR.w.s _ _ hu d0 d1;have hv:=dR.w.tv t t0 t1;have hlr:=Dz W t;simp only[Qi] at hlr;have hM:=Mv.two h hy bE;have hr:=(Mv.start h).rd;have V':=hr.t.ix QG t0 mG;have SE:=h.AA0 t0 mG (j:=0) (vs:=Xv (VA W t g c)) (x:=VA W t g c) (by simp[Xv]) (by simp[Xv]);have e5:Qa (IT W t (VA W t g c)) m=Qa W m:=Ms _ _ _ _;have e6:Qa (Rn (IT W t (VA W t g c)) c) m=Qa W m:=(Ui (zaz _ _)).trans e5;refine⟨HA W t,HV hr t0 mG q0 q1 d0 Qo ⟨by show _<=(Q7 W t).v-(Qc W (Q7 W t).group (Q7 W t).IZ).floor; omega,by show (Q7 W t).v-(Qc W (Q7 W t).group (Q7 W t).IZ).floor<=_; omega⟩,V',_,_,_,_,_,_,_,_,_,hr.t t t0 mG,fun b2 bT=>⟨hr.g.ix g0 g1,_,_,_,hr.g.RC g0 g1,(hr.g.IE g g0 g1).ix YW c0 Qo,(Qc W g c).floor,zmh.f (hr.g.IE g g0 g1) c0 Qo (j:=0) rfl,⟨Qo,Qo⟩,V',zqn h Qs t0 mG (j:=0) Qd,fun g4 wr hx cJ=>?_,fun g4 wr hx=>⟨rfl,?_⟩⟩⟩
 ·have g4:(Q7 W t).state=1:=Iy g4;have Wq:=((hM.add bT).Sj SE GJ).step (hx.of_nil);have Rg:=Zw Wq.own (W:=IT W t (VA W t g c)) c0 c1;rw[e5,e6] at Rg;refine I3 Rg ?_;rintro e wv ⟨fJ,Sn⟩;refine⟨_,_,_,_,_,_,_,_,_,_,fJ,Wq.kept Sn cJ,fun J' SD=>⟨rfl,?_⟩⟩;unfold Jd;rw[C' g4];exact((Wq.call Sn cJ).step SD).close
 ·have g4:¬(Q7 W t).state=1:=ne_of_beq_false g4;unfold Jd;rw[B' g4];exact((Mv.start h).Sj SE GJ).M' hx
theorem Js{F K:Int}(h:Zf 8 base w W m)(dR:SF F K W)(hk:F+Qi<=K)(hK:K<=1000000000000000000) :
  Cz Yl #[.agg (Qa W m).toArray] w fun e w'=>e=.returned (.agg (Qa W m).toArray)/\Mv 8 base [] w m w' (P9 W) m:=by
 refine(Dk _ _ _ _ _ _ _ _ _ _ (R:=fun v w'=>v=.agg (Qa W m).toArray/\Mv 8 base [] w m w' (P9 W) m) ?_).mono fun e w' ⟨v,he,hv,h3⟩=>⟨by rw[he,hv],h3⟩
 intro y hy y1 bE;have iX:=dR.w.a.t;refine⟨fun vs w1=>∃(k:Nat),vs=I (k:Int)::Qa W m/\k<=12/\Mv 8 base [y,y1] w m w1 (X4 W k) m,Zq 12 0,fun w1 rA _=>⟨0,rfl,Qd,(Mv.two h hy bE).M' rA⟩,?_⟩;rintro c1 l RO RW Sb RR S5 Sa RY RZ S4 Rx SS ⟨k,he,qT,hM⟩;obtain⟨hS,hF⟩:=Cw dR hk k qT;have SN:X4 W (k+1)=if Ph (X4 W k) (k:Int)=true then Jd (X4 W k) (k:Int) (Q7 (X4 W k) (k:Int)).group (Tv (Qw (X4 W k) (Q7 (X4 W k) (k:Int)).group (Q7 (X4 W k) (k:Int)).mask)) else X4 W k:=rfl;have mF:k=12->P9 W=X4 W k:=fun e=>by rw[e]; rfl
 have e0:Qa (X4 W k) m=Qa W m:=by simp only[Qa,hF.n,hF.c,hF.t,hF.g]
 have eC:=hF.c;have eT:=hF.t;simp only[Qa,I4,I5,Iv,true_and,and_true] at he;obtain⟨rfl,rfl,⟨rfl,rfl,rfl⟩,⟨rfl,rfl,rfl⟩,rfl,rfl,rfl⟩:=he;generalize X4 W k=V at hM hS hF SN mF e0 eC eT;have hr:=hM.rd;refine⟨fun IS=>?_,fun Ry w3 R4=>⟨rfl,?_⟩⟩
 ·have IS:=Ot IS;have t1:(k:Int)<(V.tasks.length:Int):=Qo;have V':Ix m.tO W.tasks.length (k:Int):=by have:=hr.t.ix QG (i:=(k:Int)) Qo t1; rwa[eT] at this
  have next:∀{w9 w8:Wo},Q0 [y,y1] Rx w9->Ph V (k:Int)=false->(∃(k':Nat),[I ((k:Int)+1),I W.now,.slice m.cO W.ID.length m.cC,.slice m.tO W.tasks.length m.tC,.slice m.gO W.IC.length m.gC]=I (k':Int)::Qa W m/\k'<=12/\Mv 8 base [y,y1] w m w9 (X4 W k') m)/\Zq 12 0 [I ((k:Int)+1),I W.now,.slice m.cO W.ID.length m.cC,.slice m.tO W.tasks.length m.tC,.slice m.gO W.IC.length m.gC] w9<Zq 12 0 [I (k:Int),I W.now,.slice m.cO W.ID.length m.cC,.slice m.tO W.tasks.length m.tC,.slice m.gO W.IC.length m.gC] w8:=fun {w9 w8} hx hm=>by
   refine⟨⟨k+1,rfl,Qo,?_⟩,?_⟩
   ·rw[SN,B' (by rw[hm]; decide)];exact hM.step hx
   ·simp only[Zq,Xc,ZR,Ie]; omega
  refine⟨V',_,zsq.f hr.t Qo t1 (j:=0) rfl,fun g=>⟨⟨Qo,Qo⟩,fun Rt SD _=>next SD (by unfold Ph; rw[show (Q7 V (k:Int)).state=0 from Iy g]; rfl)⟩,fun g=>?_⟩;have kW:(Q7 V (k:Int)).state≠0:=ne_of_beq_false g;obtain⟨hu,d0,d1⟩:=hS.w.t (k:Int) Qo Qo kW;have hwh:=J6 (g:=(Q7 V (k:Int)).group) (mask:=(Q7 V (k:Int)).mask) hr hS.w.a.c2 hS.w.a.tree hu;rw[e0] at hwh;have hf:=Kz hS.w.a (Q7 V (k:Int)).group (Q7 V (k:Int)).mask;refine⟨V',_,zsq.f hr.t Qo t1 (j:=1) rfl,V',_,zsq.f hr.t Qo t1 (j:=4) rfl,_,hwh,V',_,zsq.f hr.t Qo t1 (j:=2) rfl,_,Y2,fun g2=>⟨V',_,zsq.f hr.t Qo t1 (j:=1) rfl,_,Kf,fun RH Sg jO=>?_⟩,fun g2=>⟨⟨Qo,Qo⟩,fun Rt SD _=>next SD (by unfold Ph; rw[show QX (Qw V (Q7 V (k:Int)).group (Q7 V (k:Int)).mask) (Q7 V (k:Int)).IZ=true from (by have h:=g2; rw[I6] at h; exact h)]; simp)⟩⟩;have hM5:=hM.step Sg;have Rg:=UT hM5.own hS hk hK (t:=(k:Int)) (g:=(Q7 V (k:Int)).group) (c:=Tv (Qw V (Q7 V (k:Int)).group (Q7 V (k:Int)).mask)) Qo Qo kW hu hf.1 hf.2;rw[e0] at Rg;refine I3 Rg ?_;rintro e1 S6 ⟨fJ,fK⟩;refine⟨_,_,_,_,_,_,_,_,_,_,fJ,hM5.kept fK jO,⟨Qo,Qo⟩,fun Sf aO _=>⟨⟨k+1,rfl,Qo,?_⟩,?_⟩⟩
  ·have hm:Ph V (k:Int)=true:=by
    unfold Ph;rw[A'];exact⟨by simpa using kW,g2⟩
   rw[SN,C' hm];exact(hM5.call fK jO).step aO
  ·simp only[Zq,Xc,ZR,Ie]; omega
 ·have Ry:=Ou Ry;rw[mF Qo];exact(hM.step R4).close
section
variable {pb:Nat}
theorem zng{F K:Int}(h:PW base pb w W m)(dR:SF F K W)(hk:F+Qi<=K)(hK:K<=1000000000000000000){t g c:Int}(t0:0<=t)(t1:t<12)(hs:(Q7 W t).state≠0)(hg:Q6 W.IC g=true)(c0:0<=c)(c1:c<(W.ID.length:Int)) :
  Cz VV #[.pointer (pA pb),I t,I g,I c] w fun e w'=>e=.returned (.tuple #[])/\Mp base pb [] w m w' (Jd W t g c) m:=by
 refine(Ba (pA pb) t g c (R:=fun v w'=>v=.tuple #[]/\Mp base pb [] w m w' (Jd W t g c) m) ?_).mono fun e w' ⟨v,he,hv,h3⟩=>⟨by rw[he,hv],h3⟩
 obtain⟨g0,g1,_⟩:=Q4.1 hg;have iX:=dR.w.a.t;have bM:=dR.w.a.gl;have hsl:=dR.w.a.sl hg;have mG:t<(W.tasks.length:Int):=Qo;obtain⟨hu,d0,d1⟩:=dR.w.t t t0 t1 hs;obtain⟨q0,q1,_⟩:=Q4.1 hu;have hql:=dR.w.a.sl hu;have s1:=dR.w.s g c hg c0 c1;have s2:=dR.w.s _ _ hu d0 d1;have hv:=dR.w.tv t t0 t1;have hlr:=Dz W t;simp only[Qi] at hlr;have hM:=Mp.start h;have hp:=hM.wpt;have CK5:=hM.own.AA0 t0 mG (j:=1) (vs:=[I g]) (x:={ Q7 W t with group:=g }) rfl Qs;have hM1:Mp base pb [] w m _ (IT W t { Q7 W t with group:=g }) m:=hM.Sj CK5 GJ (Ms _ _ _ _);have ht1:t<((IT W t { Q7 W t with group:=g }).tasks.length:Int):=by simpa[IT] using mG
 have e1:gi (IT W t { Q7 W t with group:=g }).tasks t={ Q7 W t with group:=g }:=KU t0 mG;have CK6:=hM1.own.AA0 t0 ht1 (j:=2) (vs:=[I c]) (x:={ Q7 W t with group:=g,IZ:=c }) (by rw[e1]; rfl) Qs;have Wq:Mp base pb [] w m _ (IT (IT W t { Q7 W t with group:=g }) t { Q7 W t with group:=g,IZ:=c }) m:=hM1.Sj CK6 GJ (Ms _ _ _ _);rw[set_set] at Wq;have ht2:t<((IT W t { Q7 W t with group:=g,IZ:=c }).tasks.length:Int):=by simpa[IT] using mG
 have e2:gi (IT W t { Q7 W t with group:=g,IZ:=c }).tasks t={ Q7 W t with group:=g,IZ:=c }:=KU t0 mG;have e2':Q7 (IT W t { Q7 W t with group:=g,IZ:=c }) t={ Q7 W t with group:=g,IZ:=c }:=e2;have fG:=Wq.wpt;have CF7:=EN (t:=t) fG t0 ht2 (by rw[e2']; exact g0) (by rw[e2']; exact g1) (by rw[e2']; exact c0) (by rw[e2']; show c<(((gi W.IC g).IE.length:Nat):Int); omega);rw[e2'] at CF7;have CK7:=Wq.own.AA0 t0 ht2 (j:=5) (vs:=[I ((Qc W g c).floor+HA W t)]) (x:=VA W t g c) (by rw[e2]; rfl) Qs;have dZ:Mp base pb [] w m _ (IT (IT W t { Q7 W t with group:=g,IZ:=c }) t (VA W t g c)) m:=Wq.Sj CK7 GJ (Ms _ _ _ _);rw[set_set] at dZ;have ht3:t<((IT W t (VA W t g c)).tasks.length:Int):=by simpa[IT] using mG
 have e3:gi (IT W t (VA W t g c)).tasks t=VA W t g c:=KU t0 mG;have hp3:=dZ.wpt;have kW:=zsq.f hp3.rd.t t0 ht3 (j:=0) rfl;rw[e3] at kW;refine⟨hp.some,_,_,_,hp.tasks,hp.rd.t.ix QG t0 mG,_,zsq.f hp.rd.t t0 mG (j:=5) rfl,_,EN hp t0 mG q0 q1 d0 Qo,⟨by show _<=(Q7 W t).v-(Qc W (Q7 W t).group (Q7 W t).IZ).floor; omega,by show (Q7 W t).v-(Qc W (Q7 W t).group (Q7 W t).IZ).floor<=_; omega⟩,_,ze2 hp t0 mG,_,HM,zqn hM.own hM.nb t0 mG (j:=1) Qd,zqn hM1.own hM1.nb t0 ht1 (j:=2) Qd,_,CF7,⟨by show _<=(Qc W g c).floor+HA W t; omega,by show (Qc W g c).floor+HA W t<=_; omega⟩,zqn Wq.own Wq.nb t0 ht2 (j:=5) Qd,_,kW,fun g4=>⟨_,_,XI,fun wr hx _=>?_⟩,fun g4 J' hx=>⟨rfl,?_⟩⟩
 ·have g4:(Q7 W t).state=1:=Iy g4;have fH:=dZ.nil hx;refine I3 (O4 fH.pw (W:=IT W t (VA W t g c)) c0 c1) ?_;rintro e wv ⟨he,hy⟩;refine⟨he,Yf,fun I' S9=>⟨rfl,?_⟩⟩;unfold Jd;rw[C' g4];exact(fH.call hy Qs).nil S9
 ·have g4:¬(Q7 W t).state=1:=ne_of_beq_false g4;unfold Jd;rw[B' g4];exact dZ.nil hx
theorem L7{F K:Int}(h:PW base pb w W m)(dR:SF F K W)(hk:F+Qi<=K)(hK:K<=1000000000000000000) :
  Cz X7 #[.pointer (pA pb)] w fun e w'=>e=.returned (.tuple #[])/\Mp base pb [] w m w' (P9 W) m:=by
 refine(Lm (pA pb) (R:=fun v w'=>v=.tuple #[]/\Mp base pb [] w m w' (P9 W) m) ?_).mono fun e w' ⟨v,he,hv,h3⟩=>⟨by rw[he,hv],h3⟩
 have iX:=dR.w.a.t;have hp:=(Mp.start h).wpt;refine⟨hp.some,_,_,_,hp.tasks,?_⟩;refine Xx W.tasks.length 0 rfl (fun k w2=>k<=12/\Mp base pb [] w m w2 (X4 W k) m) (fun w2 R0 _=>⟨Qd,(Mp.start h).nil R0⟩) fun k w2 SS ⟨qT,hM⟩=>?_
 obtain⟨hS,hF⟩:=Cw dR hk k qT;have SN:X4 W (k+1)=if Ph (X4 W k) (k:Int)=true then Jd (X4 W k) (k:Int) (Q7 (X4 W k) (k:Int)).group (Tv (Qw (X4 W k) (Q7 (X4 W k) (k:Int)).group (Q7 (X4 W k) (k:Int)).mask)) else X4 W k:=rfl;have mF:k=12->P9 W=X4 W k:=fun e=>by rw[e]; rfl
 have eC:=hF.c;have eT:=hF.t;generalize X4 W k=V at hM hS hF SN mF eC eT;have fG:=hM.wpt;refine⟨fun IS=>?_,fun Ry w3 R4=>⟨rfl,?_⟩⟩
 ·have IS:=Ot IS;have t1:(k:Int)<(V.tasks.length:Int):=Qo;have V':=fG.rd.t.ix QG (i:=(k:Int)) Qo t1;rw[eT] at V';refine⟨V',_,_,_,_,_,_,_,_,_,fG.rd.t (k:Int) Qo t1,fun b hb=>⟨fun g=>⟨⟨Qo,Qo⟩,fun I' S9 _=>Qm Qo ⟨Qo,?_⟩⟩,fun g=>?_⟩⟩
  ·rw[SN,B' (by unfold Ph; rw[show (Q7 V (k:Int)).state=0 from Iy g]; simp)];exact hM.nil S9
  have kW:(Q7 V (k:Int)).state≠0:=ne_of_beq_false g;obtain⟨hu,d0,d1⟩:=hS.w.t (k:Int) Qo Qo kW;have hf:=Kz hS.w.a (Q7 V (k:Int)).group (Q7 V (k:Int)).mask;refine⟨_,Gh fG hS.w.a.c2 hS.w.a.tree Qo t1 hu,_,Gf,fun g2 J' R0 dQ=>?_,fun g2=>⟨⟨Qo,Qo⟩,fun RH Sg _=>Qm Qo ⟨Qo,?_⟩⟩⟩
  ·have hMb:=(hM.add hb).M' R0;refine I3 Bq ?_;rintro e wv ⟨he,hy⟩;refine⟨_,he,Qe hy dQ,rfl,fun Rp R4 cJ=>?_⟩;have dZ:=(hMb.M' hy).step R4;refine I3 (zng dZ.pw hS hk hK (t:=(k:Int)) (g:=(Q7 V (k:Int)).group) (c:=Tv (Qw V (Q7 V (k:Int)).group (Q7 V (k:Int)).mask)) Qo Qo kW hu hf.1 hf.2) ?_;rintro e1 S6 ⟨fJ,fK⟩;refine⟨fJ,dZ.kept fK cJ,⟨Qo,Qo⟩,fun Rt SD _=>Qm Qo ⟨Qo,?_⟩⟩
   have hm:Ph V (k:Int)=true:=by
    unfold Ph;rw[A'];exact⟨by simpa using kW,g2⟩
   rw[SN,C' hm];exact((dZ.call fK cJ).step SD).close
  ·rw[SN,B' (by unfold Ph; rw[show QX (Qw V (Q7 V (k:Int)).group (Q7 V (k:Int)).mask) (Q7 V (k:Int)).IZ=true from (by have h:=g2; rw[I6] at h; exact h)]; simp)];exact hM.nil Sg
 ·have Ry:=Ou Ry;rw[mF Qo];exact hM.nil R4
end
end
theorem Kv{W:Q8}(sw:SW Qj W):SF Qj (Qj+Qi) W:=sw.sf.mono (I2 _) (by simp only[Qi]; decide)
noncomputable def DR(W:Q8)(t x:Int):Int:=if Po x=false\/x=0 then 1 else if Yb W t=false then 2 else if QQ W=false then 10 else 0
def znu(W:Q8)(t x:Int):MM:={ Q7 W t with mask:=x }
def zu6(W:Q8)(t x:Int):Q8:=Qg (P9 (IT W t (znu W t x)))
theorem zu7{W:Q8}{t x:Int}(hW:Qx W=true)(hb:DR W t x=0):Yb W t=true/\SF Qj (Qj+Qi) W/\SF Qj (Qj+Qi) (IT W t (znu W t x)):=by
 have wp:=Ql.1 hW;unfold DR at hb
 split at hb
 ·cases hb
 ·split at hb
  ·cases hb
  ·rename_i h2
   split at hb
   ·cases hb
   ·rename_i h3;have h1:Yb W t=true:=by simpa using h2
    have h3:QQ W=true:=by simpa using h3
    have sw:=Md wp (Ql.1 h3);obtain⟨t0,t1,n⟩:=YQ h1;have hl:=wp.a.t;have hv:=sw.tv t t0 Qo;exact⟨h1,Kv sw,Kv (sw.IT t0 Qo (fun _=>sw.t t t0 Qo n) hv.1 hv.2)⟩
theorem EH{W:Q8}{m:MW}{F K:Int}(sf:SF F K W)(hk:F+Qi<=K):Qa (P9 W) m=Qa W m:=by
 have hF:=(Pq sf hk).2;simp only[Qa,hF.n,hF.c,hF.t,hF.g]
section
variable {base pb:Nat}{W W':Q8}{m:MW}{w:Wo}{bar:Int}
theorem zbl{t x:Int}(h:XQ [] w W m)(hl:UN W) :
  Cz P1 #[.agg (Qa W m).toArray,I t,I x] w fun e w'=>∃v,e=.returned v/\QL (Yp W (DR W t x) (zu6 W t x)) w v w':=by
 refine zal _ _ _ _ _ _ _ _ _ _ t x (R:=fun v w'=>QL (Yp W (DR W t x) (zu6 W t x)) w v w') ?_;intro y hy y1 bE wr R0 SS;refine I3 (Zc (h.ext R0) hl) ?_;rintro e wv (⟨hW,he,Sn⟩ | ⟨hW,m',he,hM,Sn⟩)
 ·exact⟨_,_,_,_,_,_,_,_,_,_,_,he,Qe Sn SS,false,fun g=>by simp at g,fun _ I' R4=>QL.bad hW ((R0.trans Sn).fresh R4 fun z hm=>.inl (Yi hy bE z hm)),fun g=>by simp at g⟩
 have hK:=Wk.begin hy bE R0 SS hM Sn;have hr:=hK.rd;have tN:((if QQ W=true then 0 else 10:Int)==1)=false:=by split <;> rfl
 refine⟨_,_,_,_,_,_,_,_,_,_,_,he,Qe Sn SS,_,fun _=>Xa,fun g I' R4=>?_,fun g0=>⟨_,JB hr hl.t,fun g J' R4=>?_,fun g=>⟨fun g3 Rt R4=>?_,fun g3=>?_⟩⟩⟩
 ·rw[tN] at g;have g:Po x=false\/x=0:=by simpa using g
  have hb:DR W t x=1:=by unfold DR; rw[C' g]
  exact QL.no hW (by rw[hb]; decide) (hK.step R4) hb
 ·rw[tN] at g0;have g0:¬(Po x=false\/x=0):=by simpa using g0
  have g:Yb W t=false:=by simpa using g
  have hb:DR W t x=2:=by unfold DR; rw[B' g0,C' g]
  exact QL.no hW (by rw[hb]; decide) (hK.step R4) hb
 ·rw[tN] at g0;have g0:¬(Po x=false\/x=0):=by simpa using g0
  have g:Yb W t=true:=by simpa using g
  have aQ:¬QQ W=true:=fun hr=>by rw[C' hr] at g3; simp at g3
  have hb:DR W t x=10:=by unfold DR; rw[B' g0,B' (by rw[g]; decide),C' (by simpa using aQ)]
  rw[B' aQ];exact QL.no hW (by rw[hb]; decide) (hK.step R4) hb
 rw[tN] at g0;have g0:¬(Po x=false\/x=0):=by simpa using g0
 have g:Yb W t=true:=by simpa using g
 have aQ:QQ W=true:=Iq fun hr=>by rw[B' hr] at g3; simp at g3
 have hb:DR W t x=0:=by unfold DR; rw[B' g0,B' (by rw[g]; decide),B' (by rw[aQ]; decide)]
 obtain⟨_,sf0,sf⟩:=zu7 hW hb;obtain⟨t0,t1,tn⟩:=YQ g;have SE:Wk 8 [y,y1] w (Rl wv m'.tO (Int.toNat t*9+4) [I x]) (IT W t (znu W t x)) m':=hK.Rl (hK.own.AA0 t0 t1 (j:=4) (vs:=[I x]) (x:=znu W t x) rfl Qs) GJ;refine⟨hr.t.ix QG t0 t1,zqn hK.own hK.nb t0 t1 (j:=4) Qd,fun Rt SD cJ=>?_⟩;have e5:Qa (IT W t (znu W t x)) m'=Qa W m':=Ms _ _ _ _;have hE:zu6 W t x=Qg (P9 (IT W t (znu W t x))):=rfl;rw[hE];generalize IT W t (znu W t x)=V at SE sf e5;have dB:=SE.step SD;have Rg:=Js dB.own sf (I2 _) (by simp only[Qi]; decide);rw[e5] at Rg;refine I3 Rg ?_;rintro e1 R1 ⟨fJ,fK⟩;refine⟨_,_,_,_,_,_,_,_,_,_,fJ,dB.kept fK cJ,fun RH Sg jO=>?_⟩;have cQ:=(dB.Sj fK cJ).step Sg;have WZ:=Qv cQ.own (Pq sf (I2 _)).1.w (by simp only[Qi]; decide) (by simp only[Qi]; decide) cQ.base;rw[EH sf (I2 _),e5] at WZ;refine I3 WZ ?_;rintro e2 Rx ⟨m2,aE,fL⟩;exact⟨_,_,_,_,_,_,_,_,_,_,aE,cQ.kept fL jO,fun Sf aO=>QL.ok hW hb ((cQ.Sj fL jO).step aO)⟩
def zit(W:Q8)(g x:Int):ZO:={ gi W.IC g with ID:=x }
noncomputable def zku(W:Q8)(g x:Int):Int:=MT W g (Po x&&(x != 0))
def zt0(W:Q8)(g x:Int):Q8:=Qg (P9 (Rf W g (zit W g x)))
theorem zt1{W:Q8}{g x:Int}(hW:Qx W=true)(hb:zku W g x=0):Q6 W.IC g=true/\QQ W=true/\SF Qj (Qj+Qi) W/\SF Qj (Qj+Qi) (Rf W g (zit W g x))/\Z2 W.IC (Rf W g (zit W g x)).IC:=by
 obtain⟨h1,h2,h3,h4⟩:=ziu hb;have wp:=Ql.1 hW;have sw:=Md wp (Ql.1 h4);obtain⟨u0,u1,hg⟩:=wp.a.u h3;have hl:=wp.a.gl;simp only[A',It,ne_eq] at h1;exact⟨h3,h4,Kv sw,Kv (sw.Rf (x:=zit W g x) h3 rfl rfl rfl rfl ⟨hg.w1,hg.w2,h1.1,h1.2,hg.s,hg.len,fun h=>Ir h h2,hg.none,hg.IQ⟩),JE u0 Qo rfl rfl rfl⟩
theorem Ay{g x:Int}(h:XQ [] w W m)(hl:UN W) :
  Cz TN #[.agg (Qa W m).toArray,I g,I x] w fun e w'=>∃v,e=.returned v/\QL (Yp W (zku W g x) (zt0 W g x)) w v w':=by
 refine Af _ _ _ _ _ _ _ _ _ _ g x (R:=fun v w'=>QL (Yp W (zku W g x) (zt0 W g x)) w v w') ?_;intro y hy y1 bE;refine⟨_,Xa,fun wr R0 SS=>?_⟩;refine I3 (Vh (g:=g) (ok:=Po x&&(x != 0)) (h.ext R0) hl) ?_;rintro e wv (⟨hW,he,Sn⟩ | ⟨hW,m',he,hM,Sn⟩)
 ·exact⟨_,_,_,_,_,_,_,_,_,_,_,he,Qe Sn SS,fun _ I' R4=>QL.bad hW ((R0.trans Sn).fresh R4 fun z hm=>.inl (Yi hy bE z hm)),fun g=>by simp at g⟩
 have hK:=Wk.begin hy bE R0 SS hM Sn;refine⟨_,_,_,_,_,_,_,_,_,_,_,he,Qe Sn SS,fun g1 I' R4=>QL.no hW (by simpa[zku] using g1) (hK.step R4) rfl,fun g1=>?_⟩;have hb:zku W g x=0:=by simpa[zku] using g1
 have hr:=hK.rd;obtain⟨hu,yV,sf0,sf,hT⟩:=zt1 hW hb;obtain⟨u0,u1,_⟩:=Q4.1 hu;have bM:=sf0.w.a.gl;have SE:Wk 8 [y,y1] w (Rl wv m'.gO (Int.toNat g*14+4) [I x]) (Rf W g (zit W g x)) m':=hK.Rl (hK.own.Az4 u0 Qo (g:=zit W g x) rfl rfl rfl (j:=4) (vs:=[I x]) rfl Qs) Cc;refine⟨hr.g.ix (i:=g) u0 u1,zqm hK.own hK.nb (i:=g) u0 Qo (j:=4) (k:=1) Qd,fun Rt SD cJ=>?_⟩;have e5:Qa (Rf W g (zit W g x)) m'=Qa W m':=by simp[Qa,Rf]
 have hE:zt0 W g x=Qg (P9 (Rf W g (zit W g x))):=rfl;rw[hE];generalize Rf W g (zit W g x)=V at SE sf e5;have dB:=SE.step SD;have Rg:=Js dB.own sf (I2 _) (by simp only[Qi]; decide);rw[e5] at Rg;refine I3 Rg ?_;rintro e1 R1 ⟨fJ,fK⟩;refine⟨_,_,_,_,_,_,_,_,_,_,fJ,dB.kept fK cJ,fun RH Sg jO=>?_⟩;have cQ:=(dB.Sj fK cJ).step Sg;have WZ:=Qv cQ.own (Pq sf (I2 _)).1.w (by simp only[Qi]; decide) (by simp only[Qi]; decide) cQ.base;rw[EH sf (I2 _),e5] at WZ;refine I3 WZ ?_;rintro e2 Rx ⟨m2,aE,fL⟩;exact⟨_,_,_,_,_,_,_,_,_,_,aE,cQ.kept fL jO,fun Sf aO=>QL.ok hW hb ((cQ.Sj fL jO).step aO)⟩
end
def z0s(W:Q8)(c:Int)(j:Nat):Bool:=((Q7 W (j:Int)).state==1)&&((Q7 W (j:Int)).IZ==c)
def zjk(W:Q8)(c:Int)(j:Nat):Int:=if z0s W c j=true then 1 else 0
def zi1(W:Q8)(c:Int)(j:Nat):Int:=if z0s W c j=true then (Q7 W (j:Int)).load else 0
def zlp(W:Q8)(c:Int):Int:=Je (zjk W c) W.tasks.length
def zi2(W:Q8)(c:Int):Int:=Je (zi1 W c) W.tasks.length
def zxo(W:Q8)(a b:Int):Bool:=decide (zi2 W a<zi2 W b)||((zi2 W a==zi2 W b)&&decide (zlp W a<zlp W b))
def M8(W:Q8)(m:Int):Nat->Int
 | 0 => -1
 | k+1=>if (QX m (k:Int)&&(decide (M8 W m k<0)||zxo W (k:Int) (M8 W m k)))=true then (k:Int) else M8 W m k
def Mo(W:Q8)(m:Int):Int:=M8 W m W.ID.length
theorem zlm{W:Q8}{m:Int}{k:Nat}(h:(QX m (k:Int)&&(decide (M8 W m k<0)||zxo W (k:Int) (M8 W m k)))=true):M8 W m (k+1)=(k:Int):=C' h
theorem zpw{W:Q8}{m:Int}{k:Nat}(h:(QX m (k:Int)&&(decide (M8 W m k<0)||zxo W (k:Int) (M8 W m k)))=false):M8 W m (k+1)=M8 W m k:=B' (by rw[h]; decide)
theorem zcq(W:Q8)(m:Int):∀k:Nat,-1<=M8 W m k/\M8 W m k<(k:Int)/\(0<=M8 W m k->QX m (M8 W m k)=true)
 | 0=>⟨I2 _,by show (-1:Int)<0; decide,fun h=>by have:(0:Int)<=-1:=h; omega⟩
 | k+1=>by
  have ih:=zcq W m k;simp only[M8];split
  ·rename_i h;simp only[A'] at h;exact⟨Qo,Qo,fun _=>h.1⟩
  ·exact⟨ih.1,Qo,ih.2.2⟩
theorem zgy{W:Q8}{m:Int}{j:Nat}(h:QX m (j:Int)=true):∀k:Nat,j<k->0<=M8 W m k
 | 0,hk=>Ir hk (Nat.not_lt_zero j)
 | k+1,hk=>by
  by_cases e:j=k
  ·subst e
   by_cases hn:M8 W m j<0
   ·rw[zlm (by rw[h,Ih hn]; rfl)]; omega
   ·simp only[M8]; split <;> omega
  ·have:=zgy (W:=W) h k Qo;simp only[M8]
   split <;> omega
theorem z0h{W:Q8}(ha:WA W){m:Int}(hm:Po m=true)(h0:m≠0)(hs:∀c:Int,QX m c=true->0<=c/\c<(W.ID.length:Int)):0<=Mo W m/\Mo W m<(W.ID.length:Int)/\QX m (Mo W m)=true:=by
 have hf:=F5 hm h0;have hr:=hs _ hf;have e:((Tv m).toNat:Int)=Tv m:=Qo;have h1:=zgy (W:=W) (m:=m) (j:=(Tv m).toNat) (by rw[e]; exact hf) W.ID.length Qo;have h2:=zcq W m W.ID.length;exact⟨h1,h2.2.1,h2.2.2 h1⟩
theorem Ha{W:Q8}(ha:WA W)(g mask:Int):0<=Mo W (Qw W g mask)/\Mo W (Qw W g mask)<(W.ID.length:Int)/\QX (Qw W g mask) (Mo W (Qw W g mask))=true:=
 z0h ha (GV ha g mask).1 (GV ha g mask).2 fun _ h=>LW ha h
def Kj(m:Int):Nat->Int
 | 0=>0
 | k+1=>if QX m (k:Int)=true then Kj m k+1 else Kj m k
theorem DA(m:Int):∀k:Nat,0<=Kj m k/\Kj m k<=(k:Int)
 | 0=>by simp[Kj]
 | k+1=>by
  have:=DA m k;simp only[Kj]
  split <;> omega
def z1z(W:Q8):Prop:=∀t:Int,0<=t->t<12->0<=(Q7 W t).load/\(Q7 W t).load<=8000000
theorem zug{W:Q8}(wp:XS W):z1z W:=fun t t0 t1=>by
 rcases wp.t t t0 t1 with h | ⟨_,h⟩
 ·rw[h.2]; decide
 ·exact⟨h.l1,h.l2⟩
theorem zn0(W:Q8)(c:Int)(j:Nat):0<=zjk W c j/\zjk W c j<=1:=by unfold zjk; split <;> omega
theorem zn1{W:Q8}(c:Int)(k:Nat):0<=Je (zjk W c) k/\Je (zjk W c) k<=(k:Int)*1:=VE (zn0 W c) k
theorem zbq{W:Q8}(hl:z1z W)(c:Int):∀k:Nat,k<=12->0<=Je (zi1 W c) k/\Je (zi1 W c) k<=(k:Int)*8000000
 | 0,_=>by simp[Je]
 | k+1,hk=>by
  have ih:=zbq hl c k Qo;have h1:=hl (k:Int) Qo Qo;simp only[Je];have h2:0<=zi1 W c k/\zi1 W c k<=8000000:=by unfold zi1; split <;> omega
  omega
section
variable {W:Q8}{m:MW}{w:Wo}{bs:List Nat}{p:OA}
theorem P7{c:Int}(h:XQ bs w W m)(iX:W.tasks.length=12):PX bs J4 #[.agg (Qa W m).toArray,I c] w (I (zlp W c)):=
 AZ _ _ _ _ _ _ _ _ _ _ c fun wr hx=>by
  have h:=(h.ext hx).less (cs:=[]) Qs;intro _ _;refine OQ W.tasks.length 0 rfl (fun x k=>k<=W.tasks.length/\x=Je (zjk W c) k) ⟨Ic _,rfl⟩ fun x k ⟨hk,R0⟩=>⟨fun IS=>?_,fun Ry=>?_⟩
  ·have IS:=Ot IS;have hr:=zn1 (W:=W) c k;refine⟨h.t.ix QG Qo IS,_,h.t.f Qo IS (j:=0) rfl,fun _=>h.t.ix QG Qo IS,_,fun _=>h.t.f Qo IS (j:=2) rfl,fun g2=>⟨⟨Qo,Qo⟩,⟨Qo,Qo⟩,QJ Qo ⟨Qo,?_⟩⟩,fun g2=>⟨⟨Qo,Qo⟩,QJ Qo ⟨Qo,?_⟩⟩⟩
   ·have g2:z0s W c k=true:=g2;simp only[Je,zjk]; rw[C' g2,R0]
   ·have g2:z0s W c k=false:=g2;simp only[Je,zjk]; rw[B' (by rw[g2]; decide),R0,Int.add_zero]
  ·have Ry:=Ou Ry;have:k=W.tasks.length:=Qo;subst this;rw[R0]; rfl
theorem Vg{c:Int}(h:XQ bs w W m)(iX:W.tasks.length=12)(hl:z1z W):PX bs Xe #[.agg (Qa W m).toArray,I c] w (I (zi2 W c)):=
 AV _ _ _ _ _ _ _ _ _ _ c fun wr hx=>by
  have h:=(h.ext hx).less (cs:=[]) Qs;intro _ _;refine OQ W.tasks.length 0 rfl (fun x k=>k<=W.tasks.length/\x=Je (zi1 W c) k) ⟨Ic _,rfl⟩ fun x k ⟨hk,R0⟩=>⟨fun IS=>?_,fun Ry=>?_⟩
  ·have IS:=Ot IS;have hr:=zbq hl c k Qo;have mG:=hl (k:Int) Qo Qo;refine⟨h.t.ix QG Qo IS,_,h.t.f Qo IS (j:=0) rfl,fun _=>h.t.ix QG Qo IS,_,fun _=>h.t.f Qo IS (j:=2) rfl,fun g2=>⟨h.t.ix QG Qo IS,(Q7 W (k:Int)).load,h.t.f Qo IS (j:=8) rfl,⟨Qo,Qo⟩,⟨Qo,Qo⟩,QJ Qo ⟨Qo,?_⟩⟩,fun g2=>⟨⟨Qo,Qo⟩,QJ Qo ⟨Qo,?_⟩⟩⟩
   ·have g2:z0s W c k=true:=g2;simp only[Je,zi1]; rw[C' g2,R0]
   ·have g2:z0s W c k=false:=g2;simp only[Je,zi1]; rw[B' (by rw[g2]; decide),R0,Int.add_zero]
  ·have Ry:=Ou Ry;have:k=W.tasks.length:=Qo;subst this;rw[R0]; rfl
theorem L9{x:Int}(h:XQ bs w W m)(ha:WA W)(hl:z1z W):PX bs Ur #[.agg (Qa W m).toArray,I x] w (I (Mo W x)):=
 AW _ _ _ _ _ _ _ _ _ _ x fun wr hx=>by
  have h:=(h.ext hx).less (cs:=[]) Qs;have rJ:=ha.c2;have iX:=ha.t;intro _ _;refine OQ W.ID.length 0 rfl (fun b k=>k<=W.ID.length/\b=M8 W x k) ⟨Ic _,rfl⟩ fun b k ⟨hk,hb⟩=>⟨fun IS=>?_,fun Ry=>?_⟩
  ·have IS:=Ot IS;have key:(((decide (b<0))||(decide (zi2 W (k:Int)<zi2 W b)))||((zi2 W (k:Int)==zi2 W b)&&(decide (zlp W (k:Int)<zlp W b))))=(decide (M8 W x k<0)||zxo W (k:Int) (M8 W x k)):=by rw[hb,Bool.or_assoc]; rfl
   refine⟨_,Y2,fun g=>⟨⟨Qo,Qo⟩,QJ Qo ⟨Qo,?_⟩⟩,fun g=>⟨_,fun _=>Vg h iX hl,_,fun _=>Vg h iX hl,_,fun _=>Vg h iX hl,_,fun _=>Vg h iX hl,_,fun _ _=>P7 h iX,_,fun _ _=>P7 h iX,fun g2=>⟨⟨Qo,Qo⟩,QJ Qo ⟨Qo,?_⟩⟩,fun g2=>⟨⟨Qo,Qo⟩,QJ Qo ⟨Qo,?_⟩⟩⟩⟩
   ·have g:QX x (k:Int)=false:=by simpa using g
    rw[hb,zpw (by rw[g]; rfl)]
   ·have g:QX x (k:Int)=true:=by simpa using g
    rw[zlm (by rw[g,<-key,g2]; rfl)]
   ·have g:QX x (k:Int)=true:=by simpa using g
    rw[hb,zpw (by rw[g,<-key,g2]; rfl)]
  ·have Ry:=Ou Ry;have:k=W.ID.length:=Qo;subst this;rw[hb]; rfl
theorem By{x:Int}:PX bs T5 #[I x] w (I (Kj x 4)):=
 BQ x fun wr hx=>by
  refine OQ 4 0 rfl (fun n k=>k<=4/\n=Kj x k) ⟨Qd,rfl⟩ fun n k ⟨hk,hn⟩=>⟨fun IS=>?_,fun Ry=>?_⟩
  ·have IS:=Ot IS;have hr:=DA x k;refine⟨_,Y2,fun g=>⟨⟨Qo,Qo⟩,⟨Qo,Qo⟩,QJ Qo ⟨Qo,?_⟩⟩,fun g=>⟨⟨Qo,Qo⟩,QJ Qo ⟨Qo,?_⟩⟩⟩
   ·simp only[Kj]; rw[C' g,hn]
   ·simp only[Kj]; rw[B' (by rw[g]; decide),hn]
  ·have Ry:=Ou Ry;have:k=4:=Qo;subst this;rw[hn]
end
def Cq(n:Int):Int:=if YK n 1 4=true then (if n=1 then 0 else if n=2 then 1 else 2) else 0
theorem zrr{n:Int}(h:YK n 1 4=true):(n=1/\Cq n=0)\/(n=2/\Cq n=1)\/(n=3/\Cq n=2)\/(n=4/\Cq n=2):=by
 have:=Qu.1 h;have:n=1\/n=2\/n=3\/n=4:=Qo;rcases this with rfl | rfl | rfl | rfl
 ·exact .inl ⟨rfl,Qd⟩
 ·exact .inr (.inl ⟨rfl,Qd⟩)
 ·exact .inr (.inr (.inl ⟨rfl,Qd⟩))
 ·exact .inr (.inr (.inr ⟨rfl,Qd⟩))
def zus(c lv j:Int):Bool:=Int.fdiv j (2 ^ (min (Int.toNat (lv+1)) 64))==Int.fdiv c (2 ^ (min (Int.toNat (lv+1)) 64))
def zvk(c lv:Int):Nat->Int
 | 0=>0
 | k+1=>if zus c lv (k:Int)=true then zvk c lv k+JX k else zvk c lv k
theorem zvl(c lv:Int):∀k:Nat,k<=4->0<=zvk c lv k/\zvk c lv k<JX k
 | 0,_=>by simp[zvk,JX]
 | k+1,h=>by
  have ih:=zvl c lv k Qo
  have hb:JX (k+1)=2*JX k/\0<=JX k:=by
   have:k=0\/k=1\/k=2\/k=3:=Qo;rcases this with rfl | rfl | rfl | rfl <;> decide
  simp only[zvk]
  split <;> omega
def N0(n c lv:Int):Bool:=(YK n 1 4&&YK c 0 (n-1))&&YK lv 0 (Cq n-1)
def z1p(n c lv:Int):Int:=if N0 n c lv=true then zvk c lv n.toNat else 0
section
variable {w:Wo}{bs:List Nat}{n c lv:Int}
theorem zxp{n:Int}{k:Nat}(h:YK n 1 4=true)(hk:(k:Int)<=Cq n):(decide ((1*2 ^ (min (Int.toNat (k:Int)) 64):Int)<n)=true->(k:Int)+1<=Cq n)/\(decide ((1*2 ^ (min (Int.toNat (k:Int)) 64):Int)<n)=false->(k:Int)=Cq n):=by
 rcases zrr h with ⟨rfl,e⟩ | ⟨rfl,e⟩ | ⟨rfl,e⟩ | ⟨rfl,e⟩ <;> rw[e] at hk ⊢
 ·have:k=0:=Qo;subst this; decide
 ·have:k=0\/k=1:=Qo;rcases this with rfl | rfl <;> decide
 ·have:k=0\/k=1\/k=2:=Qo;rcases this with rfl | rfl | rfl <;> decide
 ·have:k=0\/k=1\/k=2:=Qo;rcases this with rfl | rfl | rfl <;> decide
theorem zpj(n:Int):0<=Cq n/\Cq n<=2:=by
 unfold Cq;split
 ·split
  ·omega
  ·split <;> omega
 ·omega
theorem Pg:PX bs XG #[I n] w (I (Cq n)):=
 HE n fun wr hx=>by
  refine⟨_,Qp,fun q=>?_,fun q=>?_⟩
  ·have q:YK n 1 4=false:=by simpa using q
   have:Cq n=0:=B' (by rw[q]; decide);rw[this]
  ·have q:YK n 1 4=true:=by simpa using q
   have hl:=zpj n;refine⟨fun vs=>∃k:Nat,vs=[I (k:Int)]/\(k:Int)<=Cq n,fun vs=>(2-ZR 0 vs).toNat,⟨0,rfl,hl.1⟩,?_⟩;rintro k' ⟨k,he,hk⟩;simp only[I4,I5,true_and,and_true] at he;subst he;have hb:=B7 (k:=k) Qo;have dD:(1*2 ^ (min (Int.toNat (k:Int)) 64):Int)=JX k:=rfl;obtain⟨s1,s2⟩:=zxp q hk;refine⟨⟨Qo,Qo⟩,⟨Qo,by rw[dD]; exact⟨Qo,Qo⟩⟩,fun g=>⟨⟨Qo,Qo⟩,⟨k+1,Qs,by have:=s1 g; omega⟩,?_⟩,fun g=>by rw[<-s2 g]⟩;have:=s1 g;show (2-((k:Int)+1)).toNat<(2-(k:Int)).toNat;omega
theorem zsg(h:N0 n c lv=true):YK n 1 4=true/\0<=c/\c<n/\0<=lv/\lv<=1:=by
 unfold N0 at h;simp only[A'] at h;have h1:=Qu.1 h.1.2;have h2:=Qu.1 h.2;have:=zpj n;exact⟨h.1.1,h1.1,Qo,h2.1,Qo⟩
theorem ER:PX bs Vs #[I n,I c,I lv] w (I (z1p n c lv)):=
 Fh n c lv fun wr hx=>by
  have hl:=zpj n
  have e:(((!YK n 1 4)||(!YK c 0 (n-1)))||(!YK lv 0 (Cq n-1))) = !N0 n c lv:=by
   unfold N0; rw[Bool.not_and,Bool.not_and]
  refine⟨_,Qp,fun q=>?_,_,fun _=>Qp,_,fun _=>Pg,fun _=>⟨Qo,Qo⟩,_,fun _=>Qp,fun q=>?_,fun q=>?_⟩
  ·have q:=Qu.1 (by simpa using q:YK n 1 4=true);exact⟨Qo,Qo⟩
  ·rw[e] at q;have:z1p n c lv=0:=B' (by simpa using q);rw[this]
  ·rw[e] at q;have q:N0 n c lv=true:=by simpa using q
   obtain⟨h1,c0,c1,l0,l1⟩:=zsg q;have hn:=Qu.1 h1;obtain⟨N,rfl⟩:∃N:Nat,n=(N:Int):=⟨n.toNat,Qo⟩;have hD:z1p (N:Int) c lv=zvk c lv N:=by unfold z1p; rw[C' q,Ig]
   rw[hD];refine OQ N 0 rfl (fun x k=>k<=N/\x=zvk c lv k) ⟨Ic _,rfl⟩ fun x k ⟨hk,R0⟩=>⟨fun IS=>?_,fun Ry=>?_⟩
   ·have IS:=Ot IS;have hb:=B7 (k:=k) Qo;have hs:=zvl c lv k Qo;have dD:(1*2 ^ (min (Int.toNat (k:Int)) 64):Int)=JX k:=rfl;refine⟨⟨Qo,Qo⟩,⟨Qo,Qo⟩,Qo,⟨Qo,Qo⟩,⟨Qo,Qo⟩,Qo,fun hu=>?_,fun hu=>?_⟩
    ·rw[dD,R0];refine⟨⟨Qo,Qo⟩,⟨Qo,Qo,Qo⟩,⟨Qo,Qo⟩,⟨Qo,Qo⟩,QJ Qo ⟨Qo,?_⟩⟩;simp only[zvk]; rw[C' (show zus c lv (k:Int)=true from hu)]
    ·refine⟨⟨Qo,Qo⟩,QJ Qo ⟨Qo,?_⟩⟩;rw[R0]; simp only[zvk]; rw[B' (by rw[show zus c lv (k:Int)=false from hu]; decide)]
   ·have Ry:=Ou Ry;have:k=N:=Qo;subst this;rw[R0]
end
def Cd(W:Q8)(g:Int):List Int:=Z7 W.IC g++[0]
def ztp(W:Q8)(g c:Int):Bool:=(Cd W g).any fun x=>JY W x c
theorem zmb(W:Q8):Cd W 0=[0]:=by unfold Cd; rw[show Z7 W.IC 0=[] from Zl W.IC 3]; rfl
theorem zmc{W:Q8}(ht:Y5 W.IC){g:Int}(hu:Q6 W.IC g=true)(hz:g≠0):Cd W g=g::Cd W (gi W.IC g).parent:=by
 unfold Cd;rw[Yz ht hu hz,List.cons_append]
theorem zv4{W:Q8}(ht:Y5 W.IC){g:Int}(hu:Q6 W.IC g=true):∀x∈Cd W g,Q6 W.IC x=true:=by
 have hr:Q6 W.IC 0=true:=Q4.2 ⟨Qd,by have:=ht.len; omega,ht.ru⟩;refine M6 ht (Q:=fun h=>∀x∈Cd W h,Q6 W.IC x=true) ?_ (fun h hu hz ih=>?_) g hu
 ·rw[zmb];intro x hx;have:x=0:=by simpa using hx
  rw[this]; exact hr
 ·rw[zmc ht hu hz];intro x hx;rcases Ii.1 hx with rfl | hx
  ·exact hu
  ·exact ih x hx
theorem zcn(gs:List ZO):∀(f:Nat) (g:Int),(UA f gs g).length<=f
 | 0,_=>I7 _
 | f+1,g=>by
  simp only[UA];split
  ·simp
  ·have:=zcn gs f (gi gs g).parent;simp; omega
theorem zqg(W:Q8)(g:Int):(Cd W g).length<=4:=by
 unfold Cd;have:=zcn W.IC 3 g;simp; omega
def UD(W:Q8)(t c:Int):Bool:=
 (!(((((((Q7 W t).state != 1)||((Q7 W t).IZ==c))||((gi W.ID (Q7 W t).IZ).cur==t))||(!ZA W t))||(!QX (Qw W (Q7 W t).group (Q7 W t).mask) c)))) && !ztp W (Q7 W t).group c
def zqr(W:Q8)(b c:Int):Bool:=Ts (fun t=>((Q7 W (t:Int)).IZ==b)&&UD W (t:Int) c) 12
theorem Nf{W:Q8}{t c:Int}(h:UD W t c=true):(Q7 W t).state=1/\(Q7 W t).IZ≠c:=by
 unfold UD at h;simp only[A',IB,H',bne_eq_false_iff_eq,beq_eq_false_iff_ne] at h;exact⟨h.1.1.1.1.1,h.1.1.1.1.2⟩
section
variable {W:Q8}{m:MW}{w:Wo}{bs:List Nat}{p:OA}
def zlr(W:Q8)(g:Int):List Int:=if g=0 then [] else Cd W (gi W.IC g).parent
theorem zg1{W:Q8}(ht:Y5 W.IC){g:Int}(hu:Q6 W.IC g=true):g::zlr W g=Cd W g:=by
 unfold zlr
 by_cases hz:g=0
 ·subst hz; rw[C' rfl,zmb]
 ·rw[B' hz,zmc ht hu hz]
theorem Le{t:Int}(h:XQ [] w W m)(ht:Y5 W.IC)(t0:0<=t)(t1:t<(W.tasks.length:Int))(hu:Q6 W.IC (Q7 W t).group=true) :
  Cz Uu #[.agg (Qa W m).toArray,I t] w fun e w'=>∃o c',e=.returned (.slice o (Cd W (Q7 W t).group).length c')/\Uz JI 1 Qb w.heap.size w' o c' (Cd W (Q7 W t).group)/\Q0 [] w w':=by
 refine(Au _ _ _ _ _ _ _ _ _ _ t (R:=fun v w'=>∃o c',v=.slice o (Cd W (Q7 W t).group).length c'/\Uz JI 1 Qb w.heap.size w' o c' (Cd W (Q7 W t).group)/\Q0 [] w w') ?_).mono fun e w' ⟨v,he,o,c',hv,h1⟩=>⟨o,c',by rw[he,hv],h1⟩
 intro b hb;refine⟨h.t.ix QG t0 t1,_,h.t.f t0 t1 (j:=1) rfl,fun b1 wb S9 dI Wr hn=>?_⟩;have hlen:=zqg W (Q7 W t).group;have hO0:Uz JI 1 Qb w.heap.size wb (some ⟨b1,0,none⟩) 1 [(Q7 W t).group]:=.inr ⟨b1,[],rfl,dI,Wr,by simp[JI],Qs⟩;have hbn:∀x∈[b],w.heap.size<=x:=by simpa using hb
 refine⟨fun vs w1=>∃(g:Int) (l:List Int) (o:OA) (c':Nat),vs=[I g,.slice o l.length c']/\Q6 W.IC g=true/\l++zlr W g=Cd W (Q7 W t).group/\Sc w [b] w1/\Ob JI 1 Qb w.heap.size [b] w1 o c' l,fun vs _=>(dep 3 W.IC (ZR 0 vs)).toNat,
  fun wr hx _=>⟨_,[(Q7 W t).group],_,1,rfl,hu,zg1 ht hu,(Sc.mk S9 hbn).step hx,⟨hO0.ext hx (by simp[QI]; exact fun e=>hn (by simp[e])),by simp[QI]; exact fun e=>hn (by simp[e])⟩⟩,?_⟩
 rintro g oO oL oC w1 cX ⟨g',l,o',c',he,hug,hI,s1,hO⟩;simp only[I4,I5,Iv,true_and,and_true] at he;obtain⟨rfl,rfl,rfl,rfl⟩:=he;have hg:=((h.wide (cs:=[b]) fun x hm=>.inr (hbn x hm)).ext s1.ext.of_nil).g
 have hll:l.length<=4:=by
  have:=congrArg List.length hI;simp at this;omega
 refine⟨fun hz=>?_,fun hz wr hx=>?_⟩
 ·have hz:g≠0:=by simpa using hz
  obtain⟨hp,a,b',d,e,e2,hd⟩:=Y6 ht hug hz;refine⟨hg.ix a b',_,hg.parent a b',fun b2 bT I' R0 SS B15=>?_⟩;have s2:=s1.put R0 bT;have mD:=hO.put R0 bT;obtain⟨o2,c2,w2,Wp,hk2,hO3,R4⟩:=mD.AK7 YT Mg (x:=(gi W.IC g).parent) SS s2.ext.size B15 (z0b _) Qo Qd YA #[false,false];have s3:=s2.call R4 fun x hm=>(mD.own.lt x hm).1
  refine⟨_,_,_,w2,Wp,hk2,fun J' SD _=>⟨⟨_,l++[(gi W.IC g).parent],o2,c2,rfl,hp,?_,(s3.step SD).sub Qs,(hO3.step SD).sub Qs⟩,?_⟩⟩
  ·rw[List.append_assoc,List.singleton_append,zg1 ht hp,<-hI];unfold zlr;rw[B' hz]
  ·show (dep 3 W.IC (gi W.IC g).parent).toNat<(dep 3 W.IC g).toNat;omega
 ·have hz:g=0:=by simpa using hz
  subst hz
  have hl:l=Cd W (Q7 W t).group:=by
   rw[<-hI];unfold zlr;rw[C' rfl,List.append_nil]
  subst hl;exact⟨oO,oC,rfl,(hO.step hx).own,(s1.step hx).ext⟩
theorem Lc{t c:Int}(h:XQ bs w W m)(wp:XS W)(t0:0<=t)(t1:t<(W.tasks.length:Int))(c0:0<=c)(c1:c<(W.ID.length:Int)):PX bs Us #[.agg (Qa W m).toArray,I t,I c] w (.bool (UD W t c)):=by
 refine Fk fun wr0 rA=>Aq _ _ _ _ _ _ _ _ _ _ t c (R:=fun v w'=>v=.bool (UD W t c)/\Q0 [] wr0 w') ?_
 have h:=(h.ext rA).less (cs:=[]) Qs;have li:((Q7 W t).state != 1)=false->Q6 W.IC (Q7 W t).group=true/\0<=(Q7 W t).IZ/\(Q7 W t).IZ<(W.ID.length:Int):=fun hs=>wp.li t0 t1 (by simpa using hs)
 intro b hb;refine⟨h.t.ix QG t0 t1,_,_,_,_,_,_,_,_,_,h.t t t0 t1,fun b1 dI=>?_⟩;refine⟨fun g=>?_,(gi W.ID (Q7 W t).IZ).cur,fun g=>?_,ZA W t,fun g=>?_,Qw W (Q7 W t).group (Q7 W t).mask,fun g=>?_,_,fun g=>Y2,fun g wr hx=>?_,fun g I' S9 cX=>?_⟩
 ·have g:(((Q7 W t).state != 1)||((Q7 W t).IZ==c))=false:=g;simp only[H'] at g;have:=li g.1;exact h.c.ix ZP this.2.1 this.2.2
 ·have g:(((Q7 W t).state != 1)||((Q7 W t).IZ==c))=false:=g;simp only[H'] at g;have:=li g.1;exact(h.c _ this.2.1 this.2.2).get 1 _ rfl
 ·exact Vi h wp.a t0 t1 fun hs=>wp.li t0 t1 hs
 ·have g:(((((Q7 W t).state != 1)||((Q7 W t).IZ==c))||((gi W.ID (Q7 W t).IZ).cur==t))||(!ZA W t))=false:=g;simp only[H'] at g;exact J6 h wp.a.c2 wp.a.tree (li g.1.1.1).1
 ·have:UD W t c=false:=by
   unfold UD;rw[show ((((((Q7 W t).state != 1)||((Q7 W t).IZ==c))||((gi W.ID (Q7 W t).IZ).cur==t))||(!ZA W t))||(!QX (Qw W (Q7 W t).group (Q7 W t).mask) c))=true from g];rfl
  rw[this]; exact⟨rfl,hx⟩
 have g:((((((Q7 W t).state != 1)||((Q7 W t).IZ==c))||((gi W.ID (Q7 W t).IZ).cur==t))||(!ZA W t))||(!QX (Qw W (Q7 W t).group (Q7 W t).mask) c))=false:=g;have eC:UD W t c = !ztp W (Q7 W t).group c:=by unfold UD; rw[g]; rfl
 simp only[H'] at g;obtain⟨hu,_,_⟩:=li g.1.1.1.1;rw[eC]
 have hbn:∀x∈[b,b1],wr0.heap.size<=x:=by
  intro x hm;simp only[Ii,List.not_mem_nil,or_false] at hm;rcases hm with rfl | rfl
  ·exact hb
  ·exact dI
 refine(Le (h.ext S9) wp.a.tree t0 t1 hu).mono fun e w2 ⟨o,c',he,hO,R0⟩=>⟨_,_,_,he,Qe R0 cX,?_⟩
 have Cu1:=zqg W (Q7 W t).group;have s2:Sc wr0 [b,b1] w2:=⟨S9.trans R0,hbn⟩;have mD:Ob JI 1 Qb I'.heap.size [b,b1] w2 o c' (Cd W (Q7 W t).group):=Ob.of hO cX
 refine Xx (Cd W (Q7 W t).group).length 0 rfl (fun k w3=>k<=(Cd W (Q7 W t).group).length/\Sc wr0 [b,b1] w3/\Ob JI 1 Qb I'.heap.size [b,b1] w3 o c' (Cd W (Q7 W t).group)/\∀j:Nat,j<k->JY W (gi (Cd W (Q7 W t).group) (j:Int)) c=false)
  (fun w3 R4 _=>⟨Ic _,s2.step R4,mD.step R4,fun j hj=>Ir hj (Nat.not_lt_zero j)⟩) fun k w3 _ ⟨hk,s3,hO3,hI⟩=>⟨fun IS=>?_,fun Ry wr hx=>?_⟩
 ·have IS:=Ot IS;have hR:=hO3.rd YT.len;have hgm:=zm9 (l:=Cd W (Q7 W t).group) (i:=(k:Int)) Qo IS;have hW3:=(h.wide (cs:=[b,b1]) fun x hm=>.inr (hbn x hm)).ext s3.ext.of_nil;refine⟨hR.ix Jm Qo IS,_,hR (k:Int) Qo IS,_,KJ hW3 wp.a (zv4 wp.a.tree hu _ hgm) c0 c1,fun gd wr hx=>⟨?_,(s3.step hx).ext⟩,fun gd=>⟨⟨Qo,Qo⟩,fun wr hx _=>Qm Qo ⟨Qo,s3.step hx,hO3.step hx,fun j hj=>?_⟩⟩⟩
  ·have:ztp W (Q7 W t).group c=true:=List.any_eq_true.2 ⟨_,hgm,gd⟩;rw[this]; rfl
  ·by_cases eH:j<k
   ·exact hI j eH
   ·have:j=k:=Qo;subst this; exact gd
 ·have Ry:=Ou Ry;have hkn:k=(Cd W (Q7 W t).group).length:=Qo
  have:ztp W (Q7 W t).group c=false:=by
   cases hd:ztp W (Q7 W t).group c with
   | false=>rfl
   | true=>
    obtain⟨x,hx,hdx⟩:=List.any_eq_true.1 hd;obtain⟨j,hj,hjx⟩:=List.getElem_of_mem hx;have:=hI j Qo;rw[VG hj,hjx,hdx] at this;cases this
  rw[this]; exact⟨rfl,(s3.step hx).ext⟩
end
def z0r(W:Q8)(a b:Int):Bool:=decide (F3 W a>F3 W b)
def MP(W:Q8)(c m:Int):Nat->Int
 | 0 => -1
 | k+1=>if ((QX m (k:Int)&&zqr W (k:Int) c)&&(decide (MP W c m k<0)||z0r W (k:Int) (MP W c m k)))=true then (k:Int) else MP W c m k
theorem ztg{W:Q8}{c m:Int}{k:Nat}(h:((QX m (k:Int)&&zqr W (k:Int) c)&&(decide (MP W c m k<0)||z0r W (k:Int) (MP W c m k)))=true):MP W c m (k+1)=(k:Int):=C' h
theorem zow{W:Q8}{c m:Int}{k:Nat}(h:¬((QX m (k:Int)&&zqr W (k:Int) c)&&(decide (MP W c m k<0)||z0r W (k:Int) (MP W c m k)))=true):MP W c m (k+1)=MP W c m k:=B' h
theorem zwk{p:Nat->Bool}{n:Nat}(h:p n=false):Ts p (n+1)=Ts p n:=by simp[Ts,h]
theorem z8(W:Q8)(c m:Int):∀k:Nat,-1<=MP W c m k/\MP W c m k<k
 | 0=>by simp[MP]
 | k+1=>by
  have:=z8 W c m k;simp only[MP]
  split <;> omega
noncomputable def OF(W:Q8)(c lv:Int):Int:=MP W c (z1p (W.ID.length:Int) c lv) W.ID.length
theorem zza{W:Q8}(wp:XS W){b c:Int}(h:zqr W b c=true):0<=b/\b<(W.ID.length:Int)/\b≠c:=by
 obtain⟨t,ht,hp⟩:=De.1 h;simp only[A',Is] at hp;obtain⟨h1,h2⟩:=Nf hp.2;have:=wp.li (t:=(t:Int)) Qo (by have:=wp.a.t; omega) h1;rw[hp.1] at this h2;exact⟨this.2.1,this.2.2,h2⟩
section
variable {W:Q8}{m:MW}{w:Wo}{bs:List Nat}{p:OA}
theorem EW{s c:Int}(h:XQ bs w W m)(wp:XS W)(c0:0<=c)(c1:c<(W.ID.length:Int)):PX bs Vw #[.agg (Qa W m).toArray,I s,I c] w (I (MP W c s W.ID.length)):=
 Fi _ _ _ _ _ _ _ _ _ _ s c fun wr hx=>by
  have h:=(h.ext hx).less (cs:=[]) Qs;have h4:=wp.a.c2;have iX:=wp.a.t;intro _ _;refine OQ W.ID.length 0 rfl (fun x k=>k<=W.ID.length/\x=MP W c s k) ⟨Ic _,rfl⟩ fun x k ⟨hk,R0⟩=>⟨fun IS=>?_,fun Ry=>?_⟩
  ·subst R0;have IS:=Ot IS;have hr:=z8 W c s k;refine⟨_,fun _=>Y2,_,fun _ _=>Tf h wp,_,fun _ _=>Tf h wp,fun g=>?_,fun g=>?_⟩
   ·refine⟨⟨Qo,Qo⟩,QJ Qo ⟨Qo,?_⟩⟩;rw[zow];intro hc;simp only[A'] at hc;have dE:=(zza wp hc.1.2).2.2;rw[beq_eq_false_iff_ne.2 dE,hc.1.1] at g;simp only[Bool.not_true,Bool.or_self,Bool.false_or,A',Ij] at g;unfold z0r at hc;simp only[Iu,Ij] at hc;omega
   ·simp only[H',I6] at g;obtain⟨⟨g1,g2⟩,g3⟩:=g
    have hb:(decide (MP W c s k<0)||z0r W (k:Int) (MP W c s k))=true:=by
     unfold z0r;simp only[Iu,Ij];simp only[Bool.and_eq_false_iff,decide_eq_false_iff_not] at g3;omega
    refine OQ 12 0 rfl (fun y j=>j<=12/\y=if Ts (fun t=>((Q7 W (t:Int)).IZ==(k:Int))&&UD W (t:Int) c) j=true then (k:Int) else MP W c s k) ⟨Ic _,rfl⟩ fun y j ⟨hj,hy⟩=>⟨fun Rr=>?_,fun aP=>?_⟩
    ·have Rr:=Ot Rr;have tF:j<12:=Qo;refine⟨h.t.ix QG Qo Rr,_,h.t.f Qo Rr (j:=2) rfl,_,fun _=>Lc h wp Qo Rr c0 c1,fun g4=>?_,fun g4=>?_⟩
     ·have g4:(((Q7 W (j:Int)).IZ==(k:Int))&&UD W (j:Int) c)=true:=g4;refine⟨⟨Qo,Qo⟩,QJ tF ⟨Qo,?_⟩⟩;rw[C'];simp only[Ts,Iu];exact .inr g4
     ·have g4:(((Q7 W (j:Int)).IZ==(k:Int))&&UD W (j:Int) c)=false:=g4;refine⟨⟨Qo,Qo⟩,QJ tF ⟨Qo,?_⟩⟩;rw[hy,zwk (p:=fun t=>((Q7 W (t:Int)).IZ==(k:Int))&&UD W (t:Int) c) g4]
    ·have aP:=Ou aP;have:j=12:=Qo;subst this;refine⟨⟨Qo,Qo⟩,QJ Qo ⟨Qo,?_⟩⟩;rw[hy];show (if zqr W (k:Int) c=true then (k:Int) else MP W c s k)=_
     cases ha:zqr W (k:Int) c with
     | true=>rw[ztg (by rw[g2,ha,hb]; rfl),C' rfl]
     | false=>rw[zow (by rw[ha]; simp),B' Qd]
  ·have Ry:=Ou Ry;have:k=W.ID.length:=Qo;subst this;rw[R0]
end
theorem F4(m:Int):∀k:Nat,Kj m k=((LJ m k).length:Int)
 | 0=>rfl
 | k+1=>by
  simp only[Kj]
  cases h:QX m (k:Int) with
  | true=>rw[C' rfl,F8 h,F4 m k]; simp
  | false=>rw[B' Qd,zb0 h,F4 m k]
theorem zjm{fn:Func}{t:Tmp}(h:fn.results=#[.tmp t]){tmps:Array Va}{w:Wo}{P:Program}:(results fn tmps).run P w=.ok (tmps.getD t undef) w:=by
 simp[results,h]
theorem zkc:JG Tryz.f60=zn5 YO (.seq (.seq XL (.block 0 (.rangeFunc (.tmp 5) #[6] .skip Xr))) Xs):=Qk
theorem Bp{m:Int}{w:Wo}:Cz Mx #[.int .i64 m] w fun e w'=>e=.returned (.int .i64 (Kj m 4))/\Q0 [] w w':=by
 refine Ev (args:=[.int .i64 m]) (n:=10) Tryz.func60 (body:=JG Tryz.f60) rfl Qk Qs fun a hn ha hd=>?_
 rw[zkc];have a0:=ha 0 _ rfl;refine G7 none (R:=fun e vs w1=>e=.normal/\∃b:Nat,vs=[.pointer (some ⟨b,0,none⟩)]/\w.heap.size<=b/\(∃t,w1.heap[b]? = some (.cells ([.int .i64 0]:List Va).toArray t (0,0)))/\Q0 [] w w1) hn ?_ ?_ ?_ (fun e vs a1 w1 dE hR _=>Ir hR.1 dE)
 ·intro p hp;cases hp
 ·intro b wb hx hb0 Wr _;refine⟨MH (k0:=0) Wr Qs Qs,fun wr R0=>?_⟩;have e1:Q0 [b] wb (Rl wb (some ⟨b,0,none⟩) 0 [.int .i64 0]):=JV (bs:=[b]) Qs;refine⟨rfl,b,rfl,hb0,⟨_,QM (Ol (vs:=[.int .i64 0]) (n:=0) Wr) R0 Qs⟩,hx.fresh (e1.trans R0.of_nil) fun x hm=>.inl ?_⟩;have:x=b:=by simpa using hm
  omega
 rintro vs a2 w1 ⟨_,b,rfl,hwb,hB,hX⟩ fo
 have o3:a2.tmps.getD 3 undef=.pointer (some ⟨b,0,none⟩):=by
  have:=fo.out
  simpa using this
 have o0:a2.tmps.getD 0 undef=.int .i64 m:=(fo.kept 0 (by decide +kernel)).trans a0;refine wpIn_seq (wpIn_seq (G6 none m (R:=fun e vs w2=>e=.normal/\∃bm:Nat,vs=[.func (.func QH) #[] #[.pointer (some ⟨bm,0,none⟩)]]/\Q1 [] w2 (some ⟨bm,0,none⟩) 0 [.int .i64 m]/\w1.heap.size<=bm/\Q0 [] w1 w2) (by rw[fo.size,hn]) (fun p hp=>?_) (fun wr hx _=>?_) fun e vs a3 w2 hR fo3=>?_))
 ·simp only[Ii,List.not_mem_nil,or_false] at hp;subst hp;exact⟨Ik rfl,o0⟩
 ·refine(zgk (m:=m)).mono fun e w2 ⟨bm,hbm,he,hcm,R4⟩=>⟨_,_,_,he,Yf,fun I' SD=>⟨rfl,bm,rfl,hcm.ext SD,by have:=hx.size; omega,(hx.trans R4).trans SD⟩⟩
 obtain⟨rfl,bm,rfl,hcm,hbm,R0⟩:=hR
 have p5:a3.tmps.getD 5 undef=.func (.func QH) #[] #[.pointer (some ⟨bm,0,none⟩)]:=by
  have:=fo3.out
  simpa using this
 have p3:=(fo3.kept 3 (by decide +kernel)).trans o3;have A80:a3.tmps.size=10:=by rw[fo3.size,fo.size,hn]
 have hd3:a3.defers=[]:=by rw[fo3.defers,fo.defers,hd]
 have hX2:=hX.trans R0;obtain⟨t0,hB⟩:=hB;have hB2:=QM hB R0 Qs;have hbL:=JF hB;have Ce7:=JF hB2;have Cf4:=zox hcm
 have hlen:(LJ m 4).length<=4:=by
  have:=(DA m 4).2;rw[F4] at this;omega
 refine wpIn_block (zvb (gf:=QH) (lb:=#[.pointer (some ⟨bm,0,none⟩)]) p5 (enters_of Tryz.func233 Qk rfl)
  (fun k W1=>(∃t,W1.heap[b]? = some (.cells ([.int .i64 (k:Int)]:List Va).toArray t (0,0)))/\Q1 [] W1 (some ⟨bm,0,none⟩) 0 [.int .i64 m]/\Q0 [] w W1)
  (fun _ _=>False) (LJ m 4).length (fun k=>[.int .i64 (gi (LJ m 4) (k:Int))])
  (fun k W1 W2 ys h hx hy=>⟨h.1.imp fun _ h=>QM h hx fun hm=>by have:=hy _ hm; omega,GY h.2.1 hx fun hm=>by have:=hy _ hm; omega,h.2.2.fresh hx fun x hm=>.inl (by have:=hy x hm; have:=hX2.size; omega)⟩)
  (fun cd W1 W2 ys h hx hy=>h)
  ⟨⟨t0,hB2⟩,hcm,hX2⟩ (fun k=>rfl) (za8 (m:=m) (bm:=bm) (w:=w2) (I:=fun k W1=>(∃t,W1.heap[b]? = some (.cells ([.int .i64 (k:Int)]:List Va).toArray t (0,0)))/\Q1 [] W1 (some ⟨bm,0,none⟩) 0 [.int .i64 m]/\Q0 [] w W1) (fun k W1 h=>h.2.1)) ?_ ?_ (fun D c W _ h _=>h.elim))
 ·rintro l k W hk ⟨⟨t1,hb⟩,hc,hXW⟩ hl;rw[zko];refine wpIn_skip ⟨⟨[],Q0.refl _ _,Qs⟩,fun W2 Sg=>?_⟩
  have hbn:b∉[l]:=fun hm=>by
   have:b=l:=by simpa using hm
   omega
  have hb5:=QM hb Sg hbn
  have hX5:Q0 [] w W2:=hXW.fresh Sg fun x hm=>.inl (by
   have:x=l:=by simpa using hm
   have:=hX2.size;omega)
  have hc5:=GY hc Sg fun hm=>by
   have:bm=l:=by simpa using hm
   omega
  have q3:(a3.tmps.setIfInBounds 6 (.int .i64 (gi (LJ m 4) (k:Int)))).getD 3 undef=.pointer (some ⟨b,0,none⟩):=(Gb (i:=6) (j:=3) Qd).trans p3;refine Lo (some l) (some ⟨b,0,none⟩) (R:=fun e _ W3=>e=.normal/\(∃X,Q0 X W2 W3/\∀x∈X,x<w2.heap.size)/\(∃t,W3.heap[b]? = some (.cells ([.int .i64 ((k:Int)+1)]:List Va).toArray t (0,0)))/\Q1 [] W3 (some ⟨bm,0,none⟩) 0 [.int .i64 m]/\Q0 [] w W3) (by simpa using A80) (fun p hp=>?_) ⟨(k:Int),zj7 ⟨_,hb5⟩,⟨Qo,Qo⟩,MH (k0:=0) hb5 Qs Qs,fun wr hx=>?_⟩ fun e vs a5 W3 hR _=>?_
  ·simp only[Ii,List.not_mem_nil,or_false] at hp;subst hp;exact⟨Ik rfl,q3⟩
  ·have e1:Q0 [b] W2 (Rl W2 (some ⟨b,0,none⟩) 0 [.int .i64 ((k:Int)+1)]):=JV (bs:=[b]) Qs;have eX:Q0 [b] W2 wr:=e1.trans hx.of_nil;refine⟨rfl,⟨[b],eX,fun x hm=>?_⟩,⟨t1,?_⟩,GY hc5 eX fun hm=>?_,hX5.fresh eX fun x hm=>.inl ?_⟩
   ·have:x=b:=by simpa using hm
    omega
   ·exact QM (Ol (vs:=[.int .i64 ((k:Int)+1)]) (n:=0) hb5) hx Qs
   ·have:bm=b:=by simpa using hm
    omega
   ·have:x=b:=by simpa using hm
    omega
  ·obtain⟨rfl,hX3,h3,h4⟩:=hR;exact⟨hX3,h3,h4⟩
 ·intro D W hD ⟨⟨t1,hb⟩,hc,hXW⟩ hdD;refine Lp none (some ⟨b,0,none⟩) (R:=fun e vs W1=>e=.ret/\vs=[.int .i64 (Kj m 4)]/\Q0 [] W W1) A80 (fun p hp=>?_) ⟨_,zj7 ⟨_,hb⟩,fun wr hx=>⟨rfl,by rw[F4],hx⟩⟩ fun e vs a6 W1 hR fo6=>?_
  ·simp only[Ii,List.not_mem_nil,or_false] at hp;subst hp;exact⟨Ik rfl,p3⟩
  ·obtain⟨rfl,rfl,aO⟩:=hR
   have hr:∀w',(results Tryz.f60 a6.tmps).run Tryz.prog w'=.ok (.int .i64 (Kj m 4)) w':=fun w'=>by
    rw[zjm (t:=2) Qk];have:=fo6.out;simp only[List.map_cons,List.map_nil,I4,and_true] at this;rw[this]
   exact(znk (D:=D) (by rw[fo6.defers]; simp[hd3]) ((aO.block D (Array.getElem?_eq_some_iff.1 hdD).1 Qs).trans hdD) hr fun w' hx=>⟨rfl,(hXW.trans aO).fresh hx fun x hm=>.inl (by
    have:x=D:=by simpa using hm
    have:=hX2.size;omega)⟩).2
section
variable {W:Q8}{m:MW}{w:Wo}{bs:List Nat}{p:OA}
end
theorem zjv(cs:List Mj){c:Int}(c0:0<=c):∀k:Nat,k<=4->c<(k:Int)->(gi cs c).up=true->QX (Ux cs k) c=true
 | 0,_,h,_=>by omega
 | k+1,hk,h,hu=>by
  have hl:=Hf cs k Qo
  have hb:JX k<=8:=by
   have:k=0\/k=1\/k=2\/k=3:=Qo;rcases this with rfl | rfl | rfl | rfl <;> decide
  have key:=zkv ⟨k,Qo⟩ ⟨(Ux cs k).toNat,Qo⟩ ⟨c.toNat,Qo⟩;rw[show ((⟨(Ux cs k).toNat,Qo⟩:Fin 8).val:Int)=Ux cs k by show (((Ux cs k).toNat:Nat):Int)=Ux cs k; omega,show ((⟨c.toNat,Qo⟩:Fin 4).val:Int)=c by show ((c.toNat:Nat):Int)=c; omega] at key;simp only[Ux]
  by_cases e:c=(k:Int)
  ·subst e;rw[C' hu,key hl.2];simp
  ·have ih:=zjv cs c0 k Qo Qo hu;split
   ·rw[key hl.2,ih]; simp
   ·exact ih
theorem N9{cs:List Mj}(h4:cs.length<=4){c:Int}(c0:0<=c)(c1:c<(cs.length:Int))(hu:(gi cs c).up=true):Ju cs≠0:=fun e=>by
 have h:=zjv cs c0 cs.length h4 c1 hu;rw[show Ux cs cs.length=0 from e] at h;have hr:=O7 h;have:c=0\/c=1\/c=2\/c=3:=Qo;rcases this with rfl | rfl | rfl | rfl <;> exact Ir h Qd
theorem zul{m c:Int}(c0:0<=c)(c4:c<4)(h:QX m c=true)(hn:∀j:Int,0<=j->j<4->j≠c->QX m j=false):Kj m 4=1:=by
 have h0:=hn 0 Qd Qd;have h1:=hn 1 Qd Qd;have h2:=hn 2 Qd Qd;have h3:=hn 3 Qd Qd;have i0:((0:Nat):Int)=0:=rfl;have i1:((1:Nat):Int)=1:=rfl;have i2:((2:Nat):Int)=2:=rfl;have i3:((3:Nat):Int)=3:=rfl;have:c=0\/c=1\/c=2\/c=3:=Qo;simp only[Kj,i0,i1,i2,i3];rcases this with rfl | rfl | rfl | rfl
 ·have e1:=h1 Qd; have e2:=h2 Qd; have e3:=h3 Qd; simp[h,e1,e2,e3]
 ·have e1:=h0 Qd; have e2:=h2 Qd; have e3:=h3 Qd; simp[h,e1,e2,e3]
 ·have e1:=h0 Qd; have e2:=h1 Qd; have e3:=h3 Qd; simp[h,e1,e2,e3]
 ·have e1:=h0 Qd; have e2:=h1 Qd; have e3:=h2 Qd; simp[h,e1,e2,e3]
theorem zso{cs:List Mj}(h4:cs.length<=4){c:Int}(c0:0<=c)(c1:c<(cs.length:Int))(hu:(gi cs c).up=true)(hn:Kj (Ju cs) 4≠1):∃j:Int,0<=j/\j<(cs.length:Int)/\j≠c/\(gi cs j).up=true:=by
 refine Classical.byContradiction fun dE=>hn (zul c0 Qo (zjv cs c0 cs.length h4 c1 hu) fun j j0 j4 hj=>?_)
 cases h:QX (Ju cs) j with
 | false=>rfl
 | true=>
  obtain⟨a,b⟩:=CD cs (c:=j) cs.length h4 h;exact Ir ⟨j,j0,a,hj,b⟩ dE
theorem SW.RM{K:Int}{W:Q8}(h:SW K W){c:Int}(c0:0<=c)(c1:c<(W.ID.length:Int)){x:Mj}(hu:Ju (W.ID.set c.toNat x)≠0)(h1 : -1<=x.cur)(h2:x.cur<12):SW K (RM W c x):=by
 have hl:(W.ID.set c.toNat x).length=W.ID.length:=E';have hg:∀d:Int,0<=d->gi (W.ID.set c.toNat x) d=if c=d then x else gi W.ID d:=fun d d0=>QE _ _ c0 c1 d0
 refine⟨h.a.cp hl hu,fun t a b n=>?_,h.tv,fun k d u a b=>?_,fun d a b=>?_⟩
 ·show _/\_/\_<(((W.ID.set c.toNat x).length:Nat):Int);rw[hl];exact h.t t a b n
 ·have b:d<(((W.ID.set c.toNat x).length:Nat):Int):=b;rw[hl] at b;exact h.s k d u a b
 ·have b:d<(((W.ID.set c.toNat x).length:Nat):Int):=b;rw[hl] at b;show _<=(gi (W.ID.set c.toNat x) d).cur/\(gi (W.ID.set c.toNat x) d).cur<12;rw[hg _ a];split
  ·exact⟨h1,h2⟩
  ·exact h.cu d a b
noncomputable def ZY(W:Q8)(c:Int)(up:Bool)(last:Int):Int:=if X9 W c=false then 1 else if (gi W.ID c).up≠up then 6 else if last≠0 then last else if QQ W=false then 10 else 0
theorem zia{W:Q8}{c:Int}{up:Bool}{last:Int}(h:ZY W c up last=0):X9 W c=true/\(gi W.ID c).up=up/\last=0/\QQ W=true:=by
 unfold ZY at h
 split at h
 ·cases h
 ·rename_i h1
  split at h
  ·cases h
  ·rename_i h2
   split at h
   ·rename_i h3; exact Ir h h3
   ·rename_i h3
    split at h
    ·cases h
    ·rename_i h4;exact⟨by simpa using h1,by simpa using h2,Qo,by simpa using h4⟩
theorem Mr{W:Q8}{c:Int}{up:Bool}{last:Int}(h1:X9 W c=true)(h2:(gi W.ID c).up=up)(h3:last=0):ZY W c up last=if QQ W=false then 10 else 0:=by
 unfold ZY;rw[B' (by rw[h1]; decide),B' (by simpa using h2),B' (by simpa using h3)]
def Mh(x:Mj)(b:Bool):Mj:={ x with up:=b }
def zj1(W:Q8)(c:Int):Q8:=Qg (P9 (RM W c (Mh (gi W.ID c) true)))
def U0(W:Q8):Int:=if Kj (Ju W.ID) 4=1 then 5 else 0
def Lu(W:Q8)(c:Int):Q8:=Qg (P9 (Rn (RM W c (Mh (gi W.ID c) false)) c))
theorem zld{W:Q8}{c:Int}(hW:Qx W=true)(hb:ZY W c false 0=0):0<=c/\c<(W.ID.length:Int)/\SF Qj (Qj+Qi) W/\SF Qj (Qj+Qi) (RM W c (Mh (gi W.ID c) true)):=by
 obtain⟨h1,h2,_,h4⟩:=zia hb;have wp:=Ql.1 hW;have sw:=Md wp (Ql.1 h4);obtain⟨c0,c1⟩:=VT h1;have hcu:=sw.cu c c0 c1;have hl:(W.ID.set c.toNat (Mh (gi W.ID c) true)).length=W.ID.length:=E';have hc2:=wp.a.c2;exact⟨c0,c1,Kv sw,Kv (sw.RM c0 c1 (x:=Mh (gi W.ID c) true) (N9 Qo c0 Qo (by rw[QE _ _ c0 c1 c0,C' rfl]; rfl)) hcu.1 hcu.2)⟩
theorem zb5{W:Q8}{c:Int}(hW:Qx W=true)(hb:ZY W c true (U0 W)=0):0<=c/\c<(W.ID.length:Int)/\SF Qj (Qj+Qi) W/\SF Qj (Qj+Qi) (RM W c (Mh (gi W.ID c) false)):=by
 obtain⟨h1,h2,h3,h4⟩:=zia hb;have wp:=Ql.1 hW;have sw:=Md wp (Ql.1 h4);obtain⟨c0,c1⟩:=VT h1;have hcu:=sw.cu c c0 c1;have hl:(W.ID.set c.toNat (Mh (gi W.ID c) false)).length=W.ID.length:=E';have hc2:=wp.a.c2;have hn:Kj (Ju W.ID) 4≠1:=fun e=>by unfold U0 at h3; rw[C' e] at h3; cases h3
 obtain⟨j,j0,j1,jc,hj⟩:=zso hc2 c0 c1 h2 hn;exact⟨c0,c1,Kv sw,Kv (sw.RM c0 c1 (x:=Mh (gi W.ID c) false) (N9 Qo j0 Qo (by rw[QE _ _ c0 c1 j0,B' fun e=>jc e.symm]; exact hj)) hcu.1 hcu.2)⟩
theorem EG(W:Q8)(c:Int)(x:Mj)(m:MW):Qa (RM W c x) m=Qa W m:=by simp[Qa,RM]
section
variable {W W':Q8}{m:MW}{w:Wo}
theorem EQ{c:Int}(h:XQ [] w W m)(hl:UN W) :
  Cz Of #[.agg (Qa W m).toArray,I c] w fun e w'=>∃v,e=.returned v/\QL (Yp W (ZY W c false 0) (zj1 W c)) w v w':=by
 refine zii _ _ _ _ _ _ _ _ _ _ c (R:=fun v w'=>QL (Yp W (ZY W c false 0) (zj1 W c)) w v w') ?_;intro y hy y1 bE wr R0 SS;have hm9:=ZH;have hlc:=hl.c;refine I3 (Zc (h.ext R0) hl) ?_;rintro e wv (⟨hW,he,Sn⟩ | ⟨hW,m',he,hM,Sn⟩)
 ·exact⟨_,_,_,_,_,_,_,_,_,_,_,he,Qe Sn SS,fun g=>by simp at g,true,fun g=>by simp at g,fun _ I' R4=>QL.bad hW ((R0.trans Sn).fresh R4 fun z hm=>.inl (Yi hy bE z hm)),fun g=>by simp at g⟩
 have hK:=Wk.begin hy bE R0 SS hM Sn;have hr:=hK.rd;have wp:=Ql.1 hW;have hm0:=XA;refine⟨_,_,_,_,_,_,_,_,_,_,_,he,Qe Sn SS,fun _=>⟨Qo,Qo⟩,X9 W c,fun _=>Qp,fun g I' R4=>?_,fun g=>?_⟩
 ·have g:X9 W c=false:=by
   cases hc:X9 W c with
   | false=>rfl
   | true=>rw[hc] at g; split at g <;> simp at g
  have hb:ZY W c false 0=1:=by unfold ZY; rw[C' g]
  exact QL.no hW (by rw[hb]; decide) (hK.step R4) hb
 have g:X9 W c=true:=by
  cases hc:X9 W c with
  | true=>rfl
  | false=>rw[hc] at g; simp at g
 obtain⟨c0,c1⟩:=VT g;refine⟨hr.c.ix ZP c0 c1,_,hr.c.f c0 c1 (j:=0) rfl,fun g2 J' R4=>?_,fun g2=>⟨fun g3 Rp R4=>?_,fun g3=>?_⟩⟩
 ·have hb:ZY W c false 0=6:=by unfold ZY; rw[B' (by rw[g]; decide),C' (by rw[g2]; decide)]
  exact QL.no hW (by rw[hb]; decide) (hK.step R4) hb
 ·have aQ:¬QQ W=true:=fun hr=>by rw[C' hr] at g3; simp at g3
  have hb:ZY W c false 0=10:=by rw[Mr g g2 rfl,C' (by simpa using aQ)]
  rw[B' aQ];exact QL.no hW (by rw[hb]; decide) (hK.step R4) hb
 have aQ:QQ W=true:=Iq fun hr=>by rw[B' hr] at g3; simp at g3
 have hb:ZY W c false 0=0:=by rw[Mr g g2 rfl,B' (by rw[aQ]; decide)]
 obtain⟨_,_,_,sf⟩:=zld hW hb;have SE:Wk 8 [y,y1] w (Rl wv m'.cO (Int.toNat c*5+0) [.bool true]) (RM W c (Mh (gi W.ID c) true)) m':=hK.Rl (hK.own.AV0 c0 c1 (j:=0) (vs:=[.bool true]) (x:=Mh (gi W.ID c) true) rfl Qs) C9;refine⟨hr.c.ix ZP c0 c1,zst hK.own hK.nb c0 c1 Qd,fun Rt SD cJ=>?_⟩;have e5:Qa (RM W c (Mh (gi W.ID c) true)) m'=Qa W m':=EG _ _ _ _;have hE:zj1 W c=Qg (P9 (RM W c (Mh (gi W.ID c) true))):=rfl;rw[hE];generalize RM W c (Mh (gi W.ID c) true)=V at SE sf e5;have dB:=SE.step SD;have Rg:=Js dB.own sf (I2 _) (by simp only[Qi]; decide);rw[e5] at Rg;refine I3 Rg ?_;rintro e1 R1 ⟨fJ,fK⟩;refine⟨_,_,_,_,_,_,_,_,_,_,fJ,dB.kept fK cJ,fun RH Sg jO=>?_⟩;have cQ:=(dB.Sj fK cJ).step Sg;have WZ:=Qv cQ.own (Pq sf (I2 _)).1.w (by simp only[Qi]; decide) (by simp only[Qi]; decide) cQ.base;rw[EH sf (I2 _),e5] at WZ;refine I3 WZ ?_;rintro e2 Rx ⟨m2,aE,fL⟩;exact⟨_,_,_,_,_,_,_,_,_,_,aE,cQ.kept fL jO,fun Sf aO=>QL.ok hW hb ((cQ.Sj fL jO).step aO)⟩
theorem HS{c:Int}(h:XQ [] w W m)(hl:UN W) :
  Cz T1 #[.agg (Qa W m).toArray,I c] w fun e w'=>∃v,e=.returned v/\QL (Yp W (ZY W c true (U0 W)) (Lu W c)) w v w':=by
 refine zeo _ _ _ _ _ _ _ _ _ _ c (R:=fun v w'=>QL (Yp W (ZY W c true (U0 W)) (Lu W c)) w v w') ?_;intro y hy y1 bE wr R0 SS;have hm0:=XA;have hlc:=hl.c;refine I3 (Zc (h.ext R0) hl) ?_;rintro e wv (⟨hW,he,Sn⟩ | ⟨hW,m',he,hM,Sn⟩)
 ·exact⟨_,_,_,_,_,_,_,_,_,_,_,he,Qe Sn SS,fun g=>by simp at g,true,fun g=>by simp at g,fun _ I' R4=>QL.bad hW ((R0.trans Sn).fresh R4 fun z hm=>.inl (Yi hy bE z hm)),fun g=>by simp at g⟩
 have hK:=Wk.begin hy bE R0 SS hM Sn;have hr:=hK.rd;have wp:=Ql.1 hW;refine⟨_,_,_,_,_,_,_,_,_,_,_,he,Qe Sn SS,fun _=>⟨Qo,Qo⟩,X9 W c,fun _=>Qp,fun g I' R4=>?_,fun g=>?_⟩
 ·have g:X9 W c=false:=by
   cases hc:X9 W c with
   | false=>rfl
   | true=>rw[hc] at g; split at g <;> simp at g
  have hb:ZY W c true (U0 W)=1:=by unfold ZY; rw[C' g]
  exact QL.no hW (by rw[hb]; decide) (hK.step R4) hb
 have g:X9 W c=true:=by
  cases hc:X9 W c with
  | true=>rfl
  | false=>rw[hc] at g; simp at g
 obtain⟨c0,c1⟩:=VT g;refine⟨hr.c.ix ZP c0 c1,_,hr.c.f c0 c1 (j:=0) rfl,fun g2 J' R4=>?_,fun g2=>⟨_,KK hr wp.a.c2,_,By,fun g3 Rp R4=>?_,fun g3=>⟨fun g4 Rt R4=>?_,fun g4=>?_⟩⟩⟩
 ·have g2:(gi W.ID c).up=false:=by simpa using g2
  have hb:ZY W c true (U0 W)=6:=by unfold ZY; rw[B' (by rw[g]; decide),C' (by rw[g2]; decide)]
  exact QL.no hW (by rw[hb]; decide) (hK.step R4) hb
 ·have g2:(gi W.ID c).up=true:=by simpa using g2
  have hL:U0 W=5:=by unfold U0; rw[C' (by simpa using g3)]
  have hb:ZY W c true (U0 W)=5:=by unfold ZY; rw[B' (by rw[g]; decide),B' (by rw[g2]; decide),hL,C' Qd]
  exact QL.no hW (by rw[hb]; decide) (hK.step R4) hb
 ·have g2:(gi W.ID c).up=true:=by simpa using g2
  have hL:U0 W=0:=by unfold U0; rw[B' (by simpa using g3)]
  have aQ:¬QQ W=true:=fun hr=>by rw[C' hr] at g4; simp at g4
  have hb:ZY W c true (U0 W)=10:=by rw[Mr g g2 hL,C' (by simpa using aQ)]
  rw[B' aQ];exact QL.no hW (by rw[hb]; decide) (hK.step R4) hb
 have g2:(gi W.ID c).up=true:=by simpa using g2
 have hL:U0 W=0:=by unfold U0; rw[B' (by simpa using g3)]
 have aQ:QQ W=true:=Iq fun hr=>by rw[B' hr] at g4; simp at g4
 have hb:ZY W c true (U0 W)=0:=by rw[Mr g g2 hL,B' (by rw[aQ]; decide)]
 obtain⟨_,_,_,sf⟩:=zb5 hW hb;have SE:Wk 8 [y,y1] w (Rl wv m'.cO (Int.toNat c*5+0) [.bool false]) (RM W c (Mh (gi W.ID c) false)) m':=hK.Rl (hK.own.AV0 c0 c1 (j:=0) (vs:=[.bool false]) (x:=Mh (gi W.ID c) false) rfl Qs) C9;refine⟨hr.c.ix ZP c0 c1,zst hK.own hK.nb c0 c1 Qd,fun RH Sg jO=>?_⟩;have e5:Qa (RM W c (Mh (gi W.ID c) false)) m'=Qa W m':=EG _ _ _ _;have hlV:(RM W c (Mh (gi W.ID c) false)).ID.length=W.ID.length:=by simp[RM]
 have hE:Lu W c=Qg (P9 (Rn (RM W c (Mh (gi W.ID c) false)) c)):=rfl;rw[hE];generalize RM W c (Mh (gi W.ID c) false)=V at SE sf e5 hlV;have c1V:c<(V.ID.length:Int):=by rw[hlV]; exact c1
 have dB:=SE.step Sg;have BZ4:=Zw dB.own c0 c1V;rw[e5] at BZ4;refine I3 BZ4 ?_;rintro e0 wv0 ⟨he0,hy0⟩;refine⟨_,_,_,_,_,_,_,_,_,_,he0,dB.kept hy0 jO,fun Sf aO hs6=>?_⟩;have sfE:=sf.Rn c0 c1V;have tE:=(dB.Sj hy0 jO).step aO;generalize Rn V c=U at tE sfE;have Rg:=Js tE.own sfE (I2 _) (by simp only[Qi]; decide);refine I3 Rg ?_;rintro e1 R1 ⟨fJ,fK⟩;refine⟨_,_,_,_,_,_,_,_,_,_,fJ,tE.kept fK hs6,fun SH jH hs7=>?_⟩;have hK7:=(tE.Sj fK hs6).step jH;have WZ:=Qv hK7.own (Pq sfE (I2 _)).1.w (by simp only[Qi]; decide) (by simp only[Qi]; decide) hK7.base;rw[EH sfE (I2 _)] at WZ;refine I3 WZ ?_;rintro e2 Rx ⟨m2,aE,fL⟩;exact⟨_,_,_,_,_,_,_,_,_,_,aE,hK7.kept fL hs7,fun SZ oZ=>QL.ok hW hb ((hK7.Sj fL hs7).step oZ)⟩
theorem za9{base pb:Nat}{cap cap1 BY0 BY1:OA}{c:Int}{up:Bool}{last:Int}{lf cf:Fn}{la lk ca ck:Array Va}(h:PW base pb w W m)(hW:Qx W=true)(h0:Q1 [] w cap 0 [I c])(h1:Q1 [] w cap1 0 [.bool up])(h2:Q1 [] w BY0 0 [.func lf la lk])(h3:Q1 [] w BY1 0 [.func cf ca ck])(AW0:∀w1,Q0 [] w w1->Ov Tryz.prog (.func lf la lk) [.pointer (pA pb)] w1 fun e w2=>(last≠0/\e=.returned (.iface QY (.agg #[I last]))\/last=0/\e=.returned .nilIface)/\Q0 [] w1 w2)(Rg:ZY W c up last=0->∀w1,Q0 [] w w1->Ov Tryz.prog (.func cf ca ck) [.pointer (pA pb),.agg #[.pointer (pA pb),I c]] w1 fun e w2=>e=.returned (.tuple #[])/\∃m2,LK base pb [] w1 m w2 W' m2) :
  Cz XF #[.pointer (pA pb),.pointer cap,.pointer cap1,.pointer BY0,.pointer BY1] w fun e w2=>(ZY W c up last≠0/\e=.returned (.iface QY (.agg #[I (ZY W c up last)]))/\Q0 [] w w2)\/(ZY W c up last=0/\e=.returned .nilIface/\∃m2,LK base pb [] w m w2 W' m2):=by
 have wp:=Ql.1 hW;have hp:=(Mp.start h).wpt
 refine(Hw (pA pb) cap cap1 BY0 BY1 (R:=fun v w2=>(ZY W c up last≠0/\v=.iface QY (.agg #[I (ZY W c up last)])/\Q0 [] w w2)\/(ZY W c up last=0/\v=.nilIface/\∃m2,LK base pb [] w m w2 W' m2)) ?_).mono fun e w' ⟨v,he,h3⟩=>by
  rw[he];rcases h3 with ⟨a,b,c⟩ | ⟨a,b,c⟩
  ·exact .inl ⟨a,by rw[b],c⟩
  ·exact .inr ⟨a,by rw[b],c⟩
 have hc2:=wp.a.c2;have hm9:=ZH;refine⟨c,h0,X9 W c,Aw hp Qo,fun g wr hx=>.inl ?_,fun g=>?_⟩
 ·have hb:ZY W c up last=1:=by unfold ZY; rw[C' (by simpa using g)]
  rw[hb];exact⟨Qd,rfl,hx⟩
 have g:X9 W c=true:=by simpa using g
 obtain⟨c0,c1⟩:=VT g;refine⟨hp.some,_,_,_,hp.ID,c,h0,hp.rd.c.ix ZP c0 c1,_,hp.rd.c.f c0 c1 (j:=0) rfl,up,h1,fun g2 wr hx=>.inl ?_,fun g2=>⟨lf,la,lk,h2,fun wr hx _=>?_⟩⟩
 ·have g2:(gi W.ID c).up≠up:=by simpa using g2
  have hb:ZY W c up last=6:=by unfold ZY; rw[B' (by rw[g]; decide),C' g2]
  rw[hb];exact⟨Qd,rfl,hx⟩
 have g2:(gi W.ID c).up=up:=by simpa using g2
 refine(AW0 wr hx).mono fun e w2 ⟨hA,hy⟩=>?_
 rcases hA with ⟨a1,a2⟩ | ⟨a1,a2⟩
 ·have hb:ZY W c up last=last:=by unfold ZY; rw[B' (by rw[g]; decide),B' (by simpa using g2),C' a1]
  refine⟨_,a2,Yf,true,fun wq=>by kernel_rfl,fun _ Rp R4=>.inl ?_,fun g=>by cases g⟩;rw[hb];exact⟨a1,rfl,(hx.trans hy).trans R4⟩
 ·have hM:=(Mp.start h).nil (hx.trans hy);have fG:=hM.wpt;refine⟨_,a2,Yf,false,fun wq=>by kernel_rfl,fun g=>(by cases g),fun _=>⟨_,ziz fG wp.a,fun g3 Rt SD=>.inl ?_,fun g3=>?_⟩⟩
  ·have g3:QQ W=false:=by simpa using g3
   have hb:ZY W c up last=10:=by rw[Mr g g2 a1,C' g3]
   rw[hb];exact⟨Qd,rfl,(hx.trans hy).trans SD⟩
  have g3:QQ W=true:=by simpa using g3
  have hb:ZY W c up last=0:=by rw[Mr g g2 a1,B' (by rw[g3]; decide)]
  refine⟨cf,ca,ck,h3.ext (hx.trans hy),c,h0.ext (hx.trans hy),pA pb,c,XI,fun RH Sg _=>?_⟩;refine(Rg hb RH ((hx.trans hy).trans Sg)).mono fun e1 w3 ⟨b1,m2,b2⟩=>?_
  exact⟨b1,Yf,fun Sf aO=>.inr ⟨hb,rfl,m2,(b2.pre ((hx.trans hy).trans Sg)).post aO⟩⟩
theorem EM{c:Int}{up:Bool}{last:Int}{lf cf:Fn}{la lk ca ck:Array Va}(h:XQ [] w W m)(hl:UN W)(hg:PA w)(AW0:∀(base pb:Nat) (w1:Wo) (m1:MW),Qx W=true->PW base pb w1 W m1->Ov Tryz.prog (.func lf la lk) [.pointer (pA pb)] w1 fun e w2=>(last≠0/\e=.returned (.iface QY (.agg #[I last]))\/last=0/\e=.returned .nilIface)/\Q0 [] w1 w2)(Rg:∀(base pb:Nat) (w1:Wo) (m1:MW),Qx W=true->ZY W c up last=0->Q0 [] w w1->w.heap.size<=base->base<=pb->PW base pb w1 W m1->Ov Tryz.prog (.func cf ca ck) [.pointer (pA pb),.agg #[.pointer (pA pb),I c]] w1 fun e w2=>e=.returned (.tuple #[])/\∃m2,LK base pb [] w1 m1 w2 W' m2) :
  Cz Jo #[.agg (Qa W m).toArray,I c,.bool up,.func lf la lk,.func cf ca ck] w fun e w'=>∃v,e=.returned v/\QL (Yp W (ZY W c up last) W') w v w':=by
 refine Ex _ _ _ _ _ _ _ _ _ _ c up lf la lk cf ca ck (R:=fun v w'=>QL (Yp W (ZY W c up last) W') w v w') ?_;intro x hx b1 wb S9 dI tN hn1 b2 wb1 hxb bT hc2 hn2 b3 wb2 B48 hb3 hc3 hn3 b4 wb3 Bn9 hb4 hc4 hn4 b5 hb5 wr R0 hs;have hX0:Q0 [] w wb1:=S9.fresh hxb fun y hy=>.inl (Cp hy hx)
 have hX1:Q0 [] w wb2:=hX0.fresh B48 fun y hy=>.inl (Cp hy hx)
 have hX3:Q0 [] w wb3:=hX1.fresh Bn9 fun y hy=>.inl (Cp hy hx)
 have hX:Q0 [] w wr:=hX3.fresh R0 fun y hy=>.inl (Cp hy hx)
 have c1:=QM (QM (QM (QM tN hxb hn1) B48 hn1) Bn9 hn1) R0 hn1;have c2:=QM (QM (QM hc2 B48 hn2) Bn9 hn2) R0 hn2;have c3:=QM (QM hc3 Bn9 hn3) R0 hn3;have c4:=QM hc4 R0 hn4;have cell:∀{b:Nat} {v:Va} {t:TypeId} {w1:Wo},wr.heap[b]? = some (Obj.cells ([v]:List Va).toArray t (0,0))->Q0 [] wr w1->Q1 [] w1 (some ⟨b,0,none⟩) 0 [v]:=fun hb hx=>VF (QM hb hx Qs) Qs (k0:=0) rfl
 refine I3 (zrj (bar:=ZY W c up last) (W':=W') (h.ext hX) hl (hg.ext hX) fun w1 pb m1 hW R4 hpb hP=>.inl ⟨XF,_,rfl,za9 hP hW (cell c1 R4) (cell c2 R4) (cell c3 R4) (cell c4 R4) (fun w9 lB=>AW0 _ pb w9 m1 hW (hP.Wi lB)) fun hb w9 lB=>Rg _ pb w9 m1 hW hb ((hX.trans R4).trans lB) hX.size hpb (hP.Wi lB)⟩) ?_;rintro e wv ⟨v,he,n',m',hv,hM,hy⟩;subst hv;refine⟨_,_,_,_,_,_,_,_,_,_,_,he,Qe hy hs,fun I' SD=>⟨n',m',rfl,(hM.ext SD fun y hy hm=>?_).mono hX.size,(hX.trans hy).fresh SD fun y hm=>?_⟩⟩
 ·have:=(hM.lt y hy).1;have:=hs y hm;omega
 ·simp only[Ii,List.not_mem_nil,or_false] at hm;rcases hm with rfl | rfl
  ·exact .inl hx
  ·exact .inl (IA hX3.size hb5)
theorem zrl{p:OA}{bs:List Nat}:PX bs V4 #[.pointer p] w .nilIface:=zca p fun _ _=>rfl
theorem zqh{base pb:Nat}{bs:List Nat}{w0:Wo}{m0:MW}{c:Int}{b:Bool}(hM:Mp base pb bs w0 m0 w W m)(c0:0<=c)(c1:c<(W.ID.length:Int)) :
  (m.cO.map (·.add (Int.toNat c*5))).isSome=true/\X0 [] w (m.cO.map (·.add (Int.toNat c*5))) (0+0) 1/\Mp base pb bs w0 m0 (Rl w (m.cO.map (·.add (Int.toNat c*5))) (0+0) [.bool b]) (RM W c (Mh (gi W.ID c) b)) m:=by
 have hp:=hM.wpt;refine⟨GI (hp.rd.c c c0 c1),FE.2 (zst hM.own Qs c0 c1 (j:=0) Qd),?_⟩;rw[KT];exact hM.Sj (hM.own.AV0 c0 c1 (j:=0) (vs:=[.bool b]) (x:=Mh (gi W.ID c) b) rfl Qs) C9 (EG _ _ _ _)
theorem zrh{base pb:Nat}{c:Int}(h:PW base pb w W m)(hW:Qx W=true)(hb:ZY W c false 0=0) :
  Cz UZ #[.pointer (pA pb),.agg #[.pointer (pA pb),I c]] w fun e w2=>e=.returned (.tuple #[])/\∃m2,LK base pb [] w m w2 (zj1 W c) m2:=by
 refine(zah (pA pb) (pA pb) c (R:=fun v w2=>v=.tuple #[]/\∃m2,LK base pb [] w m w2 (zj1 W c) m2) ?_).mono fun e w' ⟨v,he,hv,h3⟩=>⟨by rw[he,hv],h3⟩
 intro b hbb;obtain⟨c0,c1,_,sf⟩:=zld hW hb;have hM:=Mp.start h;obtain⟨s1,s2,s3⟩:=zqh (b:=true) (hM.add hbb) c0 c1;have hE:zj1 W c=Qg (P9 (RM W c (Mh (gi W.ID c) true))):=rfl;rw[hE];refine⟨_,M3 hM.wpt c0 c1,s1,s2,fun wr hx hs=>?_⟩;generalize RM W c (Mh (gi W.ID c) true)=V at s3 sf;have Wq:Mp base pb [b] w m wr V m:=s3.M' hx;refine I3 (L7 Wq.pw sf (I2 _) (by simp only[Qi]; decide)) ?_;rintro e wv ⟨he,hy⟩;refine⟨he,Wq.kept hy hs,fun Rt SD cJ=>?_⟩;have dZ:=(Wq.call hy hs).step SD;refine I3 (HQ dZ.pw (Pq sf (I2 _)).1.w (by simp only[Qi]; decide) (by simp only[Qi]; decide)) ?_;rintro e1 Rx ⟨fJ,bE⟩;exact⟨fJ,dZ.kept bE cJ,fun RH Sg=>⟨rfl,m,((dZ.call bE cJ).step Sg).close.done⟩⟩
theorem ziy{c:Int}(h:XQ [] w W m)(hl:UN W)(hg:PA w) :
  Cz MR #[.agg (Qa W m).toArray,I c] w fun e w'=>∃v,e=.returned v/\QL (Yp W (ZY W c false 0) (zj1 W c)) w v w':=by
 refine zig _ _ _ _ _ _ _ _ _ _ c (R:=fun v w'=>QL (Yp W (ZY W c false 0) (zj1 W c)) w v w') ?_;intro x hx b1 dI wr S9 hs;refine I3 (EM (up:=false) (last:=0) (W':=zj1 W c) (c:=c) (h.ext S9) hl (hg.ext S9) (fun base pb w1 m1 hW hP=>.inl ⟨V4,_,rfl,(zrl (bs:=[]) w1 (Q0.refl _ _)).mono fun e w2 ⟨he,hx⟩=>⟨.inr ⟨rfl,he⟩,hx⟩⟩) fun base pb w1 m1 hW hb R4 _ _ hP=>.inl ⟨UZ,_,rfl,zrh hP hW hb⟩) ?_;rintro e wv ⟨v,he,n',m',hv,hM,hy⟩;subst hv;refine⟨_,_,_,_,_,_,_,_,_,_,_,he,Qe hy hs,fun I' SD=>⟨n',m',rfl,(hM.ext SD fun y hy hm=>?_).mono S9.size,(S9.trans hy).fresh SD fun y hm=>.inl (Yi hx dI y hm)⟩⟩;have:=(hM.lt y hy).1;have:=hs y hm;omega
theorem znd{base pb:Nat}{c:Int}(h:PW base pb w W m)(hW:Qx W=true)(hb:ZY W c true (U0 W)=0) :
  Cz Um #[.pointer (pA pb),.agg #[.pointer (pA pb),I c]] w fun e w2=>e=.returned (.tuple #[])/\∃m2,LK base pb [] w m w2 (Lu W c) m2:=by
 refine(Ad (pA pb) (pA pb) c (R:=fun v w2=>v=.tuple #[]/\∃m2,LK base pb [] w m w2 (Lu W c) m2) ?_).mono fun e w' ⟨v,he,hv,h3⟩=>⟨by rw[he,hv],h3⟩
 intro b hbb;obtain⟨c0,c1,_,sf⟩:=zb5 hW hb;have hM:=Mp.start h;obtain⟨s1,s2,s3⟩:=zqh (b:=false) (hM.add hbb) c0 c1;have hlV:(RM W c (Mh (gi W.ID c) false)).ID.length=W.ID.length:=by simp[RM]
 have hE:Lu W c=Qg (P9 (Rn (RM W c (Mh (gi W.ID c) false)) c)):=rfl;rw[hE];refine⟨_,M3 hM.wpt c0 c1,s1,s2,fun wr hx hs=>?_⟩;generalize RM W c (Mh (gi W.ID c) false)=V at s3 sf hlV;have c1V:c<(V.ID.length:Int):=by rw[hlV]; exact c1
 have Wq:Mp base pb [b] w m wr V m:=s3.M' hx;refine I3 (O4 Wq.pw c0 c1V) ?_;rintro e wv ⟨he,hy⟩;refine⟨he,Wq.kept hy hs,fun Rp R4 dQ=>?_⟩;have sfE:=sf.Rn c0 c1V;have dZ:=(Wq.call hy hs).step R4;generalize Rn V c=U at dZ sfE;refine I3 (L7 dZ.pw sfE (I2 _) (by simp only[Qi]; decide)) ?_;rintro e1 R1 ⟨fJ,bE⟩;refine⟨fJ,dZ.kept bE dQ,fun Rt SD cJ=>?_⟩;have fH:=(dZ.call bE dQ).step SD;refine I3 (HQ fH.pw (Pq sfE (I2 _)).1.w (by simp only[Qi]; decide) (by simp only[Qi]; decide)) ?_;rintro e2 Rx ⟨aE,Sn⟩;exact⟨aE,fH.kept Sn cJ,fun RH Sg=>⟨rfl,m,((fH.call Sn cJ).step Sg).close.done⟩⟩
theorem znc{base pb:Nat}(h:PW base pb w W m)(hW:Qx W=true) :
  Cz Ul #[.pointer (pA pb)] w fun e w2=>(U0 W≠0/\e=.returned (.iface QY (.agg #[I (U0 W)]))\/U0 W=0/\e=.returned .nilIface)/\Q0 [] w w2:=by
 refine(Ac (pA pb) (R:=fun v w2=>(U0 W≠0/\v=.iface QY (.agg #[I (U0 W)])\/U0 W=0/\v=.nilIface)/\Q0 [] w w2) ?_).mono fun e w' ⟨v,he,hv,h3⟩=>⟨by
  rw[he];rcases hv with ⟨a,b⟩ | ⟨a,b⟩
  ·exact .inl ⟨a,by rw[b]⟩
  ·exact .inr ⟨a,by rw[b]⟩,h3⟩
 have wp:=Ql.1 hW;have hp:=(Mp.start h).wpt;refine⟨_,Oi hp wp.a.c2,fun wr hx _=>?_⟩;refine I3 Bp ?_;rintro e wv ⟨he,hy⟩;refine⟨_,he,Yf,fun g I' S9=>⟨.inl ?_,(hx.trans hy).trans S9⟩,fun g J' R0=>⟨.inr ?_,(hx.trans hy).trans R0⟩⟩
 ·have:U0 W=5:=by unfold U0; rw[C' (by simpa using g)]
  rw[this];exact⟨Qd,rfl⟩
 ·have:U0 W=0:=by unfold U0; rw[B' (by simpa using g)]
  exact⟨this,rfl⟩
theorem zev{c:Int}(h:XQ [] w W m)(hl:UN W)(hg:PA w) :
  Cz PI #[.agg (Qa W m).toArray,I c] w fun e w'=>∃v,e=.returned v/\QL (Yp W (ZY W c true (U0 W)) (Lu W c)) w v w':=by
 refine zej _ _ _ _ _ _ _ _ _ _ c (R:=fun v w'=>QL (Yp W (ZY W c true (U0 W)) (Lu W c)) w v w') ?_;intro x hx b1 dI wr S9 hs;refine I3 (EM (up:=true) (last:=U0 W) (W':=Lu W c) (c:=c) (h.ext S9) hl (hg.ext S9) (fun base pb w1 m1 hW hP=>.inl ⟨Ul,_,rfl,znc hP hW⟩) fun base pb w1 m1 hW hb R4 _ _ hP=>.inl ⟨Um,_,rfl,znd hP hW hb⟩) ?_;rintro e wv ⟨v,he,n',m',hv,hM,hy⟩;subst hv;refine⟨_,_,_,_,_,_,_,_,_,_,_,he,Qe hy hs,fun I' SD=>⟨n',m',rfl,(hM.ext SD fun y hy hm=>?_).mono S9.size,(S9.trans hy).fresh SD fun y hm=>.inl (Yi hx dI y hm)⟩⟩;have:=(hM.lt y hy).1;have:=hs y hm;omega
end
noncomputable def MF(W:Q8)(t:Int):Int:=if Yb W t=false then 2 else if (Q7 W t).state≠2 then 6 else if QQ W=false then 10 else 0
def Mi(W:Q8)(t:Int):Int:=if zlp W (Q7 W t).IZ>0 then Mo W (Qw W (Q7 W t).group (Q7 W t).mask) else (Q7 W t).IZ
def Tl(W:Q8)(t c:Int):MM:={ VA W t (Q7 W t).group c with state:=1 }
def Nu(W:Q8)(t:Int):Q8:=Qg (Rn (IT W t (Tl W t (Mi W t))) (Mi W t))
theorem VI(W:Q8)(t:Int)(x:MM):(IT W t x).tasks.length=W.tasks.length:=by simp[IT]
theorem zp0{W:Q8}{t:Int}(h:(Q7 W t).state=2)(c:Int):Jd W t (Q7 W t).group c=IT W t (VA W t (Q7 W t).group c):=by
 unfold Jd;rw[B' (by rw[h]; decide)]
theorem zjx{W:Q8}{t c:Int}(sf:SF Qj (Qj+Qi) W)(t0:0<=t)(t1:t<(W.tasks.length:Int))(n:(Q7 W t).state≠0)(c0:0<=c)(c1:c<(W.ID.length:Int)):SF Qj (Qj+Qi) (IT W t (Tl W t c)):=by
 have hl:=sf.w.a.t;have hu:=(sf.w.t t t0 Qo n).1;have hv:=zpz sf (I2 _) (t:=t) hu c0 c1;exact sf.IT t0 Qo (x:=Tl W t c) (fun _=>⟨hu,c0,c1⟩) hv.1 hv.2
theorem zqk{W:Q8}{t:Int}(hW:Qx W=true)(hb:MF W t=0):Yb W t=true/\(Q7 W t).state=2/\QQ W=true/\SF Qj (Qj+Qi) W/\0<=Mi W t/\Mi W t<(W.ID.length:Int):=by
 have wp:=Ql.1 hW;unfold MF at hb
 split at hb
 ·cases hb
 ·rename_i h1
  split at hb
  ·cases hb
  ·rename_i h2
   split at hb
   ·cases hb
   ·rename_i h3;have h1:Yb W t=true:=by simpa using h1
    have h2:(Q7 W t).state=2:=by simpa using h2
    have h3:QQ W=true:=by simpa using h3
    have sw:=Md wp (Ql.1 h3);obtain⟨t0,t1,n⟩:=YQ h1;have hl:=wp.a.t;have hc:=sw.t t t0 Qo n;refine⟨h1,h2,h3,Kv sw,?_⟩;unfold Mi;split
    ·have:=Ha wp.a (Q7 W t).group (Q7 W t).mask;exact⟨this.1,this.2.1⟩
    ·exact hc.2
section
variable {base pb:Nat}{W W':Q8}{m:MW}{w:Wo}
theorem AC{t:Int}(h:XQ [] w W m)(hl:UN W) :
  Cz TR #[.agg (Qa W m).toArray,I t] w fun e w'=>∃v,e=.returned v/\QL (Yp W (MF W t) (Nu W t)) w v w':=by
 refine Ak _ _ _ _ _ _ _ _ _ _ t (R:=fun v w'=>QL (Yp W (MF W t) (Nu W t)) w v w') ?_;intro y hy y1 bE wr R0 SS;refine I3 (Zc (h.ext R0) hl) ?_;rintro e wv (⟨hW,he,Sn⟩ | ⟨hW,m',he,hM,Sn⟩)
 ·exact⟨_,_,_,_,_,_,_,_,_,_,_,he,Qe Sn SS,fun _ I' R4=>QL.bad hW ((R0.trans Sn).fresh R4 fun z hm=>.inl (Yi hy bE z hm)),fun g=>by simp at g⟩
 have hK:=Wk.begin hy bE R0 SS hM Sn;have hr:=hK.rd;have wp:=Ql.1 hW;refine⟨_,_,_,_,_,_,_,_,_,_,_,he,Qe Sn SS,fun g=>by split at g <;> simp at g,fun _=>⟨_,JB hr hl.t,fun g J' R4=>?_,fun g=>?_⟩⟩
 ·have g:Yb W t=false:=by simpa using g
  have hb:MF W t=2:=by unfold MF; rw[C' g]
  exact QL.no hW (by rw[hb]; decide) (hK.step R4) hb
 have g:Yb W t=true:=by simpa using g
 obtain⟨t0,t1,tn⟩:=YQ g;have iX:=wp.a.t;have V':=hr.t.ix QG t0 t1;refine⟨V',_,hr.t.f t0 t1 (j:=0) rfl,fun g2 Rp R4=>?_,fun g2=>⟨fun g3 Rt R4=>?_,fun g3=>?_⟩⟩
 ·have g2:(Q7 W t).state≠2:=by simpa[Q7] using g2
  have hb:MF W t=6:=by unfold MF; rw[B' (by rw[g]; decide),C' g2]
  exact QL.no hW (by rw[hb]; decide) (hK.step R4) hb
 ·have g2:¬(Q7 W t).state≠2:=by simpa[Q7] using g2
  have aQ:¬QQ W=true:=fun hr=>by rw[C' hr] at g3; simp at g3
  have hb:MF W t=10:=by unfold MF; rw[B' (by rw[g]; decide),B' g2,C' (by simpa using aQ)]
  rw[B' aQ];exact QL.no hW (by rw[hb]; decide) (hK.step R4) hb
 have g2:¬(Q7 W t).state≠2:=by simpa[Q7] using g2
 have aQ:QQ W=true:=Iq fun hr=>by rw[B' hr] at g3; simp at g3
 have hb:MF W t=0:=by unfold MF; rw[B' (by rw[g]; decide),B' g2,B' (by rw[aQ]; decide)]
 have CK4:(Q7 W t).state=2:=by simpa using g2
 obtain⟨_,_,_,sf,_,_⟩:=zqk hW hb;obtain⟨hu,c0,c1⟩:=sf.w.t t t0 Qo tn;refine⟨V',_,hr.t.f t0 t1 (j:=2) rfl,_,P7 hr iX,fun g4=>?_,fun g4=>?_⟩
 ·have g4:zlp W (Q7 W t).IZ>0:=Ot g4;have hC:Mi W t=Mo W (Qw W (Q7 W t).group (Q7 W t).mask):=C' g4;obtain⟨d0,d1,_⟩:=Ha wp.a (Q7 W t).group (Q7 W t).mask;refine⟨V',_,hr.t.f t0 t1 (j:=1) rfl,V',_,hr.t.f t0 t1 (j:=4) rfl,_,J6 hr wp.a.c2 wp.a.tree hu,_,L9 hr wp.a (zug wp),V',_,hr.t.f t0 t1 (j:=1) rfl,fun RH Sg jO=>?_⟩;have fH:=hK.step Sg;have Rg:=UT fH.own sf (I2 _) (by simp only[Qi]; decide) (t:=t) (g:=(Q7 W t).group) (c:=Mo W (Qw W (Q7 W t).group (Q7 W t).mask)) t0 Qo tn hu d0 d1;refine I3 Rg ?_;rintro e1 R1 ⟨fJ,fK⟩;rw[zp0 CK4 (Mo W (Qw W (Q7 W t).group (Q7 W t).mask))] at fK;have cQ:=fH.Sj fK jO
  have SE:Wk 8 [y,y1] w (Rl R1 m'.tO (Int.toNat t*9+0) [I 1]) (IT W t (Tl W t (Mo W (Qw W (Q7 W t).group (Q7 W t).mask)))) m':=by
   have:Wk 8 [y,y1] w (Rl R1 m'.tO (Int.toNat t*9+0) [I 1]) (IT (IT W t (VA W t (Q7 W t).group (Mo W (Qw W (Q7 W t).group (Q7 W t).mask)))) t (Tl W t (Mo W (Qw W (Q7 W t).group (Q7 W t).mask)))) m':=cQ.Rl (cQ.own.AA0 t0 (by rw[VI]; exact t1) (j:=0) (vs:=[I 1]) (x:=Tl W t (Mo W (Qw W (Q7 W t).group (Q7 W t).mask))) (by rw[show gi (IT W t (VA W t (Q7 W t).group (Mo W (Qw W (Q7 W t).group (Q7 W t).mask)))).tasks t=_ from KU t0 t1]; rfl) Qs) GJ
   rwa[set_set] at this
  have B24:Ix m'.tO W.tasks.length t:=by
   have:=cQ.rd.t.ix QG t0 (by rw[VI]; exact t1)
   rwa[VI] at this
  refine⟨_,_,_,_,_,_,_,_,_,_,fJ,fH.kept fK jO,B24,zqn cQ.own cQ.nb t0 (by rw[VI]; exact t1) (j:=0) Qd,fun Sf aO hs6=>?_⟩;have e5:Qa (IT W t (Tl W t (Mo W (Qw W (Q7 W t).group (Q7 W t).mask)))) m'=Qa W m':=Ms _ _ _ _;have hE:Nu W t=Qg (Rn (IT W t (Tl W t (Mo W (Qw W (Q7 W t).group (Q7 W t).mask)))) (Mo W (Qw W (Q7 W t).group (Q7 W t).mask))):=by unfold Nu; rw[hC]
  have sfV:=zjx sf t0 t1 tn d0 d1;rw[hE];have hlV:(IT W t (Tl W t (Mo W (Qw W (Q7 W t).group (Q7 W t).mask)))).ID.length=W.ID.length:=rfl;generalize IT W t (Tl W t (Mo W (Qw W (Q7 W t).group (Q7 W t).mask)))=V at SE e5 sfV hlV;have tE:=SE.step aO;have WZ:=Zw tE.own d0 (by rw[hlV]; exact d1);rw[e5] at WZ;refine I3 WZ ?_;rintro e2 Rx ⟨aE,fL⟩;refine⟨_,_,_,_,_,_,_,_,_,_,aE,tE.kept fL hs6,fun SH jH hs7=>?_⟩;have hK7:=(tE.Sj fL hs6).step jH;have rI:=Qv hK7.own (sfV.Rn d0 (by rw[hlV]; exact d1)).w (by simp only[Qi]; decide) (by simp only[Qi]; decide) hK7.base;refine I3 rI ?_;rintro e3 S6 ⟨m2,iU,hy5⟩;exact⟨_,_,_,_,_,_,_,_,_,_,iU,hK7.kept hy5 hs7,fun SZ oZ=>QL.ok hW hb ((hK7.Sj hy5 hs7).step oZ)⟩
 ·have g4:¬zlp W (Q7 W t).IZ>0:=Ou g4;have hC:Mi W t=(Q7 W t).IZ:=B' g4;have d0:=c0;have d1:=c1;refine⟨V',_,hr.t.f t0 t1 (j:=1) rfl,fun RH Sg jO=>?_⟩;have fH:=hK.step Sg;have Rg:=UT fH.own sf (I2 _) (by simp only[Qi]; decide) (t:=t) (g:=(Q7 W t).group) (c:=(Q7 W t).IZ) t0 Qo tn hu d0 d1;refine I3 Rg ?_;rintro e1 R1 ⟨fJ,fK⟩;rw[zp0 CK4 ((Q7 W t).IZ)] at fK;have cQ:=fH.Sj fK jO
  have SE:Wk 8 [y,y1] w (Rl R1 m'.tO (Int.toNat t*9+0) [I 1]) (IT W t (Tl W t ((Q7 W t).IZ))) m':=by
   have:Wk 8 [y,y1] w (Rl R1 m'.tO (Int.toNat t*9+0) [I 1]) (IT (IT W t (VA W t (Q7 W t).group ((Q7 W t).IZ))) t (Tl W t ((Q7 W t).IZ))) m':=cQ.Rl (cQ.own.AA0 t0 (by rw[VI]; exact t1) (j:=0) (vs:=[I 1]) (x:=Tl W t ((Q7 W t).IZ)) (by rw[show gi (IT W t (VA W t (Q7 W t).group ((Q7 W t).IZ))).tasks t=_ from KU t0 t1]; rfl) Qs) GJ
   rwa[set_set] at this
  have B24:Ix m'.tO W.tasks.length t:=by
   have:=cQ.rd.t.ix QG t0 (by rw[VI]; exact t1)
   rwa[VI] at this
  refine⟨_,_,_,_,_,_,_,_,_,_,fJ,fH.kept fK jO,B24,zqn cQ.own cQ.nb t0 (by rw[VI]; exact t1) (j:=0) Qd,fun Sf aO hs6=>?_⟩;have e5:Qa (IT W t (Tl W t ((Q7 W t).IZ))) m'=Qa W m':=Ms _ _ _ _;have hE:Nu W t=Qg (Rn (IT W t (Tl W t ((Q7 W t).IZ))) ((Q7 W t).IZ)):=by unfold Nu; rw[hC]
  have sfV:=zjx sf t0 t1 tn d0 d1;rw[hE];have hlV:(IT W t (Tl W t ((Q7 W t).IZ))).ID.length=W.ID.length:=rfl;generalize IT W t (Tl W t ((Q7 W t).IZ))=V at SE e5 sfV hlV;have tE:=SE.step aO;have WZ:=Zw tE.own d0 (by rw[hlV]; exact d1);rw[e5] at WZ;refine I3 WZ ?_;rintro e2 Rx ⟨aE,fL⟩;refine⟨_,_,_,_,_,_,_,_,_,_,aE,tE.kept fL hs6,fun SH jH hs7=>?_⟩;have hK7:=(tE.Sj fL hs6).step jH;have rI:=Qv hK7.own (sfV.Rn d0 (by rw[hlV]; exact d1)).w (by simp only[Qi]; decide) (by simp only[Qi]; decide) hK7.base;refine I3 rI ?_;rintro e3 S6 ⟨m2,iU,hy5⟩;exact⟨_,_,_,_,_,_,_,_,_,_,iU,hK7.kept hy5 hs7,fun SZ oZ=>QL.ok hW hb ((hK7.Sj hy5 hs7).step oZ)⟩
end
theorem zhk{a b w:Int}(ha:0<=a)(hb:0<=b)(h:a+b<=100000000)(w1:1<=w)(w2:w<=20):Za (a+b) w=Za a w+Za b w:=by
 rw[OT Qo h w1 w2,OT ha Qo w1 w2,OT hb Qo w1 w2,Int.add_mul]
theorem zrn{l w:Int}(h0:0<=l)(h1:l<=ZD w):Y9 l w=l:=by
 unfold Y9;rw[B' (show ¬ZD w<l by omega)]
 split <;> omega
theorem K7{p q:Nat->Bool}:∀{n:Nat},(∀j,j<n->p j=q j)->Ts p n=Ts q n
 | 0,_=>rfl
 | n+1,h=>by simp only[Ts]; rw[K7 fun j hj=>h j Qo,h n Qo]
theorem MA{p q:Nat->Bool}{v u:Nat->Int}:∀{n:Nat},(∀j,j<n->p j=q j)->(∀j,j<n->p j=true->v j=u j)->QW p v n=QW q u n
 | 0,_,_=>rfl
 | n+1,h,hv=>by
  have ih:=MA (p:=p) (q:=q) (v:=v) (u:=u) (n:=n) (fun j hj=>h j Qo) fun j hj=>hv j Qo
  simp only[QW];rw[ih,<-h n Qo]
  cases hp:p n with
  | false=>simp
  | true=>
   rw[hv n Qo hp];rcases Zo q u n with ⟨e,_⟩ | ⟨e0,e1,e2,_⟩
   ·rw[e]; simp
   ·rw[hv _ Qo (by rw[h _ Qo]; exact e2)]
theorem YE{gs:List ZO}(ht:Y5 gs):∀g:Int,Q6 gs g=true->∀x∈Z7 gs g,Q6 gs x=true/\x≠0:=
 M6 ht (fun x hx=>by rw[show Z7 gs 0=[] from Zl _ _] at hx; cases hx) fun h hu hz ih x hx=>by
  rw[Yz ht hu hz] at hx;rcases Ii.1 hx with e | e
  ·subst e; exact⟨hu,hz⟩
  ·exact ih x e
def VD(W:Q8)(k c:Int):Prop:=(Qc W (gi W.IC k).parent c).floor<=(Qc W k c).v/\(Qc W k c).v-(Qc W (gi W.IC k).parent c).floor<=ZD (Qc W k c).w
structure E3 (W:Q8) (x:MM):Prop where
 st:x.state=1\/x.state=2
 g:Q6 W.IC x.group=true
 n:Qf x.nice≠0
 m:Po x.mask=true
 m0:x.mask≠0
 s:ZI x.sum=true
 u:ZI x.used=true
 l1:0<=x.load
 l2:x.load<=8000000
 f:x.state=1->(Qc W x.group x.IZ).floor<=x.v/\x.v-(Qc W x.group x.IZ).floor<=ZD (Qf x.nice)
structure zmm (W:Q8) (k c:Int):Prop where
 s:ZI (Qc W k c).sum=true
 root:k=0->(Qc W k c).on=false/\(Qc W k c).v=0/\(Qc W k c).w=10
 st:k≠0->(Qc W k c).on=true->VD W k c
structure zy8 (W:Q8) (c:Int):Prop where
 b:ZI (gi W.ID c).busy=true
 i:ZI (gi W.ID c).idle=true
 c1 : -1<=(gi W.ID c).cur
 c2:(gi W.ID c).cur<12
 no:(gi W.ID c).cur<0->(gi W.ID c).WH=0
 yes:0<=(gi W.ID c).cur->(gi W.ID c).up=true/\1<=(gi W.ID c).WH/\(gi W.ID c).WH<=149
 q:0<=(gi W.ID c).cur->(Q7 W (gi W.ID c).cur).state=1->(Q7 W (gi W.ID c).cur).IZ=c->
  (Q7 W (gi W.ID c).cur).v-(Qc W (Q7 W (gi W.ID c).cur).group c).floor<=Za (gi W.ID c).WH (Qf (Q7 W (gi W.ID c).cur).nice)/\
  ∀x∈Z7 W.IC (Q7 W (gi W.ID c).cur).group,VD W x c/\(Qc W x c).v-(Qc W (gi W.IC x).parent c).floor<=Za (gi W.ID c).WH (Qc W x c).w
structure PreA (W:Q8):Prop where
 a:WA W
 t:∀t:Int,0<=t->t<12->(Q7 W t).state=0/\Q7 W t=TI\/(Q7 W t).state≠0/\E3 W (Q7 W t)
 l:∀t:Int,0<=t->t<12->(Q7 W t).state≠0->0<=(Q7 W t).IZ/\(Q7 W t).IZ<(W.ID.length:Int)
 s:∀k c:Int,Q6 W.IC k=true->0<=c->c<(W.ID.length:Int)->zmm W k c
structure Tm (W:Q8):Prop extends PreA W where
 c:∀c:Int,0<=c->c<(W.ID.length:Int)->zy8 W c
def CE(W:Q8):Prop:=∀t:Int,0<=t->t<12->(Q7 W t).state≠0->QX (Qw W (Q7 W t).group (Q7 W t).mask) (Q7 W t).IZ=true
def z1y(W:Q8):Prop:=∀k c:Int,Q6 W.IC k=true->0<=c->c<(W.ID.length:Int)->Zr W k c 20=true->Z0 W k c 20<=(Qc W k c).floor
theorem Ft{v f k:Int}(hv:ZI v=true)(hf:ZI f=true):K4 v f k=true↔f<=v/\v-f<=ZD k:=by
 have h1:=YZ.1 hv;have h2:=YZ.1 hf;have hw:IntKind.i64.wrap (v-f)=v-f:=Qq.wrap (k:=.i64) ⟨by show _<=v-f; omega,by show v-f<=_; omega⟩;unfold K4;rw[hw];simp
theorem UI{W:Q8}(wp:XS W):CE W:=fun t t0 t1 n=>by
 rcases wp.t t t0 t1 with h | h
 ·exact Ir h.1 n
 ·exact h.2.c
theorem DT{W:Q8}(wp:XS W){k c:Int}(hu:Q6 W.IC k=true)(c0:0<=c)(c1:c<(W.ID.length:Int)):ML W k c:=by
 obtain⟨u0,u1,_⟩:=wp.a.u hu;have hl:=wp.a.sl hu;exact wp.s k c u0 u1 c0 Qo
theorem Xm{W:Q8}(wp:XS W):Tm W:=by
 have kW:∀k c:Int,Q6 W.IC k=true->k≠0->0<=c->c<(W.ID.length:Int)->(Qc W k c).on=true->VD W k c:=fun k c hu hz c0 c1 ho=>by
  have h1:=DT wp hu c0 c1;have h2:=DT wp (wp.a.up hu hz) c0 c1;exact(Ft h1.v h2.f).1 (h1.st hz ho)
 refine⟨⟨wp.a,fun t t0 t1=>?_,fun t t0 t1 n=>?_,fun k c hu c0 c1=>?_⟩,fun c c0 c1=>?_⟩
 ·rcases wp.t t t0 t1 with h | ⟨n,h⟩
  ·exact .inl h
  ·refine .inr ⟨n,h.st,h.g,h.n,h.m,h.m0,h.s,h.u,h.l1,h.l2,fun h1=>?_⟩;obtain⟨d0,d1⟩:=LW wp.a h.c;exact(Ft h.v (DT wp h.g d0 d1).f).1 (h.f h1)
 ·rcases wp.t t t0 t1 with h | ⟨_,h⟩
  ·exact Ir h.1 n
  ·exact LW wp.a h.c
 ·have h:=DT wp hu c0 c1;exact⟨h.s,h.root,fun hz ho=>kW k c hu hz c0 c1 ho⟩
 ·have h:=wp.c c c0 c1;have hl:=wp.a.t;refine⟨h.b,h.i,h.c1,by have:=h.c2; omega,h.no,fun h0=>⟨(h.yes h0).1,(h.yes h0).2.1,(h.yes h0).2.2.1⟩,fun h0 h1 h2=>?_⟩;obtain⟨_,_,_,_,lK,BF3⟩:=h.yes h0;unfold Mc at BF3;rw[A',Ij] at BF3;refine⟨BF3.1,fun x hx=>?_⟩
  have hu:Q6 W.IC (Q7 W (gi W.ID c).cur).group=true:=by
   rcases wp.t _ h0 (by have:=h.c2; omega) with hz | ⟨_,hz⟩
   ·rw[hz.1] at h1; cases h1
   ·exact hz.g
  obtain⟨xu,xz⟩:=YE wp.a.tree _ hu x hx;unfold ZA UU at lK;rw[A',h2,List.all_eq_true] at lK;have hs:=BF3.2;unfold TH at hs;rw[List.all_eq_true] at hs;exact⟨kW x c xu xz c0 c1 (lK.2 x hx),Ot (hs x hx)⟩
structure FJ (c:Int) (W W':Q8):Prop where
 n:W'.now=W.now
 t:W'.tasks=W.tasks
 g:Z2 W.IC W'.IC
 len:W'.ID.length=W.ID.length
 b:∀i:Int,0<=i->(gi W'.IC i).IQ=(gi W.IC i).IQ
 e:∀k d:Int,0<=k->0<=d->d≠c->Qc W' k d=Qc W k d
 cp:∀d:Int,0<=d->d≠c->gi W'.ID d=gi W.ID d
theorem FJ.refl(c:Int)(W:Q8):FJ c W W:=⟨rfl,rfl,Z2.refl _,rfl,fun _ _=>rfl,fun _ _ _ _ _=>rfl,fun _ _ _=>rfl⟩
theorem FJ.trans{c:Int}{A B C:Q8}(h:FJ c A B)(k:FJ c B C):FJ c A C:=⟨k.n.trans h.n,k.t.trans h.t,h.g.trans k.g,k.len.trans h.len,fun i hi=>(k.b i hi).trans (h.b i hi),fun i d hi hd hn=>(k.e i d hi hd hn).trans (h.e i d hi hd hn),fun d hd hn=>(k.cp d hd hn).trans (h.cp d hd hn)⟩
theorem BL{W:Q8}{g c:Int}{s:LI}(h0:0<=g)(h1:g<(W.IC.length:Int))(c0:0<=c)(c1:c<((gi W.IC g).IE.length:Int)):FJ c W (RA W g c s):=
 ⟨rfl,rfl,XO h0 h1,rfl,fun i hi=>zga h0 h1 hi,fun k d hk hd hn=>by
  rw[Uv h0 h1 c0 c1 hk hd,B' fun h=>hn h.2.symm],fun _ _ _=>rfl⟩
theorem zlf{W:Q8}{c:Int}(c0:0<=c)(c1:c<(W.ID.length:Int)):FJ c W (Rn W c):=
 ⟨rfl,rfl,Z2.refl _,E',fun _ _=>rfl,fun _ _ _ _ _=>rfl,fun d d0 hn=>by
  show gi (W.ID.set c.toNat (XU (gi W.ID c))) d=_;rw[QE _ _ c0 c1 d0,B' fun h=>hn h.symm]⟩
section
variable {c d:Int}{W W':Q8}
theorem OE(ht:W'.tasks=W.tasks)(hT:Z2 W.IC W'.IC){g:Int}(h:∀j:Nat,j<W.IC.length->1<=j->(gi W.IC (j:Int)).used=true->(gi W.IC (j:Int)).parent=g->(Qc W' (j:Int) d).on=(Qc W (j:Int) d).on):QT W' g d=QT W g d:=by
 unfold QT;rw[ht,hT.len]
 congr 1
 ·refine K7 fun j _=>?_
  unfold OD;rw[ht]
 ·refine K7 fun j hj=>?_
  unfold XW;rw[hT.u,hT.p]
  by_cases h1:1<=j
  ·cases hu:(gi W.IC (j:Int)).used with
   | false=>simp
   | true=>
    by_cases hp:(gi W.IC (j:Int)).parent=g
    ·rw[h j hj h1 hu hp]
    ·rw[show ((gi W.IC (j:Int)).parent==g)=false from beq_false_of_ne hp]; simp
  ·simp[h1]
theorem zrt(ht:W'.tasks=W.tasks)(hT:Z2 W.IC W'.IC)(hl:W.IC.length=8)(h:∀k:Int,0<=k->(Qc W' k d).on=(Qc W k d).on)(g:Int){j:Nat}(hj:j<20):Zk W' g d j=Zk W g d j:=by
 unfold Zk;split
 ·unfold OD; rw[ht]
 ·unfold XW;rw[hT.u,hT.p,h _ Qo]
theorem zgp(ht:W'.tasks=W.tasks)(h:∀k:Int,0<=k->(Qc W' k d).v=(Qc W k d).v)(j:Nat):Ze W' d j=Ze W d j:=by
 unfold Ze;split
 ·unfold Q7; rw[ht]
 ·rw[h _ Qo]
theorem B6(ht:W'.tasks=W.tasks)(hT:Z2 W.IC W'.IC)(hl:W.IC.length=8)(h:∀k:Int,0<=k->(Qc W' k d).on=(Qc W k d).on)(hv:∀k:Int,0<=k->(Qc W' k d).v=(Qc W k d).v)(g:Int):Zr W' g d 20=Zr W g d 20/\Z0 W' g d 20=Z0 W g d 20:=by
 have e:QW (Zk W' g d) (Ze W' d) 20=QW (Zk W g d) (Ze W d) 20:=MA (fun j hj=>zrt ht hT hl h g hj) fun j _ _=>zgp ht hv j
 unfold Zr Z0;rw[e];refine⟨rfl,?_⟩;split
 ·rfl
 ·exact zgp ht hv _
theorem Ja(ht:W'.tasks=W.tasks)(t:Int):Q7 W' t=Q7 W t:=by unfold Q7; rw[ht]
theorem Tk(hT:Z2 W.IC W'.IC)(g:Int):Z7 W'.IC g=Z7 W.IC g:=hT.path 3 g
theorem zie{g:Int}(hb:(gi W'.IC g).IQ=(gi W.IC g).IQ):JY W' g d=JY W g d:=by unfold JY; rw[hb]
end
theorem zov{W:Q8}{g c:Int}{j:Nat}(hj:j<20)(h:Zk W g c j=true):Zr W g c 20=true/\Z0 W g c 20<=Ze W c j:=by
 unfold Zr Z0;rcases Zo (Zk W g c) (Ze W c) 20 with ⟨_,h2⟩ | ⟨h1,_,_,h4,_⟩
 ·rw[h2 j hj] at h; cases h
 ·rw[B' Qo];exact⟨Ih h1,h4 j hj h⟩
theorem zqw{W:Q8}(ha:WA W){t:Int}(t0:0<=t)(t1:t<12)(hs:(Q7 W t).state=1):Zr W (Q7 W t).group (Q7 W t).IZ 20=true/\Z0 W (Q7 W t).group (Q7 W t).IZ 20<=(Q7 W t).v:=by
 have e:((t.toNat:Nat):Int)=t:=Qo
 have h:Zk W (Q7 W t).group (Q7 W t).IZ t.toNat=true:=by
  rw[UJ Qo];unfold OD;rw[e];show (((Q7 W t).state==1)&&((Q7 W t).group==_)&&((Q7 W t).IZ==_))=true;rw[hs]; simp
 have:=zov Qo h
 rwa[DC Qo,e] at this
theorem zmt{W:Q8}(ha:WA W){k c:Int}(hu:Q6 W.IC k=true)(hz:k≠0)(ho:(Qc W k c).on=true):Zr W (gi W.IC k).parent c 20=true/\Z0 W (gi W.IC k).parent c 20<=(Qc W k c).v:=by
 obtain⟨k0,k1,ku⟩:=Q4.1 hu;have hl:=ha.gl;have e:((k.toNat:Nat):Int)=k:=Qo
 have h:Zk W (gi W.IC k).parent c (12+k.toNat)=true:=by
  rw[JK];unfold XW;rw[e,ku,ho];simp;omega
 have:=zov Qo h
 rwa[DB,e] at this
structure LC (c:Int) (W W':Q8):Prop where
 o:FJ c W W'
 cs:W'.ID=W.ID
 f:∀k d:Int,0<=k->0<=d->(Qc W' k d).floor=(Qc W k d).floor
 w:∀k d:Int,0<=k->0<=d->(Qc W' k d).w=(Qc W k d).w
 s:∀k d:Int,0<=k->0<=d->(Qc W' k d).sum=(Qc W k d).sum
 r:∀d:Int,0<=d->Qc W' 0 d=Qc W 0 d
 v:∀k d:Int,Q6 W.IC k=true->k≠0->0<=d->VD W k d->(Qc W' k d).v=(Qc W k d).v
theorem LC.refl(c:Int)(W:Q8):LC c W W:=⟨FJ.refl _ _,rfl,fun _ _ _ _=>rfl,fun _ _ _ _=>rfl,fun _ _ _ _=>rfl,fun _ _=>rfl,fun _ _ _ _ _ _=>rfl⟩
theorem LC.st{c:Int}{W W':Q8}(ht:Y5 W.IC)(h:LC c W W'){k d:Int}(hu:Q6 W.IC k=true)(hz:k≠0)(d0:0<=d)(hs:VD W k d):VD W' k d:=by
 have hp:=(Q4.1 (Y6 ht hu hz).1).1;have k0:=(Q4.1 hu).1;unfold VD;rw[h.o.g.p,h.f _ d hp d0,h.v k d hu hz d0 hs,h.w k d k0 d0];exact hs
theorem LC.trans{c:Int}{A B C:Q8}(ht:Y5 A.IC)(h:LC c A B)(k:LC c B C):LC c A C:=
 ⟨h.o.trans k.o,k.cs.trans h.cs,fun i d a b=>(k.f i d a b).trans (h.f i d a b),fun i d a b=>(k.w i d a b).trans (h.w i d a b),fun i d a b=>(k.s i d a b).trans (h.s i d a b),fun d a=>(k.r d a).trans (h.r d a),fun i d hu hz d0 hs=>by
  rw[k.v i d (by rw[h.o.g.cK]; exact hu) hz d0 (h.st ht hu hz d0 hs),h.v i d hu hz d0 hs]⟩
theorem Tm.lc{c:Int}{W W':Q8}(p:Tm W)(h:LC c W W')(ha:WA W')(hon:∀k d:Int,Q6 W.IC k=true->k≠0->0<=d->d<(W.ID.length:Int)->(Qc W' k d).on=true->VD W' k d):Tm W':=by
 have et:∀t,Q7 W' t=Q7 W t:=Ja h.o.t;refine⟨⟨ha,fun t t0 t1=>?_,fun t t0 t1 n=>?_,fun k d hu d0 d1=>?_⟩,fun d d0 d1=>?_⟩
 ·rw[et];rcases p.t t t0 t1 with hz | ⟨n,hx⟩
  ·exact .inl hz
  ·refine .inr ⟨n,hx.st,by rw[h.o.g.cK]; exact hx.g,hx.n,hx.m,hx.m0,hx.s,hx.u,hx.l1,hx.l2,fun h1=>?_⟩;rw[h.f _ _ (Q4.1 hx.g).1 (p.l t t0 t1 n).1];exact hx.f h1
 ·rw[et] at n ⊢;rw[h.o.len];exact p.l t t0 t1 n
 ·rw[h.o.g.cK] at hu;rw[h.cs] at d1;have hs:=p.s k d hu d0 d1;have k0:=(Q4.1 hu).1;refine⟨by rw[h.s k d k0 d0]; exact hs.s,fun hz=>?_,fun hz ho=>hon k d hu hz d0 d1 ho⟩;subst hz;rw[h.r d d0];exact hs.root rfl
 ·rw[h.cs] at d1;have hc:=p.c d d0 d1;refine⟨by rw[h.cs]; exact hc.b,by rw[h.cs]; exact hc.i,by rw[h.cs]; exact hc.c1,by rw[h.cs]; exact hc.c2,by rw[h.cs]; exact hc.no,by rw[h.cs]; exact hc.yes,?_⟩;rw[h.cs];simp only[et];intro h0 h1 h2;obtain⟨q1,q2⟩:=hc.q h0 h1 h2
  have hu:Q6 W.IC (Q7 W (gi W.ID d).cur).group=true:=by
   rcases p.t _ h0 hc.c2 with hz | ⟨_,hx⟩
   ·rw[hz.1] at h1; cases h1
   ·exact hx.g
  refine⟨by rw[h.f _ d (Q4.1 hu).1 d0]; exact q1,fun x hx=>?_⟩;rw[Tk h.o.g] at hx;obtain⟨xu,xz⟩:=YE p.a.tree _ hu x hx;obtain⟨s1,s2⟩:=q2 x hx;refine⟨h.st p.a.tree xu xz d0 s1,?_⟩;rw[h.o.g.p,h.v x d xu xz d0 s1,h.f _ d (Q4.1 (p.a.up xu xz)).1 d0,h.w x d (Q4.1 xu).1 d0];exact s2
def VM(W:Q8)(c k:Int):Prop:=(Qc W k c).on=(QT W k c && !JY W k c)
theorem zui{W:Q8}(p:Tm W){k c d:Int}(hu:Q6 W.IC k=true)(hd:dep 3 W.IC k=d)(d1:1<=d)(c0:0<=c)(c1:c<(W.ID.length:Int)) :
  LC c W (RA W k c (ZS W k c))/\Tm (RA W k c (ZS W k c))/\VM (RA W k c (ZS W k c)) c k/\∀g:Int,Q6 W.IC g=true->g≠k->(gi W.IC k).parent≠g->VM W c g->VM (RA W k c (ZS W k c)) c g:=by
 have hz:k≠0:=fun e=>by subst e; rw[ZZ] at hd; omega
 obtain⟨u0,u1,_⟩:=Q4.1 hu;have hl:=p.a.gl;have hsl:=p.a.sl hu;have qX:c<((gi W.IC k).IE.length:Int):=Qo;have hpu:=p.a.up hu hz
 have hpk:(gi W.IC k).parent≠k:=fun e=>by
  obtain⟨_,_,_,n,e1,e2,_⟩:=Y6 p.a.tree hu hz;rw[e] at e2; omega
 have e:∀{i j:Int},0<=i->0<=j->Qc (RA W k c (ZS W k c)) i j=if k=i/\c=j then ZS W k c else Qc W i j:=fun hi hj=>Uv u0 u1 c0 qX hi hj
 have ev:VD W k c->(ZS W k c).v=(Qc W k c).v:=fun hs=>by
  simp only[ZS];split
  ·rw[zrn (by have:=hs.1; omega) hs.2]; omega
  ·rfl
 have eq0:∀{i j:Int},k=i/\c=j->(ZS W k c).floor=(Qc W i j).floor/\(ZS W k c).w=(Qc W i j).w/\(ZS W k c).sum=(Qc W i j).sum:=fun h=>by
  obtain⟨rfl,rfl⟩:=h; exact⟨rfl,rfl,rfl⟩
 have hT:=XO (W:=W) (g:=k) (c:=c) (s:=ZS W k c) u0 u1
 have lc:LC c W (RA W k c (ZS W k c)):=by
  refine⟨BL u0 u1 c0 qX,rfl,fun i j hi hj=>?_,fun i j hi hj=>?_,fun i j hi hj=>?_,fun j hj=>?_,fun i j iu iz hj hs=>?_⟩
  ·rw[e hi hj]; split
   ·rename_i h; exact(eq0 h).1
   ·rfl
  ·rw[e hi hj]; split
   ·rename_i h; exact(eq0 h).2.1
   ·rfl
  ·rw[e hi hj]; split
   ·rename_i h; exact(eq0 h).2.2
   ·rfl
  ·rw[e (I2 0) hj,B' fun h=>hz h.1]
  ·rw[e (Q4.1 iu).1 hj]; split
   ·rename_i h;obtain⟨rfl,rfl⟩:=h;exact ev hs
   ·rfl
 have act:∀g:Int,(gi W.IC k).parent≠g->QT (RA W k c (ZS W k c)) g c=QT W g c:=fun g hg=>by
  refine OE (W:=W) (W':=RA W k c (ZS W k c)) rfl hT fun j hj _ _ hp=>?_
  rw[e Qo c0,B'];rintro⟨h,_⟩;exact hg (by rw[h]; exact hp)
 have hoe:VM (RA W k c (ZS W k c)) c k:=by
  unfold VM;rw[e u0 c0,C' ⟨rfl,rfl⟩,act k hpk,H0 u0 u1 u0];rfl
 refine⟨lc,p.lc lc (p.a.RA u0 Qo) fun i j iu iz j0 j1 ho=>?_,hoe,fun g gu gk hg h=>?_⟩
 ·by_cases h:k=i/\c=j
  ·obtain⟨rfl,rfl⟩:=h
   by_cases hs:VD W k c
   ·exact lc.st p.a.tree hu hz c0 hs
   ·have Cj2:(Qc W k c).on=false:=by
     cases hb:(Qc W k c).on with
     | false=>rfl
     | true=>exact Ir ((p.s k c hu c0 c1).st hz hb) hs
    rw[e u0 c0,C' ⟨rfl,rfl⟩] at ho;have ho:(QT W k c && !JY W k c)=true:=ho;unfold VD;rw[hT.p,e u0 c0,C' ⟨rfl,rfl⟩,lc.f _ c (Q4.1 hpu).1 c0];simp only[ZS];rw[C' ⟨ho,Cj2⟩];have:=ZQ ((Qc W k c).v-(Qc W (gi W.IC k).parent c).floor) (Qc W k c).w;omega
  ·rw[e (Q4.1 iu).1 j0,B' h] at ho;exact lc.st p.a.tree iu iz j0 ((p.s i j iu j0 j1).st iz ho)
 ·unfold VM;have g0:=(Q4.1 gu).1;rw[e g0 c0,B' fun h=>gk h.1.symm,act g hg,H0 u0 u1 g0];exact h
theorem zk7{W:Q8}(p:Tm W){c d:Int}(d1:1<=d)(c0:0<=c)(c1:c<(W.ID.length:Int))(hI:∀g:Int,Q6 W.IC g=true->d<dep 3 W.IC g->VM W c g):∀k:Nat,k<=8->
  LC c W (Zj W c d k)/\Tm (Zj W c d k)/\∀g:Int,Q6 W.IC g=true->d<dep 3 W.IC g\/dep 3 W.IC g=d/\g<(k:Int)->VM (Zj W c d k) c g
 | 0,_=>⟨LC.refl _ _,p,fun g gu h=>hI g gu (by
   rcases h with h | h
   ·exact h
   ·have:=(Q4.1 gu).1;have:=h.2;omega)⟩
 | k+1,hk=>by
  obtain⟨a,b,ih⟩:=zk7 p d1 c0 c1 hI k Qo;have hl:=b.a.gl;have hT:=a.o.g;simp only[Zj];split
  ·rename_i hc;have hu:Q6 (Zj W c d k).IC (k:Int)=true:=Q4.2 ⟨Qo,Qo,hc.1⟩;obtain⟨l1,l2,l3,l4⟩:=zui b hu hc.2 d1 c0 (c:=c) (by rw[a.cs]; exact c1);refine⟨a.trans p.a.tree l1,l2,fun g gu h=>?_⟩
   by_cases e:g=(k:Int)
   ·subst e; exact l3
   ·have hkz:(k:Int)≠0:=fun e=>by have:=hc.2; rw[e,ZZ] at this; omega
    obtain⟨_,_,_,n,e1,e2,_⟩:=Y6 b.a.tree hu hkz;refine l4 g (by rw[hT.cK]; exact gu) e (fun hp=>?_) (ih g gu ?_)
    ·rw[hp,hT.dep] at e2;have:=hc.2;omega
    ·rcases h with h | h
     ·exact .inl h
     ·exact .inr ⟨h.1,by have:=h.2; omega⟩
  ·rename_i hc;refine⟨a,b,fun g gu h=>ih g gu ?_⟩;rcases h with h | h
   ·exact .inl h
   ·refine .inr ⟨h.1,?_⟩
    by_cases e:g=(k:Int)
    ·subst e;exact Ir ⟨by rw[hT.u]; exact(Q4.1 gu).2.2,by rw[hT.dep]; exact h.1⟩ hc
    ·have:=h.2;omega
theorem zgn{W:Q8}(p:Tm W){c:Int}(c0:0<=c)(c1:c<(W.ID.length:Int)):LC c W (QF W c)/\Tm (QF W c)/\∀g:Int,Q6 W.IC g=true->g≠0->VM (QF W c) c g:=by
 have key:∀j:Nat,j<=3->LC c W (YL W c j)/\Tm (YL W c j)/\∀g:Int,Q6 W.IC g=true->3-(j:Int)<dep 3 W.IC g->VM (YL W c j) c g:=by
  intro j
  induction j with
  | zero=>exact fun _=>⟨LC.refl _ _,p,fun g gu h=>by have:=(LY p.a gu).2; omega⟩
  | succ j ih=>
   intro hj;obtain⟨a,b,h⟩:=ih Qo;have hT:=a.o.g;obtain⟨a2,b2,h2⟩:=zk7 b (c:=c) (d:=3-(j:Int)) Qo c0 (by rw[a.cs]; exact c1) (fun g gu hd=>h g (by rwa[hT.cK] at gu) (by rwa[hT.dep] at hd)) 8 (I7 _);refine⟨a.trans p.a.tree a2,b2,fun g gu hd=>h2 g (by rw[hT.cK]; exact gu) ?_⟩;rw[hT.dep];have:=(Q4.1 gu).2.1;have:=p.a.gl
   by_cases e:dep 3 W.IC g=3-(j:Int)
   ·exact .inr ⟨e,Qo⟩
   ·exact .inl Qo
 obtain⟨a,b,h⟩:=key 3 (I7 _);refine⟨a,b,fun g gu gz=>h g gu ?_⟩;obtain⟨_,_,_,n,e1,_⟩:=Y6 p.a.tree gu gz;omega
theorem zbs{W:Q8}(p:Tm W):∀c:Nat,c<=W.ID.length->Tm (Ya W c)/\(Ya W c).ID=W.ID
 | 0,_=>⟨p,rfl⟩
 | c+1,hc=>by
  obtain⟨a,e⟩:=zbs p c Qo;obtain⟨l,b,_⟩:=zgn a (c:=(c:Int)) Qo (by rw[e]; omega);exact⟨b,l.cs.trans e⟩
theorem Tm.Az2{W W':Q8}(p:Tm W)(ho:VP W W')(ha:WA W'):Tm W':=by
 have et:∀t,Q7 W' t=Q7 W t:=Ja ho.t;have es:∀k d:Int,0<=k->Qc W' k d=Qc W k d:=fun k d hk=>by unfold Qc; rw[ho.s k hk]
 have est:∀k d:Int,Q6 W.IC k=true->k≠0->(VD W' k d↔VD W k d):=fun k d hu hz=>by
  unfold VD;rw[ho.g.p,es _ _ (Q4.1 (p.a.up hu hz)).1,es _ _ (Q4.1 hu).1]
 refine⟨⟨ha,fun t t0 t1=>?_,fun t t0 t1 n=>?_,fun k d hu d0 d1=>?_⟩,fun d d0 d1=>?_⟩
 ·rw[et];rcases p.t t t0 t1 with hz | ⟨n,hx⟩
  ·exact .inl hz
  ·refine .inr ⟨n,hx.st,by rw[ho.g.cK]; exact hx.g,hx.n,hx.m,hx.m0,hx.s,hx.u,hx.l1,hx.l2,fun h1=>?_⟩;rw[es _ _ (Q4.1 hx.g).1];exact hx.f h1
 ·rw[et] at n ⊢;rw[ho.c];exact p.l t t0 t1 n
 ·rw[ho.g.cK] at hu;rw[ho.c] at d1;have hs:=p.s k d hu d0 d1;have k0:=(Q4.1 hu).1;exact⟨by rw[es k d k0]; exact hs.s,by rw[es k d k0]; exact hs.root,fun hz h=>(est k d hu hz).2 (hs.st hz (by rwa[es k d k0] at h))⟩
 ·rw[ho.c] at d1;have hc:=p.c d d0 d1;refine⟨by rw[ho.c]; exact hc.b,by rw[ho.c]; exact hc.i,by rw[ho.c]; exact hc.c1,by rw[ho.c]; exact hc.c2,by rw[ho.c]; exact hc.no,by rw[ho.c]; exact hc.yes,?_⟩;rw[ho.c];simp only[et];intro h0 h1 h2;obtain⟨q1,q2⟩:=hc.q h0 h1 h2
  have hu:Q6 W.IC (Q7 W (gi W.ID d).cur).group=true:=by
   rcases p.t _ h0 hc.c2 with hz | ⟨_,hx⟩
   ·rw[hz.1] at h1; cases h1
   ·exact hx.g
  refine⟨by rw[es _ d (Q4.1 hu).1]; exact q1,fun x hx=>?_⟩;rw[Tk ho.g] at hx;obtain⟨xu,xz⟩:=YE p.a.tree _ hu x hx;obtain⟨s1,s2⟩:=q2 x hx;refine⟨(est x d xu xz).2 s1,?_⟩;rw[ho.g.p,es x d (Q4.1 xu).1,es _ d (Q4.1 (p.a.up xu xz)).1];exact s2
structure FC (c:Int) (W W':Q8):Prop where
 o:FJ c W W'
 cs:W'.ID=W.ID
 on:∀k d:Int,0<=k->0<=d->(Qc W' k d).on=(Qc W k d).on
 v:∀k d:Int,0<=k->0<=d->(Qc W' k d).v=(Qc W k d).v
 w:∀k d:Int,0<=k->0<=d->(Qc W' k d).w=(Qc W k d).w
 s:∀k d:Int,0<=k->0<=d->(Qc W' k d).sum=(Qc W k d).sum
 up:∀k d:Int,0<=k->0<=d->(Qc W k d).floor<=(Qc W' k d).floor
 fl:∀k:Int,0<=k->(Qc W' k c).floor=(Qc W k c).floor\/Zr W k c 20=true/\(Qc W' k c).floor=Z0 W k c 20
theorem Bl{W:Q8}(ha:WA W){c:Int}(c0:0<=c)(c1:c<(W.ID.length:Int)):∀k:Nat,k<=8->FC c W (QN W c k)/\WA (QN W c k)/\∀g:Int,Q6 W.IC g=true->g<(k:Int)->Zr W g c 20=true->Z0 W g c 20<=(Qc (QN W c k) g c).floor
 | 0,_=>⟨⟨FJ.refl _ _,rfl,fun _ _ _ _=>rfl,fun _ _ _ _=>rfl,fun _ _ _ _=>rfl,fun _ _ _ _=>rfl,fun _ _ _ _=>I2 _,fun _ _=>.inl rfl⟩,ha,fun g gu h=>by have:=(Q4.1 gu).1; omega⟩
 | k+1,hk=>by
  obtain⟨f,hA,ih⟩:=Bl ha c0 c1 k Qo;have hl:=hA.gl;have hT:=f.o.g;have hb:=B6 f.o.t hT ha.gl (fun i hi=>f.on i c hi c0) (fun i hi=>f.v i c hi c0);simp only[QN];split
  ·rename_i hc;have hu:Q6 (QN W c k).IC (k:Int)=true:=Q4.2 ⟨Qo,Qo,hc.1⟩;have hsl:=hA.sl hu;have qX:c<((gi (QN W c k).IC (k:Int)).IE.length:Int):=by rw[hsl,f.cs]; exact c1
   have e:∀{i j:Int},0<=i->0<=j->Qc (RA (QN W c k) (k:Int) c (Du (QN W c k) (k:Int) c)) i j=if (k:Int)=i/\c=j then Du (QN W c k) (k:Int) c else Qc (QN W c k) i j:=fun hi hj=>Uv Qo Qo c0 qX hi hj
   refine⟨⟨f.o.trans (BL Qo Qo c0 qX),f.cs,fun i j hi hj=>?_,fun i j hi hj=>?_,fun i j hi hj=>?_,fun i j hi hj=>?_,fun i j hi hj=>?_,fun i hi=>?_⟩,hA.RA Qo Qo,fun g gu hg hB=>?_⟩
   ·rw[e hi hj]; split
    ·rename_i h; obtain⟨rfl,rfl⟩:=h; exact f.on _ _ hi hj
    ·exact f.on i j hi hj
   ·rw[e hi hj]; split
    ·rename_i h; obtain⟨rfl,rfl⟩:=h; exact f.v _ _ hi hj
    ·exact f.v i j hi hj
   ·rw[e hi hj]; split
    ·rename_i h; obtain⟨rfl,rfl⟩:=h; exact f.w _ _ hi hj
    ·exact f.w i j hi hj
   ·rw[e hi hj]; split
    ·rename_i h; obtain⟨rfl,rfl⟩:=h; exact f.s _ _ hi hj
    ·exact f.s i j hi hj
   ·rw[e hi hj]; split
    ·rename_i h; obtain⟨rfl,rfl⟩:=h;have h1:=f.up (k:Int) c hi hj;have h2:=hc.2.2;show _<=Z0 (QN W c k) (k:Int) c 20;omega
    ·exact f.up i j hi hj
   ·rw[e hi c0]; split
    ·rename_i h; obtain⟨rfl,_⟩:=h;refine .inr ⟨(hb _).1▸hc.2.1,?_⟩;show Z0 (QN W c k) (k:Int) c 20=_;exact(hb _).2
    ·exact f.fl i hi
   ·have g0:=(Q4.1 gu).1;rw[e g0 c0];split
    ·rename_i h; obtain⟨rfl,_⟩:=h;show _<=Z0 (QN W c k) (k:Int) c 20;rw[(hb _).2]; exact I2 _
    ·rename_i h;exact ih g gu (by have:g≠(k:Int):=fun e=>h ⟨e.symm,rfl⟩; omega) hB
  ·rename_i hc;refine⟨f,hA,fun g gu hg hB=>?_⟩
   by_cases e:g=(k:Int)
   ·subst e;rw[hT.u,(hb _).1,(hb _).2] at hc
    by_cases h:Z0 W (k:Int) c 20>(Qc (QN W c k) (k:Int) c).floor
    ·exact Ir ⟨(Q4.1 gu).2.2,hB,h⟩ hc
    ·omega
   ·exact ih g gu Qo hB
theorem FJ.SK{c d:Int}{W W':Q8}(h:FJ c W W')(d0:0<=d)(hd:d≠c)(g:Int):QT W' g d=QT W g d:=
 OE h.t h.g fun j _ _ _ _=>by rw[h.e _ d Qo d0 hd]
theorem FJ.line{c:Int}{W W':Q8}(h:FJ c W W')(ht:Y5 W.IC){t:Int}(hu:Q6 W.IC (Q7 W t).group=true)(d0:0<=(Q7 W t).IZ)(hd:(Q7 W t).IZ≠c):ZA W' t=ZA W t:=by
 unfold ZA UU;rw[Ja h.t,Tk h.g]
 congr 1
 rw[Bool.eq_iff_iff,List.all_eq_true,List.all_eq_true];refine forall_congr' fun x=>forall_congr' fun hx=>?_
 rw[h.e x _ (Q4.1 (YE ht _ hu x hx).1).1 d0 hd]
structure Dn (W:Q8) (c:Int):Prop where
 on:∀k:Int,Q6 W.IC k=true->k≠0->VM W c k
 cu:0<=(gi W.ID c).cur->(Q7 W (gi W.ID c).cur).IZ=c/\ZA W (gi W.ID c).cur=true
 fl:∀k:Int,Q6 W.IC k=true->Zr W k c 20=true->Z0 W k c 20<=(Qc W k c).floor
theorem Dn.oth{c d:Int}{W W':Q8}(h:Dn W d)(p:Tm W)(o:FJ c W W')(d0:0<=d)(d1:d<(W.ID.length:Int))(hd:d≠c):Dn W' d:=by
 refine⟨fun k hu hz=>?_,fun h0=>?_,fun k hu hB=>?_⟩
 ·rw[o.g.cK] at hu;have k0:=(Q4.1 hu).1;have:=h.on k hu hz;unfold VM at this ⊢;rw[o.e k d k0 d0 hd,o.SK d0 hd,zie (o.b k k0)];exact this
 ·rw[o.cp d d0 hd] at h0 ⊢;rw[Ja o.t];obtain⟨h1,h2⟩:=h.cu h0;refine⟨h1,?_⟩
  have hs:(Q7 W (gi W.ID d).cur).state=1:=by
   unfold ZA at h2;rw[A'] at h2;exact Iy h2.1
  have hu:Q6 W.IC (Q7 W (gi W.ID d).cur).group=true:=by
   rcases p.t _ h0 (p.c d d0 d1).c2 with hz | ⟨_,hx⟩
   ·rw[hz.1] at hs; cases hs
   ·exact hx.g
  rw[o.line p.a.tree hu (by rw[h1]; exact d0) (by rw[h1]; exact hd)];exact h2
 ·rw[o.g.cK] at hu;have hb:=B6 (d:=d) o.t o.g p.a.gl (fun i hi=>by rw[o.e i d hi d0 hd]) (fun i hi=>by rw[o.e i d hi d0 hd]) k;rw[hb.1] at hB;rw[hb.2,o.e k d (Q4.1 hu).1 d0 hd];exact h.fl k hu hB
theorem E3.cp{W:Q8}{x:MM}(h:E3 W x)(cs:List Mj):E3 { W with ID:=cs } x:=⟨h.st,h.g,h.n,h.m,h.m0,h.s,h.u,h.l1,h.l2,h.f⟩
theorem zmm.cp{W:Q8}{k c:Int}(h:zmm W k c)(cs:List Mj):zmm { W with ID:=cs } k c:=⟨h.s,h.root,h.st⟩
theorem PreA.Rn{W:Q8}(p:PreA W){c:Int}(c0:0<=c)(c1:c<(W.ID.length:Int)):PreA (Rn W c):=by
 have hlen:(YtnclplgaicdapaaGreatDoor.Rn W c).ID.length=W.ID.length:=E';refine⟨?_,fun t t0 t1=>?_,fun t t0 t1 n=>?_,fun k d hu d0 d1=>?_⟩
 ·refine p.a.cp E' ?_;rw[zju E' fun j hj=>?_]
  ·exact p.a.sZ
  ·rw[QE _ _ c0 c1 Qo];split
   ·rename_i e; rw[<-e]; rfl
   ·rfl
 ·rcases p.t t t0 t1 with h | h
  ·exact .inl h
  ·exact .inr ⟨h.1,h.2.cp _⟩
 ·rw[hlen]; exact p.l t t0 t1 n
 ·rw[hlen] at d1; exact(p.s k d hu d0 d1).cp _
theorem Tm.Rn{W:Q8}(p:Tm W){c:Int}(c0:0<=c)(c1:c<(W.ID.length:Int)):Tm (Rn W c):=by
 refine⟨p.toPreA.Rn c0 c1,fun d d0 d1=>?_⟩;have hlen:(YtnclplgaicdapaaGreatDoor.Rn W c).ID.length=W.ID.length:=E';have jN:gi (YtnclplgaicdapaaGreatDoor.Rn W c).ID d=if c=d then XU (gi W.ID c) else gi W.ID d:=QE _ _ c0 c1 d0;rw[hlen] at d1;have hc:=p.c d d0 d1
 by_cases e:c=d
 ·subst e;rw[C' rfl] at jN;have n1:(XU (gi W.ID c)).cur = -1:=rfl;exact⟨by rw[jN]; exact hc.b,by rw[jN]; exact hc.i,by rw[jN,n1]; exact I2 _,by rw[jN,n1]; decide,fun _=>by rw[jN]; rfl,fun h=>by rw[jN,n1] at h; omega,fun h=>by rw[jN,n1] at h; omega⟩
 ·rw[B' e] at jN;exact⟨by rw[jN]; exact hc.b,by rw[jN]; exact hc.i,by rw[jN]; exact hc.c1,by rw[jN]; exact hc.c2,by rw[jN]; exact hc.no,by rw[jN]; exact hc.yes,by rw[jN]; exact hc.q⟩
theorem zvr{W:Q8}(p:Tm W){c:Int}(c0:0<=c)(c1:c<(W.ID.length:Int)):Tm (UX W c)/\FJ c W (UX W c)/\Dn (UX W c) c:=by
 obtain⟨l,p1,hon⟩:=zgn p c0 c1;obtain⟨f,hA,pK⟩:=Bl p1.a c0 (c:=c) (by rw[l.cs]; exact c1) 8 (I7 _);have f:FC c (QF W c) (Z6 (QF W c) c):=f;have hA:WA (Z6 (QF W c) c):=hA;have pK:∀g:Int,Q6 (QF W c).IC g=true->g<((8:Nat):Int)->Zr (QF W c) g c 20=true->Z0 (QF W c) g c 20<=(Qc (Z6 (QF W c) c) g c).floor:=pK;have hon:∀g:Int,Q6 (QF W c).IC g=true->g≠0->VM (QF W c) c g:=fun g gu gz=>hon g (by rwa[l.o.g.cK] at gu) gz
 have bM:=p1.a.gl;have hlc:(QF W c).ID.length=W.ID.length:=by rw[l.cs]
 have SN:UX W c=if PY (Z6 (QF W c) c) c=true then Rn (Z6 (QF W c) c) c else Z6 (QF W c) c:=rfl;have hO:FJ c W (Z6 (QF W c) c):=l.o.trans f.o;rw[SN];clear SN;have qX:c<((QF W c).ID.length:Int):=by rw[hlc]; exact c1
 generalize QF W c=V at p1 hon f hA pK bM hlc hO qX;generalize Z6 V c=F at f hA pK hO;have et:∀t,Q7 F t=Q7 V t:=Ja f.o.t;have hT:=f.o.g;have aA:=B6 (d:=c) f.o.t hT bM (fun i hi=>f.on i c hi c0) (fun i hi=>f.v i c hi c0)
 have low:∀k:Int,Q6 V.IC k=true->∀v:Int,(Zr V k c 20=true/\Z0 V k c 20<=v)->(Qc V k c).floor<=v->(Qc F k c).floor<=v:=fun k hu v hv hf=>by
  rcases f.fl k (Q4.1 hu).1 with e | ⟨_,e⟩
  ·rw[e]; exact hf
  ·rw[e]; exact hv.2
 have st:∀k d:Int,Q6 V.IC k=true->k≠0->0<=d->(Qc V k d).on=true->VD V k d->VD F k d:=fun k d hu hz d0 ho hs=>by
  have pu:=p1.a.up hu hz;have k0:=(Q4.1 hu).1;have q0:=(Q4.1 pu).1;unfold VD;rw[hT.p,f.v k d k0 d0,f.w k d k0 d0];have hup:=f.up _ d q0 d0;refine⟨?_,by have:=hs.2; omega⟩
  by_cases hd:d=c
  ·subst hd;exact low _ pu _ (zmt p1.a hu hz ho) hs.1
  ·rw[f.o.e _ d q0 d0 hd]; exact hs.1
 have pa:PreA F:=by
  refine⟨hA,fun t t0 t1=>?_,fun t t0 t1 n=>?_,fun k d hu d0 d1=>?_⟩
  ·rw[et];rcases p1.t t t0 t1 with hz | ⟨n,hx⟩
   ·exact .inl hz
   ·refine .inr ⟨n,hx.st,by rw[hT.cK]; exact hx.g,hx.n,hx.m,hx.m0,hx.s,hx.u,hx.l1,hx.l2,fun h1=>?_⟩;obtain⟨d0,d1⟩:=p1.l t t0 t1 n;have g0:=(Q4.1 hx.g).1;have hup:=f.up _ _ g0 d0;have hs:=hx.f h1;refine⟨?_,Qo⟩
    by_cases hd:(Q7 V t).IZ=c
    ·have hb:=zqw p1.a t0 t1 h1;rw[hd] at hb hs ⊢;exact low _ hx.g _ hb hs.1
    ·rw[f.o.e _ _ g0 d0 hd]; exact hs.1
  ·rw[et] at n ⊢;rw[f.cs];exact p1.l t t0 t1 n
  ·rw[hT.cK] at hu;rw[f.cs] at d1;have hs:=p1.s k d hu d0 d1;have k0:=(Q4.1 hu).1;refine⟨by rw[f.s k d k0 d0]; exact hs.s,fun hz=>?_,fun hz h=>?_⟩
   ·rw[f.on k d k0 d0,f.v k d k0 d0,f.w k d k0 d0]; exact hs.root hz
   ·rw[f.on k d k0 d0] at h;exact st k d hu hz d0 h (hs.st hz h)
 have ptu:∀t:Int,0<=t->t<12->(Q7 V t).state=1->Q6 V.IC (Q7 V t).group=true:=fun t t0 t1 h=>by
  rcases p1.t t t0 t1 with hz | ⟨_,hx⟩
  ·rw[hz.1] at h; cases h
  ·exact hx.g
 have pc:∀d:Int,0<=d->d<(V.ID.length:Int)->(d=c->PY F c=false)->zy8 F d:=fun d d0 d1 hg=>by
  have hc:=p1.c d d0 d1;refine⟨by rw[f.cs]; exact hc.b,by rw[f.cs]; exact hc.i,by rw[f.cs]; exact hc.c1,by rw[f.cs]; exact hc.c2,by rw[f.cs]; exact hc.no,by rw[f.cs]; exact hc.yes,?_⟩;rw[f.cs];simp only[et];intro h0 h1 h2;obtain⟨q1,q2⟩:=hc.q h0 h1 h2;have hu:=ptu _ h0 hc.c2 h1;have hup:=f.up _ d (Q4.1 hu).1 d0;refine⟨Qo,fun x hx=>?_⟩;rw[Tk hT] at hx;obtain⟨xu,xz⟩:=YE p1.a.tree _ hu x hx;obtain⟨s1,s2⟩:=q2 x hx;have x0:=(Q4.1 xu).1;have q0:=(Q4.1 (p1.a.up xu xz)).1;have DD5:=f.up _ d q0 d0;refine⟨?_,by rw[hT.p,f.v x d x0 d0,f.w x d x0 d0]; omega⟩
  by_cases hd:d=c
  ·subst hd
   have hl:ZA F (gi V.ID d).cur=true:=by
    have:=hg rfl;unfold PY at this;rw[f.cs,et,Ih h0,h2] at this
    simpa using this
   unfold ZA UU at hl;rw[et,h2,Tk hT,A',List.all_eq_true] at hl;have ho:=hl.2 x hx;rw[f.on x d x0 d0] at ho;exact st x d xu xz d0 ho s1
  ·unfold VD;rw[hT.p,f.o.e x d x0 d0 hd,f.o.e _ d q0 d0 hd];exact s1
 have BO5:∀k:Int,Q6 F.IC k=true->k≠0->VM F c k:=fun k hu hz=>by
  rw[hT.cK] at hu;have k0:=(Q4.1 hu).1;have:=hon k hu hz;unfold VM at this ⊢;rw[f.on k c k0 c0,OE f.o.t hT fun j _ _ _ _=>f.on _ c Qo c0,zie (f.o.b k k0)];exact this
 have CF8:∀k:Int,Q6 F.IC k=true->Zr F k c 20=true->Z0 F k c 20<=(Qc F k c).floor:=fun k hu hB=>by
  rw[hT.cK] at hu;rw[(aA k).1] at hB;rw[(aA k).2];exact pK k hu (by have:=(Q4.1 hu).2.1; omega) hB
 split
 ·rename_i hg;have cF:c<(F.ID.length:Int):=by rw[f.cs]; exact qX
  have jN:∀d:Int,0<=d->gi (Rn F c).ID d=if c=d then XU (gi F.ID c) else gi F.ID d:=fun d d0=>QE _ _ c0 cF d0
  have hlen:(Rn F c).ID.length=F.ID.length:=E';refine⟨⟨pa.Rn c0 cF,fun d d0 d1=>?_⟩,hO.trans (zlf c0 cF),BO5,fun h0=>?_,CF8⟩
  ·rw[hlen] at d1
   by_cases e:c=d
   ·subst e;have hc:=p1.c c c0 qX;have e1:gi (Rn F c).ID c=XU (gi V.ID c):=by rw[jN c c0,C' rfl,f.cs]
    have n1:(XU (gi V.ID c)).cur = -1:=rfl;exact⟨by rw[e1]; exact hc.b,by rw[e1]; exact hc.i,by rw[e1,n1]; exact I2 _,by rw[e1,n1]; decide,fun _=>by rw[e1]; rfl,fun h=>by rw[e1,n1] at h; omega,fun h=>by rw[e1,n1] at h; omega⟩
   ·have hc:=pc d d0 (by rw[<-f.cs]; exact d1) fun h=>Ir h.symm e
    have e1:gi (Rn F c).ID d=gi F.ID d:=by rw[jN d d0,B' e]
    exact⟨by rw[e1]; exact hc.b,by rw[e1]; exact hc.i,by rw[e1]; exact hc.c1,by rw[e1]; exact hc.c2,by rw[e1]; exact hc.no,by rw[e1]; exact hc.yes,by rw[e1]; exact hc.q⟩
  ·rw[jN c c0,C' rfl] at h0;have h0:(0:Int)<=-1:=h0;omega
 ·rename_i hg;have hg:PY F c=false:=by simpa using hg
  refine⟨⟨pa,fun d d0 d1=>pc d d0 (by rw[<-f.cs]; exact d1) fun _=>hg⟩,hO,BO5,fun h0=>?_,CF8⟩;unfold PY at hg;rw[Ih h0,Bool.true_and,H'] at hg;exact⟨by simpa using hg.1,by simpa using hg.2⟩
theorem zl2{W:Q8}(p:Tm W):∀c:Nat,c<=W.ID.length->Tm (XK W c)/\(XK W c).ID.length=W.ID.length/\(XK W c).tasks=W.tasks/\Z2 W.IC (XK W c).IC/\∀d:Int,0<=d->d<(c:Int)->Dn (XK W c) d
 | 0,_=>⟨p,rfl,rfl,Z2.refl _,fun d a b=>by omega⟩
 | c+1,hc=>by
  obtain⟨a,e,et,eg,ih⟩:=zl2 p c Qo;obtain⟨p1,o,dn⟩:=zvr a (c:=(c:Int)) Qo (by rw[e]; omega);refine⟨p1,o.len.trans e,o.t.trans et,eg.trans o.g,fun d d0 d1=>?_⟩
  by_cases h:d=(c:Int)
  ·subst h; exact dn
  ·exact(ih d d0 Qo).oth a o d0 (by rw[e]; omega) h
theorem zse{K:Int}{W:Q8}(sw:SW K W)(p:Tm W)(hK:0<=K):Tm (Qg W)/\Fr W (Qg W)/\∀d:Int,0<=d->d<(W.ID.length:Int)->Dn (Qg W) d:=by
 obtain⟨a,e⟩:=zbs p W.ID.length (I7 _);obtain⟨s1,_⟩:=O6 (F:=K) (K:=K+Qi) (sw.sf.mono (I2 _) (by simp only[Qi]; omega)) (I2 _) W.ID.length (I7 _);obtain⟨s2,b2⟩:=Te s1 8 (I7 _);have p2:=a.Az2 b2 s2.w.a;have e2:(Y7 (Ya W W.ID.length) 8).ID.length=W.ID.length:=by rw[b2.c,e]
 obtain⟨p3,e3,_,_,dn⟩:=zl2 p2 W.ID.length (by rw[e2]; exact I7 _);exact⟨p3,(VC sw hK).2,dn⟩
theorem z0l{K:Int}{W:Q8}(sw:SW K W)(hK:K<=100000000000000000)(p:Tm W)(hl:CE W)(dn:∀d:Int,0<=d->d<(W.ID.length:Int)->Dn W d):XS W/\z1y W:=by
 have tm:∀k c:Int,Q6 W.IC k=true->0<=c->c<(W.ID.length:Int)->ZI (Qc W k c).floor=true/\ZI (Qc W k c).v=true:=fun k c hu c0 c1=>by
  have:=sw.s k c hu c0 c1;exact⟨YZ.2 Qo,YZ.2 Qo⟩
 have tv:∀t:Int,0<=t->t<12->ZI (Q7 W t).v=true:=fun t t0 t1=>by
  have:=sw.tv t t0 t1;exact YZ.2 Qo
 refine⟨⟨p.a,fun t t0 t1=>?_,fun k c k0 k1 c0 c1=>?_,fun c c0 c1=>?_⟩,fun k c hu c0 c1 hB=>(dn c c0 c1).fl k hu hB⟩
 ·rcases p.t t t0 t1 with hz | ⟨n,hx⟩
  ·exact .inl hz
  ·obtain⟨d0,d1⟩:=p.l t t0 t1 n;exact .inr ⟨n,hx.st,hx.g,hx.n,hx.m,hx.m0,tv t t0 t1,hx.s,hx.u,hx.l1,hx.l2,hl t t0 t1 n,fun h1=>(Ft (tv t t0 t1) (tm _ _ hx.g d0 d1).1).2 (hx.f h1)⟩
 ·have bM:=p.a.gl
  have hu:Q6 W.IC k=true:=by
   cases hb:(gi W.IC k).used with
   | true=>exact Q4.2 ⟨k0,Qo,hb⟩
   | false=>
    have:=((p.a.grp k k0 k1).1 hb).l;omega
  have hsl:=p.a.sl hu;have c1:c<(W.ID.length:Int):=Qo;have hs:=p.s k c hu c0 c1;have ht:=tm k c hu c0 c1;have hw:=sw.s k c hu c0 c1;exact⟨ht.1,ht.2,hs.s,hw.2.2.2.2.1,hw.2.2.2.2.2,hs.root,fun hz=>(dn c c0 c1).on k hu hz,fun hz ho=>(Ft ht.2 (tm _ c (p.a.up hu hz) c0 c1).1).2 (hs.st hz ho)⟩
 ·have hc:=p.c c c0 c1;have iX:=p.a.t;refine⟨hc.b,hc.i,hc.c1,by have:=hc.c2; omega,hc.no,fun h0=>?_⟩;obtain⟨y1,y2,y3⟩:=hc.yes h0;obtain⟨z1,z2⟩:=(dn c c0 c1).cu h0
  have hs:(Q7 W (gi W.ID c).cur).state=1:=by
   unfold ZA at z2;rw[A'] at z2;exact Iy z2.1
  obtain⟨q1,q2⟩:=hc.q h0 hs z1;refine⟨y1,y2,y3,z1,z2,?_⟩;unfold Mc TH;rw[A',List.all_eq_true];exact⟨Ih q1,fun x hx=>Ih (q2 x hx).2⟩
theorem YJ{α β:Type}[Inhabited α]{f:α->β}(l:List α)(k:Int){x:α}(h:f x=f (gi l k))(i:Int):f (gi (l.set k.toNat x) i)=f (gi l i):=by
 unfold gi at *;simp only[List.getD_eq_getElem?_getD,List.getElem?_set] at *
 by_cases e:k.toNat=i.toNat
 ·rw[C' e];split
  ·rw[<-e]; simpa using h
  ·rename_i hl;have:l[i.toNat]? = none:=List.getElem?_eq_none_iff.2 Qo;rw[this]
 ·rw[B' e]
structure VL (W W':Q8):Prop where
 g:Z2 W.IC W'.IC
 m:∀i:Int,(gi W'.IC i).ID=(gi W.IC i).ID
 w:∀i:Int,(gi W'.IC i).weight=(gi W.IC i).weight
 len:W'.ID.length=W.ID.length
 u:∀i:Int,(gi W'.ID i).up=(gi W.ID i).up
theorem VL.refl(W:Q8):VL W W:=⟨Z2.refl _,fun _=>rfl,fun _=>rfl,rfl,fun _=>rfl⟩
theorem VL.trans{A B C:Q8}(h:VL A B)(k:VL B C):VL A C:=⟨h.g.trans k.g,fun i=>(k.m i).trans (h.m i),fun i=>(k.w i).trans (h.w i),k.len.trans h.len,fun i=>(k.u i).trans (h.u i)⟩
theorem zob{W:Q8}{g:Int}{x:ZO}(u:x.used=(gi W.IC g).used)(p:x.parent=(gi W.IC g).parent)(n:x.name=(gi W.IC g).name)(m:x.ID=(gi W.IC g).ID)(w:x.weight=(gi W.IC g).weight):VL W (Rf W g x):=
 ⟨⟨E',fun i=>YJ (f:=ZO.used) _ _ u i,fun i=>YJ (f:=ZO.parent) _ _ p i,fun i=>YJ (f:=ZO.name) _ _ n i⟩,fun i=>YJ (f:=ZO.ID) _ _ m i,fun i=>YJ (f:=ZO.weight) _ _ w i,rfl,fun _=>rfl⟩
theorem zc4(W:Q8)(g c:Int)(s:LI):VL W (RA W g c s):=zob rfl rfl rfl rfl rfl
theorem zoa(W:Q8)(g:Int)(b:UM):VL W (RI W g b):=zob rfl rfl rfl rfl rfl
theorem zc5(W:Q8)(t:Int)(x:MM):VL W (IT W t x):=⟨Z2.refl _,fun _=>rfl,fun _=>rfl,rfl,fun _=>rfl⟩
theorem zjq{W:Q8}{c:Int}{x:Mj}(u:x.up=(gi W.ID c).up):VL W (RM W c x):=⟨Z2.refl _,fun _=>rfl,fun _=>rfl,E',fun i=>YJ (f:=Mj.up) _ _ u i⟩
theorem MB(W:Q8)(c:Int):VL W (Rn W c):=zjq rfl
theorem N3(W:Q8)(c d:Int):∀k:Nat,VL W (Zj W c d k)
 | 0=>VL.refl _
 | k+1=>by
  simp only[Zj];split
  ·exact(N3 W c d k).trans (zc4 _ _ _ _)
  ·exact N3 W c d k
theorem DV(W:Q8)(c:Int):∀j:Nat,VL W (YL W c j)
 | 0=>VL.refl _
 | j+1=>(DV W c j).trans (N3 _ _ _ _)
theorem zc2(W:Q8):∀c:Nat,VL W (Ya W c)
 | 0=>VL.refl _
 | c+1=>(zc2 W c).trans (DV (Ya W c) (c:Int) 3)
theorem N1(W:Q8)(k:Int):∀c:Nat,VL W (ZM W k c)
 | 0=>VL.refl _
 | c+1=>by
  simp only[ZM];split
  ·exact(N1 W k c).trans (zoa _ _ _)
  ·exact N1 W k c
theorem N2(W:Q8):∀k:Nat,VL W (Y7 W k)
 | 0=>VL.refl _
 | k+1=>by
  simp only[Y7];split
  ·exact(N2 W k).trans (N1 _ _ _)
  ·exact N2 W k
theorem DU(W:Q8)(c:Int):∀k:Nat,VL W (QN W c k)
 | 0=>VL.refl _
 | k+1=>by
  simp only[QN];split
  ·exact(DU W c k).trans (zc4 _ _ _ _)
  ·exact DU W c k
theorem zsi(W:Q8)(c:Int):VL W (UX W c):=by
 have h:=(DV W c 3).trans (DU (QF W c) c 8);unfold UX;split
 ·exact h.trans (MB _ _)
 ·exact h
theorem zhb(W:Q8):∀c:Nat,VL W (XK W c)
 | 0=>VL.refl _
 | c+1=>(zhb W c).trans (zsi (XK W c) (c:Int))
theorem zc3(W:Q8):VL W (Qg W):=((zc2 W W.ID.length).trans (N2 (Ya W W.ID.length) 8)).trans (zhb (L3 (Ya W W.ID.length)) W.ID.length)
theorem VL.sZ{W W':Q8}(h:VL W W'):Ju W'.ID=Ju W.ID:=zju h.len fun j _=>h.u j
theorem VL.pin{W W':Q8}(h:VL W W')(g u:Int):VN W'.IC g u=VN W.IC g u:=by
 unfold VN;rw[show Z7 W'.IC g=Z7 W.IC g from h.g.path 3 g]
 congr 1
 funext s x
 rw[h.m]
theorem VL.wh{W W':Q8}(h:VL W W')(g m:Int):Qw W' g m=Qw W g m:=by
 unfold Qw;rw[h.sZ,h.pin]
theorem VL.loc{W W':Q8}(h:VL W W')(ht:W'.tasks=W.tasks)(hl:CE W):CE W':=fun t t0 t1 n=>by
 rw[Ja ht] at n ⊢;rw[h.wh];exact hl t t0 t1 n
theorem zc0{K:Int}{W:Q8}(sw:SW K W)(hK:0<=K)(eB:K+UL<=100000000000000000)(p:Tm W)(hl:CE W):XS (Qg W)/\z1y (Qg W):=by
 obtain⟨p1,hf,dn⟩:=zse sw p hK;exact z0l (VC sw hK).1 eB p1 ((zc3 W).loc hf.t hl) fun d d0 d1=>dn d d0 (by rw[<-hf.c]; exact d1)
theorem zmm.BY2{W W':Q8}{k c:Int}(h:zmm W k c)(e:Qc W' k c=Qc W k c)(ep:k≠0->(Qc W' (gi W'.IC k).parent c).floor=(Qc W (gi W.IC k).parent c).floor):zmm W' k c:=
 ⟨by rw[e]; exact h.s,by rw[e]; exact h.root,fun hz ho=>by
  rw[e] at ho;have:=h.st hz ho;unfold VD at this ⊢;rw[e,ep hz]; exact this⟩
theorem Tm.IT{W:Q8}(p:Tm W){t:Int}(t0:0<=t)(t1:t<12){x:MM}(hx:x.state=0/\x=TI\/x.state≠0/\E3 W x/\0<=x.IZ/\x.IZ<(W.ID.length:Int))(hc:∀c:Int,0<=c->c<(W.ID.length:Int)->(gi W.ID c).cur=t->x.state=1->x.IZ=c->x.v-(Qc W x.group c).floor<=Za (gi W.ID c).WH (Qf x.nice)/\∀y∈Z7 W.IC x.group,VD W y c/\(Qc W y c).v-(Qc W (gi W.IC y).parent c).floor<=Za (gi W.ID c).WH (Qc W y c).w):Tm (IT W t x):=by
 have hl:=p.a.t;have e:∀i:Int,0<=i->Q7 (YtnclplgaicdapaaGreatDoor.IT W t x) i=if t=i then x else Q7 W i:=fun i i0=>QE _ _ t0 Qo i0
 refine⟨⟨p.a.tk E',fun i a b=>?_,fun i a b n=>?_,fun k c hu c0 c1=>?_⟩,fun c c0 c1=>?_⟩
 ·rw[e i a];split
  ·rcases hx with h | ⟨h1,h2,_⟩
   ·exact .inl h
   ·exact .inr ⟨h1,h2.st,h2.g,h2.n,h2.m,h2.m0,h2.s,h2.u,h2.l1,h2.l2,h2.f⟩
  ·rcases p.t i a b with h | ⟨h1,h2⟩
   ·exact .inl h
   ·exact .inr ⟨h1,h2.st,h2.g,h2.n,h2.m,h2.m0,h2.s,h2.u,h2.l1,h2.l2,h2.f⟩
 ·rw[e i a] at n ⊢;split
  ·rename_i h;rw[C' h] at n;rcases hx with h | ⟨_,_,h2⟩
   ·exact Ir h.1 n
   ·exact h2
  ·rename_i h;rw[B' h] at n;exact p.l i a b n
 ·exact(p.s k c hu c0 c1).BY2 rfl fun _=>rfl
 ·have h:=p.c c c0 c1;refine⟨h.b,h.i,h.c1,h.c2,h.no,h.yes,fun h0=>?_⟩;rw[e _ h0];split
  ·rename_i he;exact fun h1 h2=>hc c c0 c1 he.symm h1 h2
  ·exact h.q h0
def Dv(p:Nat->Bool):Nat->Int
 | 0 => -1
 | k+1=>if (decide (Dv p k<0)&&p k)=true then (k:Int) else Dv p k
theorem Kb(p:Nat->Bool):∀k:Nat,(Dv p k = -1/\∀j,j<k->p j=false)\/(0<=Dv p k/\Dv p k<(k:Int)/\p (Dv p k).toNat=true/\∀j:Nat,(j:Int)<Dv p k->p j=false)
 | 0=>.inl ⟨rfl,fun j hj=>Ir hj (Nat.not_lt_zero j)⟩
 | k+1=>by
  simp only[Dv];rcases Kb p k with ⟨h1,h2⟩ | ⟨h1,h2,h3,h4⟩
  ·cases hp:p k with
   | true=>
    rw[h1,C' (by rfl)];exact .inr ⟨Qo,Qo,by simpa using hp,fun j hj=>h2 j Qo⟩
   | false=>
    rw[B' Qs,h1];refine .inl ⟨rfl,fun j hj=>?_⟩
    by_cases e:j=k
    ·rw[e]; exact hp
    ·exact h2 j Qo
  ·rw[B' (by rw[decide_eq_false (by omega:¬Dv p k<0)]; simp)];exact .inr ⟨h1,Qo,h3,h4⟩
theorem zo9{p:Nat->Bool}{n:Nat}(h:∀j,j<n->p j=false):Dv p n = -1:=by
 rcases Kb p n with ⟨h1,_⟩ | ⟨h1,h2,h3,_⟩
 ·exact h1
 ·rw[h _ Qo] at h3; cases h3
theorem zo8{p:Nat->Bool}{n:Nat}{a:Int}(a0:0<=a)(a1:a<(n:Int))(hp:p a.toNat=true)(hn:∀j:Nat,(j:Int)<a->p j=false):Dv p n=a:=by
 rcases Kb p n with ⟨_,h2⟩ | ⟨h1,h2,h3,h4⟩
 ·rw[h2 _ Qo] at hp; cases hp
 ·by_cases l:Dv p n<a
  ·rw[hn _ Qo] at h3; cases h3
  ·by_cases g:a<Dv p n
   ·rw[h4 _ Qo] at hp; cases hp
   ·omega
def M0(W:Q8)(j:Nat):Bool:=(Q7 W (j:Int)).state==0
def Td(W:Q8):Int:=Dv (M0 W) 12
noncomputable def OO(W:Q8)(g n x:Int):Int:=if Qf n=0\/Po x=false\/x=0 then 1 else if Q6 W.IC g=false then 2 else if Td W<0 then 3 else if QQ W=false then 10 else 0
def L2(W:Q8)(g x:Int):Int:=Mo W (Qw W g x)
def G5(W:Q8)(g n x:Int):MM:=⟨1,g,L2 W g x,n,x,(Qc W g (L2 W g x)).floor,0,0,0⟩
def zkp(W:Q8)(g n x:Int):Q8:=Qg (Rn (IT W (Td W) (G5 W g n x)) (L2 W g x))
noncomputable def VR(W:Q8)(bar:Int)(W':Q8)(a:Int):Q8×Int×Int:=if Qx W=false then (KA,-1,1) else if bar≠0 then (W,-1,bar) else (W',a,0)
def Oo(r:Q8×Int×Int)(w:Wo)(v:Va)(w':Wo):Prop:=∃n m',v=.tuple #[.agg (Qa r.1 m').toArray,.int .i64 r.2.1,.int .i64 r.2.2]/\Zf n w.heap.size w' r.1 m'/\Q0 [] w w'
structure z0w (W:Q8) (g n x:Int):Prop where
 w:Qf n≠0
 m:Po x=true
 m0:x≠0
 u:Q6 W.IC g=true
 f0:0<=Td W
 f1:Td W<12
 f2:(Q7 W (Td W)).state=0
 r:QQ W=true
 sw:SW Qj W
 c0:0<=L2 W g x
 c1:L2 W g x<(W.ID.length:Int)
 ch:QX (Qw W g x) (L2 W g x)=true
 sw2:SW Qj (IT W (Td W) (G5 W g n x))
theorem zo6{W:Q8}{g n x:Int}(hW:Qx W=true)(hb:OO W g n x=0):z0w W g n x:=by
 have wp:=Ql.1 hW;unfold OO at hb
 split at hb
 ·cases hb
 ·rename_i h1
  split at hb
  ·cases hb
  ·rename_i h2
   split at hb
   ·cases hb
   ·rename_i h3
    split at hb
    ·cases hb
    ·rename_i h4;have h4:QQ W=true:=by simpa using h4
     have h2:Q6 W.IC g=true:=by simpa using h2
     have sw:=Md wp (Ql.1 h4)
     have hf:0<=Td W/\Td W<12/\M0 W (Td W).toNat=true:=by
      rcases Kb (M0 W) 12 with ⟨a,_⟩ | ⟨a,b,c,_⟩
      ·unfold Td at h3; omega
      ·exact⟨a,b,c⟩
     obtain⟨c0,c1,ch⟩:=Ha wp.a g x;have hs:=sw.s g _ h2 c0 c1;have e:(((Td W).toNat:Nat):Int)=Td W:=Qo;refine⟨fun h=>h1 (.inl h),?_,fun h=>h1 (.inr (.inr h)),h2,hf.1,hf.2.1,?_,h4,sw,c0,c1,ch,sw.IT hf.1 hf.2.1 (x:=G5 W g n x) (fun _=>⟨h2,c0,c1⟩) hs.1 hs.2.1⟩
     ·cases hm:Po x with
      | true=>rfl
      | false=>exact Ir (.inr (.inl hm)) h1
     ·have:=hf.2.2;unfold M0 at this;rw[e] at this;exact Iy this
section
variable {W W':Q8}{m:MW}{w:Wo}{bar a:Int}
theorem Oo.bad{w':Wo}(hW:Qx W=false)(hx:Q0 [] w w'):Oo (VR W bar W' a) w (.tuple #[.agg (Qa KA zwb).toArray,.int .i64 (-1),.int .i64 1]) w':=by
 rw[show VR W bar W' a=(KA,-1,1) from C' hW];exact⟨0,zwb,rfl,Zf.zero _ _,hx⟩
theorem Oo.no{n:Nat}{bs:List Nat}{w':Wo}{m':MW}(hW:Qx W=true)(hb:bar≠0)(hk:Wk n bs w w' W m'){c:Int}(hc:bar=c):Oo (VR W bar W' a) w (.tuple #[.agg (Qa W m').toArray,.int .i64 (-1),.int .i64 c]) w':=by
 rw[show VR W bar W' a=(W,-1,c) by unfold VR; rw[B' (by rw[hW]; decide),C' hb,hc]];exact⟨n,m',rfl,hk.fin⟩
theorem Oo.ok{n:Nat}{bs:List Nat}{w':Wo}{m':MW}(hW:Qx W=true)(hb:bar=0)(hk:Wk n bs w w' W' m'):Oo (VR W bar W' a) w (.tuple #[.agg (Qa W' m').toArray,.int .i64 a,.int .i64 0]) w':=by
 rw[show VR W bar W' a=(W',a,0) by unfold VR; rw[B' (by rw[hW]; decide),B' (by simpa using hb)]];exact⟨n,m',rfl,hk.fin⟩
theorem L8{g n x:Int}(h:XQ [] w W m)(hl:UN W) :
  Cz Xd #[.agg (Qa W m).toArray,.int .i64 g,.int .i64 n,.int .i64 x] w fun e w'=>∃v,e=.returned v/\Oo (VR W (OO W g n x) (zkp W g n x) (Td W)) w v w':=by
 refine Ah W.now m.cO W.ID.length m.cC m.tO W.tasks.length m.tC m.gO W.IC.length m.gC g n x (R:=fun v w'=>Oo (VR W (OO W g n x) (zkp W g n x) (Td W)) w v w') ?_;intro y hy y1 bE wr R0 SS;refine I3 (Zc (h.ext R0) hl) ?_;rintro e wv (⟨hW,he,Sn⟩ | ⟨hW,m',he,hM,Sn⟩)
 ·exact⟨_,_,_,_,_,_,_,_,_,_,_,he,Qe Sn SS,fun _ I' R4=>Oo.bad hW ((R0.trans Sn).fresh R4 fun z hm=>.inl (Yi hy bE z hm)),fun g=>by simp at g⟩
 have hK:=Wk.begin hy bE R0 SS hM Sn;have hr:=hK.rd;have wp:=Ql.1 hW;have iX:=wp.a.t;refine⟨_,_,_,_,_,_,_,_,_,_,_,he,Qe Sn SS,fun g=>by split at g <;> simp at g,fun _=>⟨_,ZK,_,fun _=>Xa,fun g1 J' R4=>?_,fun g1=>⟨_,Xb hr.g,fun g2 Rp R4=>?_,fun g2=>⟨⟨Qo,Qo⟩,?_⟩⟩⟩⟩
 ·have hb:OO W g n x=1:=by
   unfold OO;rw[C'];simp only[Iu,Is,IB] at g1;rcases g1 with (g1 | g1) | g1
   ·exact .inl g1
   ·exact .inr (.inl g1)
   ·exact .inr (.inr g1)
  exact Oo.no hW (by rw[hb]; decide) (hK.step R4) hb
 ·have n1:¬(Qf n=0\/Po x=false\/x=0):=by
   simp only[H',beq_eq_false_iff_ne,I6,ne_eq] at g1;rintro (h | h | h)
   ·exact g1.1.1 h
   ·rw[g1.1.2] at h; cases h
   ·exact g1.2 h
  have hb:OO W g n x=2:=by unfold OO; rw[B' n1,C' (by simpa using g2)]
  exact Oo.no hW (by rw[hb]; decide) (hK.step R4) hb
 have n1:¬(Qf n=0\/Po x=false\/x=0):=by
  simp only[H',beq_eq_false_iff_ne,I6,ne_eq] at g1;rintro (h | h | h)
  ·exact g1.1.1 h
  ·rw[g1.1.2] at h; cases h
  ·exact g1.2 h
 have hu:Q6 W.IC g=true:=by simpa using g2
 have n2:¬Q6 W.IC g=false:=by rw[hu]; decide
 refine⟨fun vs w1=>∃a t:Int,vs=[.int .i64 a,.int .i64 t]/\-1<=t/\t<12/\(a = -1/\(∀j:Nat,t<(j:Int)->j<12->M0 W j=false)\/t<a/\a<12/\M0 W a.toNat=true/\∀j:Nat,t<(j:Int)->(j:Int)<a->M0 W j=false)/\Q0 [y,y1] wv w1,
  fun vs _=>(ZR 1 vs+1).toNat,fun w1 rA _=>⟨-1,_,rfl,Qo,Qo,.inl ⟨rfl,fun j h1 h2=>by omega⟩,rA⟩,?_⟩
 rintro av tv R1 dQ ⟨a,t,aE,ht0,ht1,AL5,hxw⟩;simp only[I4,I5,true_and,and_true] at aE;obtain⟨rfl,rfl⟩:=aE;have hK1:=hK.step hxw;have tQ:=hK1.rd;refine⟨fun IS=>?_,fun Ry=>?_⟩
 ·have IS:=Ot IS;have e:((tv.toNat:Nat):Int)=tv:=Qo;have kW:M0 W tv.toNat=((Q7 W tv).state==0):=by unfold M0; rw[e]
  refine⟨tQ.t.ix QG IS Qo,_,tQ.t.f IS Qo (j:=0) rfl,fun g3=>⟨⟨Qo,Qo⟩,fun RH Sg _=>⟨⟨tv,tv-1,rfl,Qo,Qo,.inr ⟨Qo,ht1,by rw[kW]; exact g3,fun j h1 h2=>by omega⟩,hxw.trans Sg⟩,?_⟩⟩,fun g3=>⟨⟨Qo,Qo⟩,fun Sf aO _=>⟨⟨av,tv-1,rfl,Qo,Qo,?_,hxw.trans aO⟩,?_⟩⟩⟩
  ·simp only[ZR,Ie,List.getElem?_cons_succ]; omega
  ·have g3:M0 W tv.toNat=false:=by rw[kW]; exact g3
   have one:∀j:Nat,tv-1<(j:Int)->¬tv<(j:Int)->M0 W j=false:=fun j h1 h2=>by
    have:j=tv.toNat:=Qo;rw[this]; exact g3
   rcases AL5 with ⟨h1,h2⟩ | ⟨h1,h2,h3,h4⟩
   ·exact .inl ⟨h1,fun j j1 j2=>if h:tv<(j:Int) then h2 j h j2 else one j j1 h⟩
   ·exact .inr ⟨Qo,h2,h3,fun j j1 j2=>if h:tv<(j:Int) then h4 j h j2 else one j j1 h⟩
  ·simp only[ZR,Ie,List.getElem?_cons_succ]; omega
 ·have Ry:=Ou Ry;have ht:tv = -1:=Qo;subst ht
  have rK:av=Td W:=by
   rcases AL5 with ⟨h1,h2⟩ | ⟨h1,h2,h3,h4⟩
   ·rw[h1]; exact(zo9 fun j hj=>h2 j Qo hj).symm
   ·exact(zo8 Qo h2 h3 fun j hj=>h4 j Qo hj).symm
  subst rK;refine⟨fun g4 SH jH=>?_,fun g4=>⟨fun g5 SZ oZ=>?_,fun g5=>?_⟩⟩
  ·have g4:=Ot g4;have hb:OO W g n x=3:=by unfold OO; rw[B' n1,B' n2,C' g4]
   exact Oo.no hW (by rw[hb]; decide) (hK1.step jH) hb
  ·have g4:=Ou g4;have aQ:¬QQ W=true:=fun hr=>by rw[C' hr] at g5; simp at g5
   have hb:OO W g n x=10:=by unfold OO; rw[B' n1,B' n2,B' g4,C' (by simpa using aQ)]
   rw[B' aQ];exact Oo.no hW (by rw[hb]; decide) (hK1.step oZ) hb
  have g4:=Ou g4;have aQ:QQ W=true:=Iq fun hr=>by rw[B' hr] at g5; simp at g5
  have hb:OO W g n x=0:=by unfold OO; rw[B' n1,B' n2,B' g4,B' (by rw[aQ]; decide)]
  have hf:=zo6 hW hb;obtain⟨u0,u1,_⟩:=Q4.1 hu;have hsl:=wp.a.sl hu;have c0:=hf.c0;have c1:=hf.c1;have f0:=hf.f0;have f1:=hf.f1;have SE:Wk 8 [y,y1] w (Rl R1 m'.tO (Int.toNat (Td W)*9) (Xv (G5 W g n x))) (IT W (Td W) (G5 W g n x)) m':=hK1.Rl (hK1.own.AA0 f0 (by rw[iX]; exact f1) (j:=0) (vs:=Xv (G5 W g n x)) (x:=G5 W g n x) (by simp[Xv]) (by simp[Xv])) GJ;refine⟨_,J6 tQ wp.a.c2 wp.a.tree hu,_,L9 tQ wp.a (zug wp),tQ.g.ix u0 u1,_,_,_,tQ.g.RC u0 u1,(tQ.g.IE g u0 u1).ix YW c0 (by rw[hsl]; exact c1),(Qc W g (L2 W g x)).floor,zmh.f (tQ.g.IE g u0 u1) c0 (by rw[hsl]; exact c1) (j:=0) rfl,tQ.t.ix QG f0 (by rw[iX]; exact f1),zqn hK1.own hK1.nb f0 (by rw[iX]; exact f1) (j:=0) (k:=9) Qd,fun WT lB hs9=>?_⟩;have e5:Qa (IT W (Td W) (G5 W g n x)) m'=Qa W m':=Ms _ _ _ _;have dB:=SE.step lB;have WZ:=Zw dB.own c0 (show L2 W g x<((IT W (Td W) (G5 W g n x)).ID.length:Int) from c1);rw[e5] at WZ;refine I3 WZ ?_;rintro e2 Rx ⟨aE,fL⟩;refine⟨_,_,_,_,_,_,_,_,_,_,aE,dB.kept fL hs9,fun Sd yX mH=>?_⟩;have hK7:=(dB.Sj fL hs9).step yX;have rI:=Qv hK7.own (hf.sw2.Rn c0 c1) Qd Qd hK7.base;refine I3 rI ?_;rintro e3 S6 ⟨m2,iU,hy5⟩;exact⟨_,_,_,_,_,_,_,_,_,_,iU,hK7.kept hy5 mH,fun SZ oZ=>Oo.ok hW hb ((hK7.Sj hy5 mH).step oZ)⟩
end
section
variable {base pb:Nat}{W W':Q8}{m:MW}{w:Wo}
end
structure Jc (W:Q8):Prop where
 wp:XS W
 fl:z1y W
theorem Zu{K:Int}{W:Q8}(sw:SW K W)(hK:0<=K)(eB:K+UL<=100000000000000000)(p:Tm W)(hl:CE W):Jc (Qg W):=by
 obtain⟨a,b⟩:=zc0 sw hK eB p hl;exact⟨a,b⟩
theorem CE.Rn{W:Q8}(h:CE W)(c:Int):CE (Rn W c):=(MB W c).loc rfl h
theorem CE.IT{W:Q8}(h:CE W)(ha:WA W){t:Int}(t0:0<=t)(t1:t<12){x:MM}(hx:x.state≠0->QX (Qw W x.group x.mask) x.IZ=true):CE (IT W t x):=fun i i0 i1 n=>by
 have hl:=ha.t;have e:Q7 (YtnclplgaicdapaaGreatDoor.IT W t x) i=if t=i then x else Q7 W i:=QE _ _ t0 Qo i0;rw[e] at n ⊢;rw[(zc5 W t x).wh]
 split at n
 ·rename_i he;rw[C' he]; exact hx n
 ·rename_i he;rw[B' he]; exact h i i0 i1 n
theorem zwx(W:Q8)(t c:Int)(x:MM):Rn (IT W t x) c=IT (Rn W c) t x:=rfl
theorem Ok{W:Q8}(p:Tm W){t:Int}(t0:0<=t)(t1:t<12)(n:(Q7 W t).state≠0):E3 W (Q7 W t):=by
 rcases p.t t t0 t1 with h | h
 ·exact Ir h.1 n
 ·exact h.2
theorem zre{W:Q8}{t:Int}(hW:Qx W=true)(hb:VS W t=0):Jc (zh6 W t):=by
 have wp:=Ql.1 hW;obtain⟨h1,h2,sw,sw2⟩:=zj6 hW hb;obtain⟨t0,t1,n⟩:=YQ h1;have hl:=wp.a.t;have p:=Xm wp;have h:=Ok p t0 Qo n;have pM:=UI wp;refine Zu sw2 Qd Qd (p.IT t0 Qo (.inr ⟨by show (2:Int)≠0; decide,⟨.inr rfl,h.g,h.n,h.m,h.m0,h.s,h.u,h.l1,h.l2,fun h=>by cases h⟩,p.l t t0 Qo n⟩) fun c c0 c1 _ hs _=>by cases hs) (pM.IT wp.a t0 Qo fun _=>pM t t0 Qo n)
theorem zt6{W:Q8}{t:Int}(hW:Qx W=true)(hb:OM W t=0):Jc (Nh W t):=by
 have wp:=Ql.1 hW;obtain⟨h1,_,sw,_,sw2⟩:=zin hW hb;obtain⟨t0,t1,n⟩:=YQ h1;have hl:=wp.a.t;have p:=Xm wp;obtain⟨c0,c1⟩:=p.l t t0 Qo n
 have key:Tm (Z1 W t)/\CE (Z1 W t):=by
  unfold Z1;split
  ·exact⟨p.Rn c0 c1,(UI wp).Rn _⟩
  ·exact⟨p,UI wp⟩
 exact Zu sw2 Qd Qd (key.1.IT t0 Qo (.inl ⟨rfl,rfl⟩) fun c c0 c1 _ hs _=>by cases hs) (key.2.IT key.1.a t0 Qo fun h=>Ir rfl h)
theorem Ct{W:Q8}(p:Tm W){t c:Int}(t0:0<=t)(t1:t<12){x:MM}(n:x.state≠0)(hx:E3 W x)(hc:x.IZ=c)(c0:0<=c)(c1:c<(W.ID.length:Int)):Tm (Rn (IT W t x) c):=by
 rw[zwx];have hl:(Rn W c).ID.length=W.ID.length:=E';refine(p.Rn c0 c1).IT t0 t1 (.inr ⟨n,⟨hx.st,hx.g,hx.n,hx.m,hx.m0,hx.s,hx.u,hx.l1,hx.l2,hx.f⟩,by rw[hl,hc]; exact⟨c0,c1⟩⟩) fun d d0 d1 pJ _ hd=>?_
 rw[hc] at hd;subst hd;have e1:gi (Rn W c).ID c=XU (gi W.ID c):=(QE _ _ c0 c1 c0).trans (C' rfl);rw[e1] at pJ;have pJ:(-1:Int)=t:=pJ;omega
theorem zzy(f v w:Int):f<=f+Y9 (v-f) w/\f+Y9 (v-f) w-f<=ZD w:=by
 have:=ZQ (v-f) w;omega
theorem zt8{W:Q8}{t n:Int}(hW:Qx W=true)(hb:Pi W t n=0):Jc (Gu W t n):=by
 have wp:=Ql.1 hW;have hq:=zpr hW hb;obtain⟨t0,t1,tn⟩:=YQ hq.th;have hl:=wp.a.t;have p:=Xm wp;have hw:Qf n≠0:=fun h=>by unfold Pi at hb; rw[C' h] at hb; cases hb
 have h:=Ok p t0 Qo tn;obtain⟨c0,c1⟩:=p.l t t0 Qo tn;have pM:=UI wp;have hL:CE (IT W t (J8 W t n)):=pM.IT wp.a t0 Qo fun _=>pM t t0 Qo tn
 have hT:E3 W (J8 W t n):=⟨h.st,h.g,hw,h.m,h.m0,h.s,h.u,h.l1,h.l2,fun hs=>by
  have hs:(Q7 W t).state=1:=hs;rw[zpq hs];exact zzy _ _ _⟩
 have hK:K1+UL<=100000000000000000:=by simp only[K1,Qi,UL]; decide
 have hK0:0<=K1:=by simp only[K1,Qi]; decide
 unfold Gu;split
 ·rename_i hs
  have hlv:Z1 (IT W t (J8 W t n)) t=if (gi W.ID (Q7 W t).IZ).cur=t then Rn (IT W t (J8 W t n)) (Q7 W t).IZ else IT W t (J8 W t n):=by
   unfold Z1;rw[KU t0 t1]; rfl
  have s2:=hq.s2;rw[hlv] at s2 ⊢;split
  ·rename_i pJ;rw[C' pJ] at s2;exact Zu s2 hK0 hK (Ct p t0 Qo tn hT rfl c0 c1) (hL.Rn _)
  ·rename_i pJ;rw[B' pJ] at s2;refine Zu s2 hK0 hK (p.IT t0 Qo (.inr ⟨tn,hT,c0,c1⟩) fun d d0 d1 hd _ hx=>?_) hL;have hx:(Q7 W t).IZ=d:=hx;rw[hx] at pJ;exact Ir hd pJ
 ·rename_i hs;exact Zu hq.s1 hK0 hK (p.IT t0 Qo (.inr ⟨tn,hT,c0,c1⟩) fun d d0 d1 hd hx _=>Ir hx hs) hL
theorem zub{W:Q8}{t:Int}(hW:Qx W=true)(hb:MF W t=0):Jc (Nu W t):=by
 have wp:=Ql.1 hW;obtain⟨h1,h2,_,sf,c0,c1⟩:=zqk hW hb;obtain⟨t0,t1,tn⟩:=YQ h1;have hl:=wp.a.t;have p:=Xm wp;have h:=Ok p t0 Qo tn;have pM:=UI wp
 have hT:E3 W (Tl W t (Mi W t)):=⟨.inl rfl,h.g,h.n,h.m,h.m0,h.s,h.u,h.l1,h.l2,fun _=>by
  have:=ZQ ((Q7 W t).v-(Qc W (Q7 W t).group (Q7 W t).IZ).floor) (Qf (Q7 W t).nice);show (Qc W (Q7 W t).group (Mi W t)).floor<=(Qc W (Q7 W t).group (Mi W t)).floor+HA W t/\(Qc W (Q7 W t).group (Mi W t)).floor+HA W t-(Qc W (Q7 W t).group (Mi W t)).floor<=ZD (Qf (Q7 W t).nice);unfold HA;exact⟨Qo,Qo⟩⟩
 have hwh:QX (Qw W (Q7 W t).group (Q7 W t).mask) (Mi W t)=true:=by
  unfold Mi;split
  ·exact(Ha wp.a _ _).2.2
  ·exact pM t t0 Qo tn
 exact Zu ((zjx sf t0 t1 tn c0 c1).Rn c0 c1).w (by simp only[Qi]; decide) (by simp only[Qi,UL]; decide) (Ct p t0 Qo (show (1:Int)≠0 by decide) hT rfl c0 c1) ((pM.IT wp.a t0 Qo (x:=Tl W t (Mi W t)) fun _=>hwh).Rn _)
def Es(l u:Int):Int:=if YK l 0 8000000=true/\YK u 0 1000000=true then l-Int.tdiv l 8+u else 0
def zei(x:MM):MM:={ x with used:=0,load:=Zx (Es x.load (Zx x.used 1000000)) 8000000 }
def OX(W:Q8):Nat->Q8
 | 0=>W
 | t+1=>IT (OX W t) (t:Int) (zei (Q7 (OX W t) (t:Int)))
def Gt(next p now:Int):Nat->Int
 | 0=>next
 | i+1=>if Gt next p now i<=now+((i:Int)+1) then Gt next p now i+p else Gt next p now i
structure zsx (next p now v:Int):Prop where
 gt:now<v
 nA:∃j:Nat,v=next+p*(j:Int)/\(j=0\/v-p<=now)
theorem DF{next p now:Int}(hp:1<=p)(hn:now<next):∀i:Nat,zsx next p (now+(i:Int)) (Gt next p now i)
 | 0=>⟨by simp only[Gt]; omega,0,by simp only[Gt]; omega,.inl rfl⟩
 | i+1=>by
  obtain⟨h1,j,h2,h3⟩:=DF hp hn i;simp only[Gt]
  push_cast
  split
  ·refine⟨Qo,j+1,?_,.inr Qo⟩;rw[h2]; push_cast; rw[Int.mul_add,Int.mul_one,Int.add_assoc]
  ·exact⟨Qo,j,h2,h3.imp id fun h=>by omega⟩
theorem zxe{next p now v v':Int}(hp:1<=p)(h:zsx next p now v)(h':zsx next p now v'):v=v':=by
 obtain⟨h1,j,h2,h3⟩:=h;obtain⟨k1,k,k2,k3⟩:=h'
 have key:∀a b:Nat,a<b->p*(a:Int)+p<=p*(b:Int):=fun a b hab=>by
  have:p*((a:Int)+1)<=p*(b:Int):=Int.mul_le_mul_of_nonneg_left Qo Qo;rw[Int.mul_add,Int.mul_one] at this;exact this
 rcases Nat.lt_trichotomy j k with h | h | h
 ·have:=key j k h; omega
 ·subst h; omega
 ·have:=key k j h; omega
def XJ(now:Int)(n:Nat)(G:ZO):ZO:=if (G.used&&(G.IQ.IW != 0))=true/\G.next<=now+(n:Int) then { G with next:=Gt G.next G.period now n,IQ:=Jg G.IQ } else G
theorem zns{now:Int}{G:ZO}(h:G.IQ.IW≠0->now<G.next):XJ now 0 G=G:=by
 unfold XJ;rw[B'];rintro⟨h1,h2⟩;simp only[A',It,ne_eq] at h1;have:=h h1.2;simp at h2;omega
def Tj(W:Q8)(n:Nat):Nat->Q8
 | 0=>{ W with now:=W.now+(n:Int) }
 | k+1=>Rf (Tj W n k) (k:Int) (XJ W.now n (gi W.IC (k:Int)))
def ZN(W:Q8)(n:Nat):Q8:=Tj W n 8
noncomputable def Lf(W:Q8)(n:Int):Int:=if YK n 1 1000=false then 1 else if QQ W=false then 10 else 0
def zhh(W:Q8)(n:Int):Q8:=Qg (OX (ZN W n.toNat) 12)
theorem H8(now:Int)(n:Nat)(G:ZO):(XJ now n G).used=G.used/\(XJ now n G).parent=G.parent/\(XJ now n G).name=G.name/\(XJ now n G).IE=G.IE/\(XJ now n G).weight=G.weight/\(XJ now n G).ID=G.ID/\(XJ now n G).sum=G.sum/\(XJ now n G).period=G.period/\(XJ now n G).IQ.IW=G.IQ.IW:=by
 unfold XJ; split <;> exact⟨rfl,rfl,rfl,rfl,rfl,rfl,rfl,rfl,rfl⟩
theorem O9(W:Q8)(n:Nat):∀k:Nat,(Tj W n k).IC.length=W.IC.length/\(Tj W n k).now=W.now+(n:Int)/\(Tj W n k).ID=W.ID/\(Tj W n k).tasks=W.tasks
 | 0=>⟨rfl,rfl,rfl,rfl⟩
 | k+1=>by
  obtain⟨a,b,c,d⟩:=O9 W n k;exact⟨by show (List.set _ _ _).length=_; rw[E']; exact a,b,c,d⟩
theorem Kp(W:Q8)(n:Nat):∀k:Nat,k<=W.IC.length->∀i:Int,0<=i->gi (Tj W n k).IC i=if i<(k:Int) then XJ W.now n (gi W.IC i) else gi W.IC i
 | 0,_,i,i0=>by rw[B' Qo]; rfl
 | k+1,hk,i,i0=>by
  have ih:=Kp W n k Qo i i0;have hl:=(O9 W n k).1;show gi (Rf (Tj W n k) (k:Int) _).IC i=_;rw[YY Qo Qo i0]
  by_cases e:(k:Int)=i
  ·subst e;rw[C' rfl,C' Qo]
  ·rw[B' e,ih]
   by_cases h:i<(k:Int)
   ·rw[C' h,C' Qo]
   ·rw[B' h,B' Qo]
theorem zo1(W:Q8):∀k:Nat,(OX W k).IC=W.IC/\(OX W k).now=W.now/\(OX W k).ID=W.ID/\(OX W k).tasks.length=W.tasks.length
 | 0=>⟨rfl,rfl,rfl,rfl⟩
 | k+1=>by
  obtain⟨a,b,c,d⟩:=zo1 W k;exact⟨a,b,c,by show (List.set _ _ _).length=_; rw[E']; exact d⟩
theorem zo2{K:Int}{W:Q8}(h:SW K W):∀k:Nat,k<=12->SW K (OX W k)
 | 0,_=>h
 | k+1,hk=>by
  have ih:=zo2 h k Qo;have hv:=ih.tv (k:Int) Qo Qo;exact ih.IT Qo Qo (x:=zei (Q7 (OX W k) (k:Int))) (fun hs=>ih.t (k:Int) Qo Qo hs) hv.1 hv.2
theorem ztv{b:UM}(h:Oq b):Oq (Jg b)/\(Jg b).locals.length=b.locals.length:=by
 have hd:=h.dl;refine⟨⟨h.q1,h.q2,by simp only[Jg,List.length_replicate]; have:=h.l1; omega,by simp only[Jg,List.length_replicate]; have:=h.l2; omega,by simp[Jg],by simp only[Jg]; have:=h.q1; omega,I2 _,by simp[Jg],by simp only[Jg]; have:=h.q1; omega,fun c c0 c1=>?_,?_⟩,by simp[Jg,hd]⟩
 ·simp only[Jg,List.length_replicate] at c1 ⊢;rw[PV _ _ c0 c1,PV _ _ c0 c1];have:=h.q1;exact⟨I2 _,Qo,fun h=>by cases h⟩
 ·simp only[Jg,List.length_replicate];rw[N4 _ _ (I7 _)]; omega
theorem zu0{W W':Q8}{n:Nat}{k:Int}{G:ZO}(hg:zmk W k G)(hu:G.used=true)(hn:W'.now=W.now+(n:Int))(hc:W'.ID.length=W.ID.length):zmk W' k (XJ W.now n G):=by
 obtain⟨_,_,_,u4,u5,u6,u7,u8,u9⟩:=H8 W.now n G;refine⟨by rw[u5]; exact hg.w1,by rw[u5]; exact hg.w2,by rw[u6]; exact hg.m,by rw[u6]; exact hg.m0,by rw[u7]; exact hg.s,by rw[u4,hc]; exact hg.len,fun h=>by rw[u5,u6,u9]; exact hg.root h,fun hq=>?_,fun hq=>?_⟩
 ·rw[u9] at hq
  have:XJ W.now n G=G:=by
   unfold XJ;rw[B'];rintro⟨h1,_⟩;simp only[A',It,ne_eq] at h1;exact h1.2 hq
  rw[this];exact hg.none hq
 ·rw[u9] at hq;obtain⟨b1,b2,b3,b4,b5,b6⟩:=hg.IQ hq;rw[hn,hc];unfold XJ;split
  ·obtain⟨f1,f2⟩:=ztv b1;have hj:=DF b3 b5 n;refine⟨f1,by show (Jg G.IQ).locals.length=_; rw[f2]; exact b2,b3,b4,hj.gt,?_⟩;obtain⟨h1,j,h2,h3⟩:=hj;show Gt G.next G.period W.now n-(W.now+(n:Int))<=G.period;rcases h3 with rfl | h3
   ·simp at h2; omega
   ·omega
  ·rename_i hcnd;have IS:W.now+(n:Int)<G.next:=Int.not_le.1 fun hle=>hcnd ⟨by rw[hu]; simpa using hq,hle⟩
   exact⟨b1,b2,b3,b4,IS,Qo⟩
theorem DP(W:Q8)(n:Nat):∀k:Nat,k<=W.IC.length->Z2 W.IC (Tj W n k).IC
 | 0,_=>Z2.refl _
 | k+1,hk=>by
  have ih:=DP W n k Qo;have hl:=(O9 W n k).1;have e:=Kp W n k Qo (k:Int) Qo;rw[B' Qo] at e;obtain⟨u1,u2,u3,_⟩:=H8 W.now n (gi W.IC (k:Int));exact ih.trans (JE (W:=Tj W n k) (g:=(k:Int)) (x:=XJ W.now n (gi W.IC (k:Int))) Qo Qo (by rw[u1,e]) (by rw[u2,e]) (by rw[u3,e]))
theorem zu1{K:Int}{W:Q8}{n:Nat}(h:SW K W)(h1:W.now+(n:Int)<=100000000000000000):SW K (ZN W n):=by
 have hl:=h.a.gl;have hT:=DP W n 8 Qo;obtain⟨l1,l2,l3,l4⟩:=O9 W n 8
 have e:∀i:Int,0<=i->i<8->gi (ZN W n).IC i=XJ W.now n (gi W.IC i):=fun i a b=>by
  have:=Kp W n 8 Qo i a
  rwa[C' (show i<((8:Nat):Int) by omega)] at this
 have n1:=h.a.n1;have et:∀t:Int,Q7 (ZN W n) t=Q7 W t:=fun t=>by unfold Q7; rw[show (ZN W n).tasks=W.tasks from l4]
 have ec:(ZN W n).ID=W.ID:=l3;have hT:Z2 W.IC (ZN W n).IC:=hT;refine⟨⟨by rw[show (ZN W n).now=_ from l2]; omega,by rw[show (ZN W n).now=_ from l2]; exact h1,by rw[ec]; exact h.a.c1,by rw[ec]; exact h.a.c2,by rw[show (ZN W n).tasks=W.tasks from l4]; exact h.a.t,hT.tree h.a.tree,by rw[ec]; exact h.a.sZ,fun k a b=>?_⟩,fun t a b hs=>?_,fun t a b=>?_,fun k c u a b=>?_,fun c a b=>?_⟩
 ·have hg:=h.a.grp k a b;obtain⟨u1,u2,u3,u4,u5,u6,u7,u8,u9⟩:=H8 W.now n (gi W.IC k);unfold MK;rw[e k a b];refine⟨fun hu=>?_,fun hu=>?_⟩
  ·rw[u1] at hu
   have:XJ W.now n (gi W.IC k)=gi W.IC k:=by
    unfold XJ;rw[B'];rintro⟨h1,_⟩;rw[hu] at h1;cases h1
   rw[this];exact hg.1 hu
  ·rw[u1] at hu;exact zu0 (hg.2 hu) hu l2 (by rw[ec])
 ·rw[et] at hs ⊢;rw[hT.cK,ec];exact h.t t a b hs
 ·rw[et]; exact h.tv t a b
 ·rw[hT.cK] at u;rw[ec] at b;have hk:=Q4.1 u
  have:Qc (ZN W n) k c=Qc W k c:=by
   unfold Qc;rw[e k hk.1 Qo,(H8 W.now n (gi W.IC k)).2.2.2.1]
  rw[this];exact h.s k c u a b
 ·rw[ec] at b ⊢;exact h.cu c a b
theorem z0f{W:Q8}(ha:WA W):ZN W 0=W:=by
 have hl:=ha.gl;obtain⟨l1,l2,l3,l4⟩:=O9 W 0 8
 have hg:(ZN W 0).IC=W.IC:=zm8 l1 fun k hk=>by
  have hk8:k<8:=by have:(ZN W 0).IC.length=W.IC.length:=l1; omega
  have:=Kp W 0 8 Qo (k:Int) Qo;rw[C' Qo] at this;refine this.trans (zns fun hq=>?_);have hgp:=ha.grp (k:Int) Qo Qo
  cases hu:(gi W.IC (k:Int)).used with
  | true=>exact((hgp.2 hu).IQ hq).2.2.2.2.1
  | false=>
   have:=(hgp.1 hu).b;exact Ir (by unfold O8 at this; simp only[A',Is] at this; exact this.1.1.1.1) hq
 have h2:(ZN W 0).now=W.now:=by rw[show (ZN W 0).now=_ from l2]; simp
 have h3:(ZN W 0).ID=W.ID:=l3;have h4:(ZN W 0).tasks=W.tasks:=l4;generalize ZN W 0=V at hg h2 h3 h4;cases V;cases W;simp only at hg h2 h3 h4;subst hg; subst h2; subst h3; subst h4;rfl
theorem zqf{W:Q8}{n:Int}(hW:Qx W=true)(hb:Lf W n=0):YK n 1 1000=true/\QQ W=true/\SW Qj W/\W.now<=Qj/\SW Qj (ZN W n.toNat)/\SW Qj (OX (ZN W n.toNat) 12):=by
 have wp:=Ql.1 hW;unfold Lf at hb
 split at hb
 ·cases hb
 ·rename_i h1
  split at hb
  ·cases hb
  ·rename_i h3;have h1:YK n 1 1000=true:=by simpa using h1
   have h3:QQ W=true:=by simpa using h3
   have hr:=Ql.1 h3;have sw:=Md wp hr;have hn:=hr.n;have hi:=Qu.1 h1;have hh:Qj=50000000000000000:=rfl;have s1:=zu1 (n:=n.toNat) sw Qo;exact⟨h1,h3,sw,hn,s1,zo2 s1 12 (I7 _)⟩
section
variable {W W':Q8}{m:MW}{w:Wo}{bar:Int}
theorem zwo{l u:Int}(h1:YK l 0 8000000=true)(h2:YK u 0 1000000=true):0<=Int.tdiv l 8/\Int.tdiv l 8<=l:=by
 have:=Qu.1 h1;rw[Int.tdiv_eq_ediv_of_nonneg this.1];omega
theorem Bv{bs:List Nat}{l u:Int}:PX bs T2 #[I l,I u] w (I (Es l u)):=
 BP l u fun wr hx=>⟨_,Qp,_,fun _=>Qp,fun g=>(by
  unfold Es;rw[B'];rintro⟨h1,h2⟩;rw[h1,h2] at g
  cases g),fun g=>by
  have h1:YK l 0 8000000=true:=by cases h:YK l 0 8000000 <;> simp_all
  have h2:YK u 0 1000000=true:=by cases h:YK u 0 1000000 <;> simp_all
  have hb:=zwo h1 h2;have i1:=Qu.1 h1;have i2:=Qu.1 h2;refine⟨⟨Qd,Qo,Qo⟩,⟨Qo,Qo⟩,⟨Qo,Qo⟩,?_⟩;unfold Es;rw[C' ⟨h1,h2⟩]⟩
theorem zn6{W:Q8}{k:Int}(h0:0<=k)(h1:k<(W.IC.length:Int)):Rf W k (gi W.IC k)=W:=by
 unfold Rf;rw[Kt h0 h1]
theorem AD{n:Int}(h:XQ [] w W m)(hl:UN W) :
  Cz TT #[.agg (Qa W m).toArray,I n] w fun e w'=>∃v,e=.returned v/\QL (Yp W (Lf W n) (zhh W n)) w v w':=by
 refine Al _ _ _ _ _ _ _ _ _ _ n (R:=fun v w'=>QL (Yp W (Lf W n) (zhh W n)) w v w') ?_;intro x hx x1 S9 wr R0 SS;refine I3 (Zc (h.ext R0) hl) ?_;rintro e wv (⟨hW,he,hy⟩ | ⟨hW,m',he,hM,hy⟩)
 ·exact⟨_,_,_,_,_,_,_,_,_,_,_,he,Qe hy SS,false,fun g=>by simp at g,fun _ I' R4=>QL.bad hW ((R0.trans hy).fresh R4 fun y hm=>.inl (Yi hx S9 y hm)),fun g=>by simp at g⟩
 have hK:=Wk.begin hx S9 R0 SS hM hy;have tN:((if QQ W=true then 0 else 10:Int)==1)=false:=by split <;> rfl
 refine⟨_,_,_,_,_,_,_,_,_,_,_,he,Qe hy SS,_,fun _=>Qp,fun g I' R4=>?_,fun g=>⟨fun g3 J' R4=>?_,fun g3=>?_⟩⟩
 ·rw[tN] at g;have g:YK n 1 1000=false:=by simpa using g
  have hb:Lf W n=1:=by unfold Lf; rw[C' g]
  exact QL.no hW (by rw[hb]; decide) (hK.step R4) hb
 ·rw[tN] at g;have g:YK n 1 1000=true:=by simpa using g
  have aQ:¬QQ W=true:=fun hr=>by rw[C' hr] at g3; simp at g3
  have hb:Lf W n=10:=by unfold Lf; rw[B' (by rw[g]; decide),C' (by simpa using aQ)]
  rw[B' aQ];exact QL.no hW (by rw[hb]; decide) (hK.step R4) hb
 rw[tN] at g;have g:YK n 1 1000=true:=by simpa using g
 have aQ:QQ W=true:=Iq fun hr=>by rw[B' hr] at g3; simp at g3
 have hb:Lf W n=0:=by unfold Lf; rw[B' (by rw[g]; decide),B' (by rw[aQ]; decide)]
 obtain⟨_,_,sw,CJ0,sp,sd⟩:=zqf hW hb;have hn:=Qu.1 g;obtain⟨N,rfl⟩:=Int.eq_ofNat_of_zero_le (show 0<=n by omega);have hE:zhh W (N:Int)=Qg (OX (ZN W N) 12):=by unfold zhh; rw[Ig]
 rw[Ig] at sp sd;rw[hE];have bM:=sw.a.gl;have iX:=sw.a.t;have hn1:=sw.a.n1;have hh:Qj=50000000000000000:=rfl;refine⟨⟨Qo,Qo⟩,?_⟩;refine Xx W.IC.length 0 rfl (fun k w2=>k<=8/\∃m2,Wk 8 [x,x1] w w2 (Tj W N k) m2/\m2={ m' with ms:=m2.ms }) (fun w2 R4 _=>⟨Qd,m',(show Wk 8 [x,x1] w wv (Tj W N 0) m' from ⟨hK.s,⟨⟨hK.own.c,hK.own.t,hK.own.g,hK.own.len⟩,hK.nb⟩⟩).step R4,rfl⟩) fun k w2 dQ ⟨hk8,m2,eB,hd2⟩=>?_
 obtain⟨l1,l2,l3,l4⟩:=O9 W N k;have eG:=Kp W N k Qo (k:Int) Qo;rw[B' Qo] at eG;have SN:Tj W N (k+1)=Rf (Tj W N k) (k:Int) (XJ W.now N (gi W.IC (k:Int))):=rfl;have mF:k=8->ZN W N=Tj W N k:=fun e=>by rw[e]; rfl
 have Bv4:(k:Int)<(W.IC.length:Int)->Rf (Tj W N k) (k:Int) (gi W.IC (k:Int))=Tj W N k:=fun IS=>by
  have:=zn6 (W:=Tj W N k) (k:=(k:Int)) Qo Qo
  rwa[eG] at this
 have emg:m2.gO=m'.gO:=by rw[hd2]
 have emc:m2.gC=m'.gC:=by rw[hd2]
 refine⟨fun IS=>?_,fun Ry=>?_⟩
 ·have IS:=Ot IS;generalize Tj W N k=V at eB l1 l2 l3 l4 eG SN mF Bv4;have hr:=eB.rd;have Bn1:(k:Int)<(V.IC.length:Int):=Qo;have V':Ix m'.gO W.IC.length (k:Int):=by have:=hr.g.ix (i:=(k:Int)) Qo Bn1; rwa[l1,emg] at this
  have hcs:=hr.g.cells (k:Int) Qo Bn1;rw[eG,emg] at hcs;refine⟨V',_,_,_,_,_,_,_,_,_,_,_,_,_,_,_,_,_,_,_,_,hcs,fun b2 bT=>⟨fun g4=>⟨⟨Qo,Qo⟩,fun w3 R4 _=>Qm Qo ⟨Qo,m2,?_,hd2⟩⟩,fun g4 RH Sg jO=>?_⟩⟩
  ·have:XJ W.now N (gi W.IC (k:Int))=gi W.IC (k:Int):=by
    unfold XJ;rw[B'];rintro⟨a,b⟩;simp only[Iu,IB,Is,Ij] at g4;simp only[A',It,ne_eq] at a;rcases g4 with (h1 | h1) | h1
    ·rw[a.1] at h1; cases h1
    ·exact a.2 h1
    ·omega
   rw[SN,this,Bv4 IS];exact eB.step R4
  ·simp only[H',I6,beq_eq_false_iff_ne,ne_eq,decide_eq_false_iff_not] at g4;obtain⟨⟨hu,hq⟩,C89⟩:=g4;have jA:=(sw.a.grp (k:Int) Qo Qo).2 hu;obtain⟨dD,hbl,hp1,fG,hnx,hnp⟩:=jA.IQ hq
   have hP:XJ W.now N (gi W.IC (k:Int))={ gi W.IC (k:Int) with next:=Gt (gi W.IC (k:Int)).next (gi W.IC (k:Int)).period W.now N,IQ:=Jg (gi W.IC (k:Int)).IQ }:=by
    unfold XJ;rw[C' ⟨by rw[hu]; simpa using hq,Qo⟩]
   have hJ:=DF hp1 hnx N;have pI:=(eB.add bT).step (Sg.mono fun y hy=>Ia _ hy);have hr5:=pI.o.rd0;have hLo:=hr5.g.locals (k:Int) Qo Bn1;have hDo:=hr5.g.Rw (k:Int) Qo Bn1;rw[eG] at hLo hDo;refine I3 (US (op:=⟨4,0,0⟩) dD hLo hDo) ?_;rintro e Rx ⟨pb,he,hO,Sn⟩;have Ce8:ZL (gi W.IC (k:Int)).IQ ⟨4,0,0⟩=(Jg (gi W.IC (k:Int)).IQ,0):=by unfold ZL; rw[C' rfl]
   rw[Ce8] at he hO
   dsimp only at he hO
   refine⟨_,_,_,_,_,_,_,_,_,_,he,Qe Sn jO,fun b3 hb3=>?_⟩;have dB:=(pI.M' Sn).add hb3
   have hOb:∀y∈Yn pb,y∉QR 8 m2/\y∉[x,x1]++[b2]++[b3]:=fun y hy=>by
    have:=hO.lt y hy;refine⟨fun hm=>by have:=(pI.own.lt y hm).2; omega,fun hm=>?_⟩;rcases Im.1 hm with h1 | h1
    ·have:=jO y h1; omega
    ·have:y=b3:=by simpa using h1
     omega
   have hO4:Zn w.heap.size Rx (Jg (gi W.IC (k:Int)).IQ) pb:=hO.mono pI.base;refine⟨fun vs w'=>∃v:Int,vs=Yq { gi W.IC (k:Int) with next:=v,IQ:=Jg (gi W.IC (k:Int)).IQ } (K2 (m2.ms k) pb)/\(∃j:Nat,v=(gi W.IC (k:Int)).next+(gi W.IC (k:Int)).period*(j:Int)/\(j=0\/v-(gi W.IC (k:Int)).period<=W.now+(N:Int)))/\0<=v/\Wk 8 ([x,x1]++[b2]++[b3]) w w' V m2/\Zn w.heap.size w' (Jg (gi W.IC (k:Int)).IQ) pb,fun vs _=>(W.now+(N:Int)+1-ZR 6 vs).toNat,fun SH jH hs7=>⟨(gi W.IC (k:Int)).next,by simp[Yq,K2],⟨0,Qs,.inl rfl⟩,Qo,dB.step (jH.mono fun y hy=>Ia _ hy),hO4.ext jH fun y hy hm=>(hOb y hy).2 (Ia _ hm)⟩,?_⟩;rintro l0 a1 a2 a3 a4 a5 a6 a7 a8 a9 a10 C11 C10 C09 C14 C13 C12 C17 C16 C15 bB cJ ⟨v,hv,hj,hv0,cQ,hO5⟩;simp only[Yq,Zv,List.cons_append,List.nil_append,I4,Value.bool.injEq,I5,Value.string.injEq,Iv,true_and,and_true] at hv;obtain⟨rfl,rfl,rfl,rfl,rfl,rfl,rfl,rfl,rfl,rfl,rfl,⟨rfl,rfl,rfl⟩,⟨rfl,rfl,rfl⟩,rfl,rfl,rfl⟩:=hv;refine⟨fun hle=>?_,fun hgt=>?_⟩
   ·have hle:=Ot hle;refine⟨⟨Qo,Qo⟩,fun SZ oZ hs8=>⟨⟨a6+(gi W.IC (k:Int)).period,rfl,?_,Qo,cQ.step oZ,hO5.ext oZ fun y hy=>(hOb y hy).2⟩,?_⟩⟩
    ·obtain⟨j,h1,_⟩:=hj;exact⟨j+1,by rw[h1]; push_cast; rw[Int.mul_add,Int.mul_one,Int.add_assoc],.inr Qo⟩
    ·show (_-(a6+(gi W.IC (k:Int)).period)).toNat<(_-a6).toNat;omega
   ·have hgt:=Ou hgt;have hv6:a6=Gt (gi W.IC (k:Int)).next (gi W.IC (k:Int)).period W.now N:=zxe hp1 ⟨Qo,hj⟩ hJ;have tH:=zqm cQ.own cQ.nb (i:=(k:Int)) Qo Qo (j:=0) (k:=14) Qd;rw[emg] at tH;refine⟨V',tH,⟨Qo,Qo⟩,fun WT lB hs9=>Qm Qo ⟨Qo,LD m2 k (K2 (m2.ms k) pb),?_,by rw[hd2]; rfl⟩⟩;rw[SN];have tE:=cQ.gr (g:=(k:Int)) Qo Qo (G:=XJ W.now N (gi W.IC (k:Int))) (p:=pb) (j:=0) (vs:=Yq (XJ W.now N (gi W.IC (k:Int))) (K2 (m2.ms k) pb)) (by rw[hP]; exact hO5) hOb (by rw[eG]; exact(H8 _ _ _).2.2.2.1) (by simp[Yq]) (by simp[Yq]);refine(tE.step (w':=WT) ?_).sub fun y hy=>Ia _ (Ia _ hy)
    rw[hP,<-hv6,emg];exact lB
 ·have Ry:=Ou Ry;rw[<-mF Qo] at eB l1 l2 l3 l4;have emt:m2.tO=m'.tO:=by rw[hd2]
  refine Xx W.tasks.length 0 rfl (fun t w2=>t<=12/\Wk 8 [x,x1] w w2 (OX (ZN W N) t) m2) (fun w2 R4 _=>⟨Qd,eB.step R4⟩) fun t w2 cJ ⟨B44,pI⟩=>?_
  obtain⟨q1,q2,q3,q4⟩:=zo1 (ZN W N) t;have AF6:OX (ZN W N) (t+1)=IT (OX (ZN W N) t) (t:Int) (zei (Q7 (OX (ZN W N) t) (t:Int))):=rfl;have AL7:t=12->OX (ZN W N) 12=OX (ZN W N) t:=fun e=>by rw[e]
  generalize hU:OX (ZN W N) t=U at pI q1 q2 q3 q4 AF6 AL7;have hr:=pI.rd;refine⟨fun IS=>?_,fun aP Si uB AM5=>?_⟩
  ·have IS:=Ot IS;have t1:(t:Int)<(U.tasks.length:Int):=by rw[q4,l4]; exact IS
   have V':Ix m'.tO W.tasks.length (t:Int):=by have:=hr.t.ix QG (i:=(t:Int)) Qo t1; rwa[q4,l4,emt] at this
   have hcs:=hr.t (t:Int) Qo t1;rw[emt] at hcs;have tH:=zqn pI.own pI.nb (i:=(t:Int)) Qo t1 (j:=0) (k:=9) Qd;rw[emt] at tH;refine⟨V',_,_,_,_,_,_,_,_,_,hcs,fun b4 hb4=>⟨_,Jt,_,Bv,_,Jt,V',tH,⟨Qo,Qo⟩,fun Se AM6 yW=>Qm Qo ⟨Qo,?_⟩⟩⟩;rw[AF6];have SE:=pI.own.AA0 (i:=(t:Int)) Qo t1 (j:=0) (vs:=Xv (zei (Q7 U (t:Int)))) (x:=zei (Q7 U (t:Int))) (by simp[Xv]) (by simp[Xv]);have dB:=pI.Rl SE GJ;rw[emt] at dB;exact dB.step AM6
  ·have aP:=Ou aP;rw[AL7 Qo] at sd ⊢;have dB:=pI.step uB;have Rg:=Qv dB.own sd Qd Qd dB.base
   have e5:Qa U m2=[I (W.now+(N:Int)),.slice m'.cO W.ID.length m'.cC,.slice m'.tO W.tasks.length m'.tC,.slice m'.gO W.IC.length m'.gC]:=by
    unfold Qa;rw[q2,q3,q4,q1,l1,l2,l3,l4,hd2]
   rw[e5] at Rg;refine I3 Rg ?_;rintro e2 Rx ⟨m3,aE,Sn⟩;exact⟨_,_,_,_,_,_,_,_,_,_,aE,dB.kept Sn AM5,fun SY Bb5=>QL.ok hW hb ((dB.Sj Sn AM5).step Bb5)⟩
structure Mn (base pb:Nat) (w0:Wo) (m0:MW) (w:Wo) (W:Q8) (m:MW):Prop where
 own:Zf 8 base w W m
 pt:w.heap[pb]? = some (.cells (Qa W m).toArray Q5 (0,0))
 pn:pb∉QR 8 m
 ext:Q0 (pb::QR 8 m0) w0 w
 sub:∀x∈QR 8 m,x∈QR 8 m0\/w0.heap.size<=x
section
variable {base pb:Nat}{w0 w':Wo}{m0 m':MW}
theorem Mn.start(h:PW base pb w W m):Mn base pb w m w W m:=⟨h.own,h.pt,h.pn,Q0.refl _ _,fun _ hx=>.inl hx⟩
end
end
theorem Tm.same{W W':Q8}(p:Tm W)(ha:WA W')(ht:W'.tasks=W.tasks)(hc:W'.ID=W.ID)(hT:Z2 W.IC W'.IC)(hs:∀k c:Int,Qc W' k c=Qc W k c):Tm W':=by
 have est:∀k c:Int,VD W' k c↔VD W k c:=fun k c=>by
  unfold VD;rw[hT.p,hs,hs]
 refine⟨⟨ha,fun t t0 t1=>?_,fun t t0 t1 n=>by rw[Ja ht] at n ⊢; rw[hc]; exact p.l t t0 t1 n,fun k c hk c0 c1=>?_⟩,fun c c0 c1=>?_⟩
 ·rw[Ja ht];rcases p.t t t0 t1 with h | ⟨h1,h2⟩
  ·exact .inl h
  ·exact .inr ⟨h1,h2.st,by rw[hT.cK]; exact h2.g,h2.n,h2.m,h2.m0,h2.s,h2.u,h2.l1,h2.l2,fun h=>by rw[hs]; exact h2.f h⟩
 ·rw[hT.cK] at hk;rw[hc] at c1;exact(p.s k c hk c0 c1).BY2 (hs _ _) fun _=>by rw[hT.p,hs]
 ·rw[hc] at c1;have h:=p.c c c0 c1;refine⟨by rw[hc]; exact h.b,by rw[hc]; exact h.i,by rw[hc]; exact h.c1,by rw[hc]; exact h.c2,by rw[hc]; exact h.no,by rw[hc]; exact h.yes,fun h0 h1 h2=>?_⟩;rw[hc,Ja ht] at *;obtain⟨q1,q2⟩:=h.q h0 h1 h2;refine⟨by rw[hs]; exact q1,fun y hy=>?_⟩;rw[Tk hT] at hy;rw[est,hT.p,hs,hs];exact q2 y hy
theorem zyl{W W':Q8}(hT:Z2 W.IC W'.IC)(hm:∀i:Int,(gi W'.IC i).ID=(gi W.IC i).ID)(hu:Ju W'.ID=Ju W.ID)(g m:Int):Qw W' g m=Qw W g m:=by
 unfold Qw
 have hp:VN W'.IC g (Ju W.ID)=VN W.IC g (Ju W.ID):=by
  unfold VN;rw[show Z7 W'.IC g=Z7 W.IC g from hT.path 3 g]
  congr 1
  funext s x
  rw[hm]
 rw[hu,hp]
theorem CE.same{W W':Q8}(h:CE W)(ht:W'.tasks=W.tasks)(hT:Z2 W.IC W'.IC)(hm:∀i:Int,(gi W'.IC i).ID=(gi W.IC i).ID)(hu:Ju W'.ID=Ju W.ID):CE W':=fun t t0 t1 n=>by
 rw[Ja ht] at n ⊢;rw[zyl hT hm hu];exact h t t0 t1 n
theorem zn9{W:Q8}{g:Int}{x:ZO}(s:x.IE=(gi W.IC g).IE)(k c:Int):Qc (Rf W g x) k c=Qc W k c:=by
 unfold Qc;rw[show (gi (Rf W g x).IC k).IE=(gi W.IC k).IE from YJ (f:=ZO.IE) _ _ s k]
theorem zw8{W:Q8}{g q p:Int}(hW:Qx W=true)(hb:zk5 W g q p=0):Jc (zxm W g q p):=by
 have wp:=Ql.1 hW;obtain⟨hu,hz,_,_,sw,sw2⟩:=zuh hW hb;obtain⟨u0,u1,_⟩:=Q4.1 hu;have h:=zi3 (W:=W) (g:=g) (q:=q) (p:=p);have hT:=JE (W:=W) (x:=MZ W g q p) u0 u1 h.1 h.2.1 h.2.2.1;exact Zu sw2 Qd Qd ((Xm wp).same sw2.a rfl rfl hT (zn9 h.2.2.2.1)) ((UI wp).same rfl hT (fun i=>YJ (f:=ZO.ID) _ _ h.2.2.2.2.2.1 i) rfl)
theorem zua{W:Q8}{n:Int}(hW:Qx W=true)(hb:Lf W n=0):Jc (zhh W n):=by
 have wp:=Ql.1 hW;obtain⟨_,_,sw,_,sp,sd⟩:=zqf hW hb;have bM:=wp.a.gl;obtain⟨l1,l2,l3,l4⟩:=O9 W n.toNat 8;have hT:Z2 W.IC (ZN W n.toNat).IC:=DP W n.toNat 8 Qo
 have key:∀i:Int,(gi (ZN W n.toNat).IC i).IE=(gi W.IC i).IE/\(gi (ZN W n.toNat).IC i).ID=(gi W.IC i).ID:=fun i=>by
  have hu:=H8 W.now n.toNat (gi W.IC ((i.toNat:Nat):Int));have e:=Kp W n.toNat 8 Qo ((i.toNat:Nat):Int) Qo;rw[za1 (ZN W n.toNat).IC i,za1 W.IC i];unfold ZN;rw[e];split
  ·exact⟨hu.2.2.2.1,hu.2.2.2.2.2.1⟩
  ·exact⟨rfl,rfl⟩
 have p1:Tm (ZN W n.toNat):=(Xm wp).same sp.a l4 l3 hT fun k c=>by unfold Qc; rw[(key k).1]
 have q1:CE (ZN W n.toNat):=(UI wp).same l4 hT (fun i=>(key i).2) (by rw[show (ZN W n.toNat).ID=W.ID from l3])
 have all:∀k:Nat,k<=12->Tm (OX (ZN W n.toNat) k)/\CE (OX (ZN W n.toNat) k):=by
  intro k
  induction k with
  | zero=>exact fun _=>⟨p1,q1⟩
  | succ k ih=>
   intro hk;obtain⟨a,b⟩:=ih Qo;show Tm (IT (OX (ZN W n.toNat) k) (k:Int) (zei (Q7 (OX (ZN W n.toNat) k) (k:Int))))/\CE (IT (OX (ZN W n.toNat) k) (k:Int) (zei (Q7 (OX (ZN W n.toNat) k) (k:Int))));generalize OX (ZN W n.toNat) k=V at a b
   by_cases hs:(Q7 V (k:Int)).state=0
   ·have hz:Q7 V (k:Int)=TI:=by
     rcases a.t (k:Int) Qo Qo with h | h
     ·exact h.2
     ·exact Ir hs h.1
    rw[hz];have hd:zei TI=TI:=Qd;rw[hd];exact⟨a.IT Qo Qo (.inl ⟨rfl,rfl⟩) fun c _ _ _ h _=>(by cases h),b.IT a.a Qo Qo fun h=>Ir rfl h⟩
   ·have h:=Ok a (t:=(k:Int)) Qo Qo hs;have hlo:=a.l (k:Int) Qo Qo hs
    have hld:0<=(zei (Q7 V (k:Int))).load/\(zei (Q7 V (k:Int))).load<=8000000:=by
     have h1:=h.l1;have h2:=h.l2;have h3:=YZ.1 h.u
     have ht:0<=Int.tdiv (Q7 V (k:Int)).load 8/\Int.tdiv (Q7 V (k:Int)).load 8<=(Q7 V (k:Int)).load:=by
      rw[Int.tdiv_eq_ediv_of_nonneg h1];omega
     show 0<=Zx (Es (Q7 V (k:Int)).load (Zx (Q7 V (k:Int)).used 1000000)) 8000000/\Zx (Es (Q7 V (k:Int)).load (Zx (Q7 V (k:Int)).used 1000000)) 8000000<=8000000;have hm:0<=Zx (Q7 V (k:Int)).used 1000000:=by unfold Zx; split <;> omega
     have hbt:0<=Es (Q7 V (k:Int)).load (Zx (Q7 V (k:Int)).used 1000000):=by unfold Es; split <;> omega
     generalize Es (Q7 V (k:Int)).load (Zx (Q7 V (k:Int)).used 1000000)=y at hbt;unfold Zx
     split <;> omega
    refine⟨a.IT Qo Qo (.inr ⟨hs,⟨h.st,h.g,h.n,h.m,h.m0,h.s,by show ZI 0=true; decide,hld.1,hld.2,h.f⟩,hlo⟩) fun c c0 c1 pJ h1 h2=>?_,b.IT a.a Qo Qo fun _=>b (k:Int) Qo Qo hs⟩;have hc:=(a.c c c0 c1).q (by rw[pJ]; omega);rw[pJ] at hc;exact hc h1 h2
 obtain⟨p2,q2⟩:=all 12 (I7 _);exact Zu sd Qd Qd p2 q2
theorem zcr{W:Q8}(p:Tm W){t g c:Int}(t0:0<=t)(t1:t<12)(n:(Q7 W t).state≠0)(hg:Q6 W.IC g=true)(c0:0<=c)(c1:c<(W.ID.length:Int)):Tm (Jd W t g c):=by
 have h:=Ok p t0 t1 n
 have hT:E3 W (VA W t g c):=⟨h.st,hg,h.n,h.m,h.m0,h.s,h.u,h.l1,h.l2,fun _=>by
  have:=ZQ ((Q7 W t).v-(Qc W (Q7 W t).group (Q7 W t).IZ).floor) (Qf (Q7 W t).nice);show (Qc W g c).floor<=(Qc W g c).floor+HA W t/\(Qc W g c).floor+HA W t-(Qc W g c).floor<=ZD (Qf (Q7 W t).nice);unfold HA;exact⟨Qo,Qo⟩⟩
 unfold Jd;split
 ·exact Ct p t0 t1 n hT rfl c0 c1
 ·rename_i hs;exact p.IT t0 t1 (.inr ⟨n,hT,c0,c1⟩) fun d _ _ _ h _=>Ir h hs
theorem CA(W:Q8)(t g c:Int):VL W (Jd W t g c):=by
 unfold Jd;split
 ·exact(zc5 _ _ _).trans (MB _ _)
 ·exact zc5 _ _ _
theorem znz{W:Q8}(hl:W.tasks.length=12){t g c:Int}(t0:0<=t)(t1:t<12){i:Int}(i0:0<=i):Q7 (Jd W t g c) i=if t=i then VA W t g c else Q7 W i:=by
 have e:Q7 (IT W t (VA W t g c)) i=if t=i then VA W t g c else Q7 W i:=QE _ _ t0 Qo i0;unfold Jd;split
 ·exact e
 ·exact e
theorem zp1{W:Q8}(p:Tm W):∀k:Nat,k<=12->Tm (X4 W k)/\VL W (X4 W k)/\(∀t:Int,0<=t->t<(k:Int)->(Q7 (X4 W k) t).state≠0->QX (Qw (X4 W k) (Q7 (X4 W k) t).group (Q7 (X4 W k) t).mask) (Q7 (X4 W k) t).IZ=true)
 | 0,_=>⟨p,VL.refl _,fun t a b=>by omega⟩
 | k+1,hk=>by
  obtain⟨a,b,d⟩:=zp1 p k Qo;simp only[X4];generalize X4 W k=V at a b d;have hl:=a.a.t;split
  ·rename_i hm;unfold Ph at hm;simp only[A',It,ne_eq] at hm;have h:=Ok a (t:=(k:Int)) Qo Qo hm.1;have hf:=Kz a.a (Q7 V (k:Int)).group (Q7 V (k:Int)).mask;have hw:=GV a.a (Q7 V (k:Int)).group (Q7 V (k:Int)).mask;refine⟨zcr a Qo Qo hm.1 h.g hf.1 hf.2,b.trans (CA _ _ _ _),fun t t0 t1 n=>?_⟩;rw[(CA V _ _ _).wh];rw[znz hl Qo Qo t0] at n ⊢
   split at n
   ·rename_i he;rw[C' he];exact F5 hw.1 hw.2
   ·rename_i he;rw[B' he];exact d t t0 Qo n
  ·rename_i hm;refine⟨a,b,fun t t0 t1 n=>?_⟩
   by_cases he:t=(k:Int)
   ·subst he;have hm:Ph V (k:Int)=false:=by simpa using hm
    unfold Ph at hm;rw[show ((Q7 V (k:Int)).state != 0)=true by simpa using n,Bool.true_and] at hm
    simpa using hm
   ·exact d t t0 Qo n
theorem Cx{W:Q8}(sf:SF Qj (Qj+Qi) W)(p:Tm W):Jc (Qg (P9 W)):=by
 obtain⟨a,b,d⟩:=zp1 p 12 (I7 _);exact Zu (Pq sf (I2 _)).1.w (by simp only[Qi]; decide) (by simp only[Qi,UL]; decide) a d
theorem zxb{W:Q8}{t x:Int}(hW:Qx W=true)(hb:DR W t x=0):Jc (zu6 W t x):=by
 have wp:=Ql.1 hW;obtain⟨h1,_,sf⟩:=zu7 hW hb;obtain⟨t0,t1,tn⟩:=YQ h1;have hl:=wp.a.t;have p:=Xm wp;have h:=Ok p t0 Qo tn
 have hx:Po x=true/\x≠0:=by
  unfold DR at hb
  split at hb
  ·cases hb
  ·rename_i hn;exact⟨by cases hm:Po x with | true=>rfl | false=>exact Ir (.inl hm) hn,fun e=>hn (.inr e)⟩
 refine Cx sf (p.IT t0 Qo (.inr ⟨tn,⟨h.st,h.g,h.n,hx.1,hx.2,h.s,h.u,h.l1,h.l2,h.f⟩,p.l t t0 Qo tn⟩) fun c c0 c1 pJ h1 h2=>?_);have hc:=(p.c c c0 c1).q (by rw[pJ]; omega);rw[pJ] at hc;exact hc h1 h2
theorem zw7{W:Q8}{g x:Int}(hW:Qx W=true)(hb:zku W g x=0):Jc (zt0 W g x):=by
 have wp:=Ql.1 hW;obtain⟨hu,_,_,sf,hT⟩:=zt1 hW hb;exact Cx sf ((Xm wp).same sf.w.a rfl rfl hT (zn9 rfl))
theorem E3.gr{W W':Q8}{x:MM}(h:E3 W x)(e:W'.IC=W.IC):E3 W' x:=
 ⟨h.st,by rw[e]; exact h.g,h.n,h.m,h.m0,h.s,h.u,h.l1,h.l2,fun hs=>by unfold Qc; rw[e]; exact h.f hs⟩
theorem zt9{W:Q8}{c:Int}(hW:Qx W=true)(hb:ZY W c false 0=0):Jc (zj1 W c):=by
 have wp:=Ql.1 hW;obtain⟨c0,c1,_,sf⟩:=zld hW hb;have p:=Xm wp;refine Cx sf ⟨⟨sf.w.a,fun t t0 t1=>(p.t t t0 t1).imp id fun h=>⟨h.1,h.2.gr rfl⟩,fun t t0 t1 n=>?_,fun k d hk d0 d1=>?_⟩,fun d d0 d1=>?_⟩
 ·have:=p.l t t0 t1 n;show _/\_<(((W.ID.set c.toNat _).length:Nat):Int);rw[E']; exact this
 ·have d1:d<(((W.ID.set c.toNat (Mh (gi W.ID c) true)).length:Nat):Int):=d1;rw[E'] at d1;exact(p.s k d hk d0 d1).BY2 rfl fun _=>rfl
 ·have d1:d<(((W.ID.set c.toNat (Mh (gi W.ID c) true)).length:Nat):Int):=d1;rw[E'] at d1;have h:=p.c d d0 d1;have e:gi (RM W c (Mh (gi W.ID c) true)).ID d=if c=d then Mh (gi W.ID c) true else gi W.ID d:=QE _ _ c0 c1 d0
  have eb:(gi (RM W c (Mh (gi W.ID c) true)).ID d).cur=(gi W.ID d).cur/\(gi (RM W c (Mh (gi W.ID c) true)).ID d).WH=(gi W.ID d).WH/\(gi (RM W c (Mh (gi W.ID c) true)).ID d).busy=(gi W.ID d).busy/\(gi (RM W c (Mh (gi W.ID c) true)).ID d).idle=(gi W.ID d).idle/\((gi W.ID d).up=true->(gi (RM W c (Mh (gi W.ID c) true)).ID d).up=true):=by
   rw[e];split
   ·rename_i he; subst he; exact⟨rfl,rfl,rfl,rfl,fun _=>rfl⟩
   ·exact⟨rfl,rfl,rfl,rfl,id⟩
  obtain⟨e1,e2,e3,e4,e5⟩:=eb;refine⟨by rw[e3]; exact h.b,by rw[e4]; exact h.i,by rw[e1]; exact h.c1,by rw[e1]; exact h.c2,by rw[e1,e2]; exact h.no,fun h0=>?_,?_⟩
  ·rw[e1] at h0;have:=h.yes h0;exact⟨e5 this.1,by rw[e2]; exact this.2⟩
  ·rw[e1,e2]; exact h.q
theorem zpc{W:Q8}{c:Int}(hW:Qx W=true)(hb:ZY W c true (U0 W)=0):Jc (Lu W c):=by
 have wp:=Ql.1 hW;obtain⟨c0,c1,_,sf⟩:=zb5 hW hb;have p:=Xm wp;have hl:(RM W c (Mh (gi W.ID c) false)).ID.length=W.ID.length:=E';have sfE:=sf.Rn c0 (by rw[hl]; exact c1)
 have hcs:Rn (RM W c (Mh (gi W.ID c) false)) c=RM W c (XU (Mh (gi W.ID c) false)):=by
  have e:gi (RM W c (Mh (gi W.ID c) false)).ID c=Mh (gi W.ID c) false:=(QE _ _ c0 c1 c0).trans (C' rfl);unfold Rn;rw[e];simp[RM,List.set_set]
 show Jc (Qg (P9 (Rn (RM W c (Mh (gi W.ID c) false)) c)));rw[hcs] at sfE ⊢;refine Cx sfE ⟨⟨sfE.w.a,fun t t0 t1=>(p.t t t0 t1).imp id fun h=>⟨h.1,h.2.gr rfl⟩,fun t t0 t1 n=>?_,fun k d hk d0 d1=>?_⟩,fun d d0 d1=>?_⟩
 ·have:=p.l t t0 t1 n;show _/\_<(((W.ID.set c.toNat _).length:Nat):Int);rw[E']; exact this
 ·have d1:d<(((W.ID.set c.toNat (XU (Mh (gi W.ID c) false))).length:Nat):Int):=d1;rw[E'] at d1;exact(p.s k d hk d0 d1).BY2 rfl fun _=>rfl
 ·have d1:d<(((W.ID.set c.toNat (XU (Mh (gi W.ID c) false))).length:Nat):Int):=d1;rw[E'] at d1;have h:=p.c d d0 d1;have e:gi (RM W c (XU (Mh (gi W.ID c) false))).ID d=if c=d then XU (Mh (gi W.ID c) false) else gi W.ID d:=QE _ _ c0 c1 d0
  by_cases he:c=d
  ·subst he;have e:=e.trans (C' rfl);refine⟨by rw[e]; exact h.b,by rw[e]; exact h.i,by rw[e]; show (-1:Int)<=-1; decide,by rw[e]; show (-1:Int)<12; decide,fun _=>by rw[e]; rfl,fun h0=>?_,fun h0=>?_⟩
   ·rw[e] at h0;have h0:(0:Int)<=-1:=h0;omega
   ·rw[e] at h0;have h0:(0:Int)<=-1:=h0;omega
  ·have e:=e.trans (B' he);exact⟨by rw[e]; exact h.b,by rw[e]; exact h.i,by rw[e]; exact h.c1,by rw[e]; exact h.c2,by rw[e]; exact h.no,by rw[e]; exact h.yes,by rw[e]; exact h.q⟩
def zdc(W:Q8)(g c x:Int):LI:={ Qc W g c with v:=if (Qc W g c).on=true then (Qc W (gi W.IC g).parent c).floor+Y9 ((Qc W g c).v-(Qc W (gi W.IC g).parent c).floor) x else (Qc W g c).v,w:=x }
def zjy(W:Q8)(g c:Int):Bool:=decide ((gi W.ID c).cur>=0)&&Tu 3 W.IC g (Q7 W (gi W.ID c).cur).group
def U1(W:Q8)(g c x:Int):Q8:=RA W g c (zdc W g c x)
def KV(W:Q8)(g c x:Int):Q8:=if (Qc W g c).w=x then W else if zjy (U1 W g c x) g c=true then Rn (U1 W g c x) c else U1 W g c x
def D0(W:Q8):Prop:=∀c:Int,0<=c->c<(W.ID.length:Int)->(gi W.ID c).cur>=0->Q6 W.IC (Q7 W (gi W.ID c).cur).group=true
theorem zo0{W:Q8}(wp:XS W):D0 W:=fun c c0 c1 h=>by
 have hc:=wp.c c c0 c1;have hy:=hc.yes h;have hl:=hy.2.2.2.2.1;have c2:=hc.c2;have ht:=wp.a.t;unfold ZA at hl;simp only[A',Is] at hl;rcases wp.t (gi W.ID c).cur h Qo with h1 | h1
 ·rw[h1.1] at hl; exact Ir hl.1 Qd
 ·exact h1.2.g
theorem D0.RA{W:Q8}(h:D0 W){g c:Int}{s:LI}(u0:0<=g)(u1:g<(W.IC.length:Int)):D0 (RA W g c s):=fun d d0 d1 hc=>by
 rw[(XO u0 u1).cK];exact h d d0 d1 hc
theorem D0.Rn{W:Q8}(h:D0 W){c:Int}(c0:0<=c)(c1:c<(W.ID.length:Int)):D0 (Rn W c):=fun d d0 d1 hc=>by
 have d1:d<(((W.ID.set c.toNat (XU (gi W.ID c))).length:Nat):Int):=d1;rw[E'] at d1;have hg:gi (YtnclplgaicdapaaGreatDoor.Rn W c).ID d=if c=d then XU (gi W.ID c) else gi W.ID d:=QE _ _ c0 c1 d0;rw[hg] at hc ⊢
 split at hc
 ·exact Ir hc (by show ¬(-1:Int)>=0; decide)
 ·rename_i hn;rw[B' hn];exact h d d0 d1 hc
theorem zyk{F K:Int}{W:Q8}(h:SF F K W)(hk:F+Qi<=K){g c x:Int}(hu:Q6 W.IC g=true)(hz:g≠0)(c0:0<=c)(c1:c<(W.ID.length:Int))(x1:1<=x)(x2:x<=20):SF F K (U1 W g c x):=by
 have hp:=h.w.a.up hu hz;have s1:=h.w.s g c hu c0 c1;have s2:=h.w.s _ c hp c0 c1;have f1:=h.f g c hu c0 c1;have f2:=h.f _ c hp c0 c1;have lc:=ZQ ((Qc W g c).v-(Qc W (gi W.IC g).parent c).floor) x;have lm:=Y3 x;refine h.RA hu c0 c1 s1.1 f1 (by show (Qc W g c).floor<=K; omega) ?_ ?_ x1 x2
 ·simp only[zdc]; split <;> omega
 ·simp only[zdc]; simp only[Qi] at hk; split <;> omega
theorem zql{F K:Int}{W:Q8}(h:SF F K W)(hk:F+Qi<=K)(hc:D0 W){g c x:Int}(hu:Q6 W.IC g=true)(hz:g≠0)(c0:0<=c)(c1:c<(W.ID.length:Int))(x1:1<=x)(x2:x<=20):SF F K (KV W g c x)/\Fr W (KV W g c x)/\D0 (KV W g c x):=by
 obtain⟨u0,u1,_⟩:=Q4.1 hu;have hv:=zyk h hk hu hz c0 c1 x1 x2;have hf:Fr W (U1 W g c x):=(VH u0 u1).fr;have hc2:D0 (U1 W g c x):=hc.RA u0 u1;unfold KV;split
 ·exact⟨h,Fr.refl _,hc⟩
 ·split
  ·exact⟨hv.Rn c0 c1,hf.trans (zaz _ _),hc2.Rn c0 c1⟩
  ·exact⟨hv,hf,hc2⟩
def GU(W:Q8)(g x:Int):Nat->Q8
 | 0=>W
 | c+1=>KV (GU W g x c) g (c:Int) x
theorem zjz{F K:Int}{W:Q8}(h:SF F K W)(hk:F+Qi<=K)(hc:D0 W){g x:Int}(hu:Q6 W.IC g=true)(hz:g≠0)(x1:1<=x)(x2:x<=20):∀c:Nat,c<=W.ID.length->SF F K (GU W g x c)/\Fr W (GU W g x c)/\D0 (GU W g x c)
 | 0,_=>⟨h,Fr.refl _,hc⟩
 | c+1,hn=>by
  obtain⟨a,b,d⟩:=zjz h hk hc hu hz x1 x2 c Qo;obtain⟨a2,b2,d2⟩:=zql a hk d (g:=g) (c:=(c:Int)) (x:=x) (by rw[b.g.cK]; exact hu) hz Qo (by rw[b.c]; omega) x1 x2;exact⟨a2,b.trans b2,d2⟩
def Ky(W:Q8)(g x:Int):ZO:={ gi W.IC g with weight:=x }
noncomputable def zme(W:Q8)(g x:Int):Int:=MT W g (YK x 1 20)
def zv6(W:Q8)(g x:Int):Q8:=Qg (GU (Rf W g (Ky W g x)) g x W.ID.length)
theorem zv7{W:Q8}{g x:Int}(hW:Qx W=true)(hb:zme W g x=0):YK x 1 20=true/\g≠0/\Q6 W.IC g=true/\QQ W=true/\SF Qj (Qj+Qi) W/\SF Qj (Qj+Qi) (Rf W g (Ky W g x))/\D0 (Rf W g (Ky W g x))/\Z2 W.IC (Rf W g (Ky W g x)).IC:=by
 obtain⟨h1,h2,h3,h4⟩:=ziu hb;have wp:=Ql.1 hW;have sw:=Md wp (Ql.1 h4);obtain⟨u0,u1,hg⟩:=wp.a.u h3;have hx:=Qu.1 h1;have hl:=wp.a.gl;have s1:=sw.Rf (x:=Ky W g x) h3 rfl rfl rfl rfl ⟨hx.1,hx.2,hg.m,hg.m0,hg.s,hg.len,fun h=>Ir h h2,hg.none,hg.IQ⟩;have hT:Z2 W.IC (Rf W g (Ky W g x)).IC:=JE u0 Qo rfl rfl rfl;refine⟨h1,h2,h3,h4,sw.sf.mono (I2 _) (by simp only[Qi]; decide),s1.sf.mono (I2 _) (by simp only[Qi]; decide),fun d d0 d1 hc=>?_,hT⟩;rw[hT.cK];exact zo0 wp d d0 d1 hc
theorem zv3{gs:List ZO}(ht:Y5 gs){g h:Int}(u1:Q6 gs g=true)(u2:Q6 gs h=true):Pc gs g h=Tu 3 gs g h:=by
 unfold Pc;rw[u1,u2,show MD gs=true from @Ih _ (Classical.propDecidable _) ht];rfl
section
variable {base:Nat}{W W':Q8}{m:MW}{w:Wo}{bar:Int}
theorem Kh{F K:Int}(h:Zf 8 base w W m)(dR:SF F K W)(hk:F+Qi<=K)(hK:K<=1000000000000000000)(hcu:D0 W){g c x:Int}(hu:Q6 W.IC g=true)(hz:g≠0)(c0:0<=c)(c1:c<(W.ID.length:Int)) :
  Cz JQ #[.agg (Qa W m).toArray,I g,I c,I x] w fun e w'=>e=.returned (.agg (Qa W m).toArray)/\Mv 8 base [] w m w' (KV W g c x) m:=by
 refine(Bh _ _ _ _ _ _ _ _ _ _ g c x (R:=fun v w'=>v=.agg (Qa W m).toArray/\Mv 8 base [] w m w' (KV W g c x) m) ?_).mono fun e w' ⟨v,he,hv,h3⟩=>⟨by rw[he,hv],h3⟩
 intro y hy y1 bE;obtain⟨u0,u1,_⟩:=Q4.1 hu;have bM:=dR.w.a.gl;have iX:=dR.w.a.t;have hsl:=dR.w.a.sl hu;have hp:=dR.w.a.up hu hz;obtain⟨p0,p1,_⟩:=Q4.1 hp;have hpl:=dR.w.a.sl hp;have s1:=dR.w.s g c hu c0 c1;have s2:=dR.w.s _ c hp c0 c1;have lc:=ZQ ((Qc W g c).v-(Qc W (gi W.IC g).parent c).floor) x;have lm:=Y3 x;have hM:=Mv.two h hy bE;have hr:=(Mv.start h).rd;have V':=hr.g.ix (i:=g) u0 u1;have AH7:=(hr.g.IE g u0 u1).ix YW c0 Qo;have hcx:=hr.c.ix ZP c0 c1;have tH:=z1v h Qs (i:=g) (bs:=[]) u0 Qo c0 Qo (j:=0) (k:=5) Qd;have hcr:=dR.w.cu c c0 c1;have pG:decide ((gi W.ID c).cur>=0)=true->(gi W.ID c).cur<(W.tasks.length:Int):=fun _=>by omega
 have hT:Z2 W.IC (U1 W g c x).IC:=XO u0 u1
 have hE:(decide ((gi W.ID c).cur>=0)&&Pc (U1 W g c x).IC g (gi W.tasks (gi W.ID c).cur).group)=zjy (U1 W g c x) g c:=by
  unfold zjy;show _=(decide ((gi W.ID c).cur>=0)&&Tu 3 (U1 W g c x).IC g (Q7 W (gi W.ID c).cur).group)
  by_cases hc:(gi W.ID c).cur>=0
  ·rw[zv3 (hT.tree dR.w.a.tree) (by rw[hT.cK]; exact hu) (by rw[hT.cK]; exact hcu c c0 c1 hc)]; rfl
  ·rw[decide_eq_false hc]; rfl
 have hlen:(U1 W g c x).IC.length=W.IC.length:=hT.len;have tP:Fr W (U1 W g c x):=(VH u0 u1).fr;have eW:Qa (U1 W g c x) m=Qa W m:=Ui tP;have eE:Qa (Rn (U1 W g c x) c) m=Qa W m:=Ui (tP.trans (zaz _ _));refine⟨V',_,_,_,hr.g.RC u0 u1,AH7,_,_,_,_,_,(hr.g.IE g u0 u1) c c0 Qo,fun b2 bT=>⟨fun g1 wr hx=>⟨rfl,?_⟩,fun g1=>⟨fun g2=>?_,fun g2=>?_⟩⟩⟩
 ·have g1:(Qc W g c).w=x:=Iy g1;unfold KV;rw[C' g1];exact(Mv.start h).M' hx
 ·have yL:zdc W g c x=⟨(Qc W g c).floor,(Qc W g c).on,(Qc W (gi W.IC g).parent c).floor+Y9 ((Qc W g c).v-(Qc W (gi W.IC g).parent c).floor) x,x,(Qc W g c).sum⟩:=by
   unfold zdc;rw[C' (show (Qc W g c).on=true from g2)]
  have SE:=zbr dR h hk hu rfl c0 c1 (zdc W g c x);rw[yL] at SE;have Wq:=((hM.add bT).Sj SE (zjs Qo));have hV:RA W g c ⟨(Qc W g c).floor,(Qc W g c).on,(Qc W (gi W.IC g).parent c).floor+Y9 ((Qc W g c).v-(Qc W (gi W.IC g).parent c).floor) x,x,(Qc W g c).sum⟩=U1 W g c x:=by unfold U1; rw[yL]
  rw[hV] at Wq;have sS:=Wq.rd;have B03:=Wq.close;have aQ:=B03.rd;refine⟨V',_,hr.g.parent u0 u1,hr.g.ix p0 p1,_,_,_,hr.g.RC p0 p1,(hr.g.IE _ p0 p1).ix YW c0 Qo,_,zmh.f (hr.g.IE _ p0 p1) c0 Qo (j:=0) rfl,⟨by show _<=(Qc W g c).v-(Qc W (gi W.IC g).parent c).floor; omega,by show (Qc W g c).v-(Qc W (gi W.IC g).parent c).floor<=_; omega⟩,_,MY,⟨by show _<=(Qc W (gi W.IC g).parent c).floor+Y9 ((Qc W g c).v-(Qc W (gi W.IC g).parent c).floor) x; omega,by show (Qc W (gi W.IC g).parent c).floor+Y9 ((Qc W g c).v-(Qc W (gi W.IC g).parent c).floor) x<=_; omega⟩,V',_,_,_,hr.g.RC u0 u1,AH7,tH,hcx,(gi W.ID c).cur,?_⟩;refine⟨z00.f aQ.c c0 c1 (j:=1) rfl,fun gc=>aQ.t.ix QG (Ot gc) (pG gc),_,fun gc=>zsq.f aQ.t (Ot gc) (pG gc) (j:=1) rfl,_,fun gc=>by rw[<-hlen]; exact O5 aQ.g (by have:=ZH; omega),fun gc I' R4 dQ=>?_,fun gc Rp R4=>?_⟩
  ·have he:zjy (U1 W g c x) g c=true:=by rw[<-hE]; exact gc
   have dZ:=Wq.step (R4.of_nil);have Rg:=Zw dZ.own c0 c1;rw[eW,eE] at Rg;refine I3 Rg ?_;rintro e wv ⟨fJ,Sn⟩;refine⟨_,_,_,_,_,_,_,_,_,_,fJ,dZ.kept Sn dQ,fun J' SD=>⟨rfl,?_⟩⟩;unfold KV;rw[B' (show ¬(Qc W g c).w=x from ne_of_beq_false g1),C' he];exact((dZ.call Sn dQ).step SD).close
  ·have he:zjy (U1 W g c x) g c=false:=by rw[<-hE]; exact gc
   refine⟨rfl,?_⟩;unfold KV;rw[B' (show ¬(Qc W g c).w=x from ne_of_beq_false g1),B' (by rw[he]; decide)];exact(Wq.step R4.of_nil).close
 ·have yL:zdc W g c x=⟨(Qc W g c).floor,(Qc W g c).on,(Qc W g c).v,x,(Qc W g c).sum⟩:=by
   unfold zdc;rw[B' (by rw[show (Qc W g c).on=false from g2]; decide)]
  have SE:=zbr dR h hk hu rfl c0 c1 (zdc W g c x);rw[yL] at SE;have Wq:=((hM.add bT).Sj SE (zjs Qo));have hV:RA W g c ⟨(Qc W g c).floor,(Qc W g c).on,(Qc W g c).v,x,(Qc W g c).sum⟩=U1 W g c x:=by unfold U1; rw[yL]
  rw[hV] at Wq;have sS:=Wq.rd;have B03:=Wq.close;have aQ:=B03.rd;refine⟨V',_,_,_,hr.g.RC u0 u1,AH7,tH,hcx,(gi W.ID c).cur,?_⟩;refine⟨z00.f aQ.c c0 c1 (j:=1) rfl,fun gc=>aQ.t.ix QG (Ot gc) (pG gc),_,fun gc=>zsq.f aQ.t (Ot gc) (pG gc) (j:=1) rfl,_,fun gc=>by rw[<-hlen]; exact O5 aQ.g (by have:=ZH; omega),fun gc I' R4 dQ=>?_,fun gc Rp R4=>?_⟩
  ·have he:zjy (U1 W g c x) g c=true:=by rw[<-hE]; exact gc
   have dZ:=Wq.step (R4.of_nil);have Rg:=Zw dZ.own c0 c1;rw[eW,eE] at Rg;refine I3 Rg ?_;rintro e wv ⟨fJ,Sn⟩;refine⟨_,_,_,_,_,_,_,_,_,_,fJ,dZ.kept Sn dQ,fun J' SD=>⟨rfl,?_⟩⟩;unfold KV;rw[B' (show ¬(Qc W g c).w=x from ne_of_beq_false g1),C' he];exact((dZ.call Sn dQ).step SD).close
  ·have he:zjy (U1 W g c x) g c=false:=by rw[<-hE]; exact gc
   refine⟨rfl,?_⟩;unfold KV;rw[B' (show ¬(Qc W g c).w=x from ne_of_beq_false g1),B' (by rw[he]; decide)];exact(Wq.step R4.of_nil).close
theorem ET{g x:Int}(h:XQ [] w W m)(hl:UN W) :
  Cz Vu #[.agg (Qa W m).toArray,I g,I x] w fun e w'=>∃v,e=.returned v/\QL (Yp W (zme W g x) (zv6 W g x)) w v w':=by
 refine EA _ _ _ _ _ _ _ _ _ _ g x (R:=fun v w'=>QL (Yp W (zme W g x) (zv6 W g x)) w v w') ?_;intro y hy y1 bE;refine⟨_,Jz,fun wr R0 SS=>?_⟩;refine I3 (Vh (g:=g) (ok:=YK x 1 20) (h.ext R0) hl) ?_;rintro e wv (⟨hW,he,Sn⟩ | ⟨hW,m',he,hM,Sn⟩)
 ·exact⟨_,_,_,_,_,_,_,_,_,_,_,he,Qe Sn SS,fun _ I' R4=>QL.bad hW ((R0.trans Sn).fresh R4 fun z hm=>.inl (Yi hy bE z hm)),fun g=>by simp at g⟩
 have hK:=Wk.begin hy bE R0 SS hM Sn;refine⟨_,_,_,_,_,_,_,_,_,_,_,he,Qe Sn SS,fun g1 I' R4=>QL.no hW (by simpa[zme] using g1) (hK.step R4) rfl,fun g1=>?_⟩;have hb:zme W g x=0:=by simpa[zme] using g1
 have hr:=hK.rd;obtain⟨Ch5,hz,hu,yV,_,sf,hcu,hT⟩:=zv7 hW hb;have hxr:=Qu.1 Ch5;obtain⟨u0,u1,_⟩:=Q4.1 hu;have bM:W.IC.length=8:=by have:=sf.w.a.gl; rwa[hT.len] at this
 have V':=hr.g.ix (i:=g) u0 u1;have SE:Wk 8 [y,y1] w (Rl wv m'.gO (Int.toNat g*14+3) [I x]) (Rf W g (Ky W g x)) m':=hK.Rl (hK.own.Az4 u0 Qo (g:=Ky W g x) rfl rfl rfl (j:=3) (vs:=[I x]) rfl Qs) Cc;have tH:=zqm hK.own hK.nb (i:=g) u0 Qo (j:=3) (k:=1) Qd;have e0:Qa (Rf W g (Ky W g x)) m'=Qa W m':=by simp[Qa,Rf]
 have huV:Q6 (Rf W g (Ky W g x)).IC g=true:=by rw[hT.cK]; exact hu
 have rJ:(Rf W g (Ky W g x)).ID.length=W.ID.length:=rfl;have hE:zv6 W g x=Qg (GU (Rf W g (Ky W g x)) g x W.ID.length):=rfl;rw[hE];have hc4:=sf.w.a.c2;generalize Rf W g (Ky W g x)=V at SE sf hcu hT e0 huV rJ hc4;refine⟨V',tH,fun vs w1=>∃(k:Nat),vs=I (k:Int)::Qa W m'/\k<=W.ID.length/\Wk 8 [y,y1] w w1 (GU V g x k) m',Zq W.ID.length 0,fun w1 rA _=>⟨0,rfl,Ic _,SE.step rA⟩,?_⟩;rintro c1 l RO RW Sb RR S5 Sa RY RZ S4 Rx dQ ⟨k,aE,hk,eB⟩;obtain⟨hS,hf,hc2⟩:=zjz sf (I2 _) hcu huV hz hxr.1 hxr.2 k Qo;have SN:GU V g x (k+1)=KV (GU V g x k) g (k:Int) x:=rfl;have mF:k=W.ID.length->GU V g x W.ID.length=GU V g x k:=fun e=>by rw[e]
 have eU:Qa (GU V g x k) m'=Qa W m':=(Ui hf).trans e0;have hcU:=hf.c;have huU:Q6 (GU V g x k).IC g=true:=by rw[hf.g.cK]; exact huV
 simp only[Qa,I4,I5,Iv,true_and,and_true] at aE;obtain⟨rfl,rfl,⟨rfl,rfl,rfl⟩,⟨rfl,rfl,rfl⟩,rfl,rfl,rfl⟩:=aE;generalize GU V g x k=U at eB hS hf hc2 SN mF eU hcU huU;refine⟨fun IS Rp R4 cJ=>?_,fun Ry RH Sg jO=>?_⟩
 ·have IS:=Ot IS;have pI:=eB.step R4;have Rg:=Kh pI.own hS (I2 _) (by simp only[Qi]; decide) hc2 (g:=g) (c:=(k:Int)) (x:=x) huU hz Qo Qo;rw[eU] at Rg;refine I3 Rg ?_;rintro e S6 ⟨iU,fK⟩;refine⟨_,_,_,_,_,_,_,_,_,_,iU,pI.kept fK cJ,⟨Qo,Qo⟩,fun Rt SD _=>⟨⟨k+1,rfl,Qo,?_⟩,?_⟩⟩
  ·rw[SN];exact(pI.Sj fK cJ).step SD
  ·simp only[Zq,Xc,ZR,Ie]; omega
 ·have Ry:=Ou Ry;rw[mF Qo];have cQ:=eB.step Sg;have Rg:=Qv cQ.own hS.w (by simp only[Qi]; decide) (by simp only[Qi]; decide) cQ.base;rw[eU] at Rg;refine I3 Rg ?_;rintro e2 Rx ⟨m2,aE,Sn⟩;exact⟨_,_,_,_,_,_,_,_,_,_,aE,cQ.kept Sn jO,fun Rt Sg=>QL.ok hW hb ((cQ.Sj Sn jO).step Sg)⟩
section
variable {pb:Nat}
end
end
end Go.Proofs.YtnclplgaicdapaaGreatDoor
