/- Part 13 of what the law FnFork needs. -/
import Derived.Test.YtnclplgaicdapaaGreatDoorFnForkPl
import Derived.Shelf.Abstract
set_option linter.unusedVariables false
set_option linter.unusedSimpArgs false
set_option maxRecDepth 100000
set_option maxHeartbeats 8000000
namespace Go.Proofs.YtnclplgaicdapaaGreatDoor
open Go.RowKit
def z16(W:Q7)(a b:Int):Bool:=decide (Fy W a>Fy W b)
def MV(W:Q7)(c m:Int):Nat->Int
 | 0 => -1
 | k+1=>if ((Z7 m (k:Int)&&zrl W (k:Int) c)&&(decide (MV W c m k<0)||z16 W (k:Int) (MV W c m k)))=true then (k:Int) else MV W c m k
theorem zue{W:Q7}{c m:Int}{k:Nat}(h:((Z7 m (k:Int)&&zrl W (k:Int) c)&&(decide (MV W c m k<0)||z16 W (k:Int) (MV W c m k)))=true):MV W c m (k+1)=(k:Int):=E' h
theorem zp1{W:Q7}{c m:Int}{k:Nat}(h:¬((Z7 m (k:Int)&&zrl W (k:Int) c)&&(decide (MV W c m k<0)||z16 W (k:Int) (MV W c m k)))=true):MV W c m (k+1)=MV W c m k:=C' h
theorem zxo{p:Nat->Bool}{n:Nat}(h:p n=false):TN p (n+1)=TN p n:=by simp[TN,h]
theorem zbb(W:Q7)(c m:Int):∀k:Nat,-1<=MV W c m k/\MV W c m k<k
 | 0=>by simp[MV]
 | k+1=>by
  have:=zbb W c m k;simp only[MV]
  split <;> omega
noncomputable def OT(W:Q7)(c lv:Int):Int:=MV W c (z20 (W.IF.length:Int) c lv) W.IF.length
theorem z0n{W:Q7}(wp:Je W){b c:Int}(h:zrl W b c=true):0<=b/\b<(W.IF.length:Int)/\b≠c:=by
 obtain⟨t,ht,hp⟩:=DB.1 h;simp only[A',It] at hp;obtain⟨h1,h2⟩:=NT hp.2;have:=wp.li (t:=(t:Int)) Qo (by have:=wp.a.t; omega) h1;rw[hp.1] at this h2;exact⟨this.2.1,this.2.2,h2⟩
theorem zg4{lt:Int->Int->Bool}{l r:List Int}:∀k:Nat,k<=l.length->Xq lt (l++r) k=Xq lt l k
 | 0,_=>rfl
 | k+1,hk=>by
  have e:gi (l++r) (k:Int)=gi l (k:Int):=by
   unfold gi;rw[Ih];simp[Iq (show k<l.length by omega)]
  simp only[Xq];rw[zg4 k Qo,e]
theorem zn0{lt:Int->Int->Bool}{l:List Int}{x:Int}:Xq lt (l++[x]) (l++[x]).length=if (!(Xq lt l l.length).2||lt x (Xq lt l l.length).1)=true then (x,true) else Xq lt l l.length:=by
 rw[Ip,List.length_singleton];simp only[Xq];rw[zg4 l.length (I8 _),zb2 l [] x]
section
variable {W:Q7}{m:MW}{w:Wo}{bs:List Nat}{p:OA}
theorem Fp{s c:Int}(h:Xg bs w W m)(wp:Je W)(c0:0<=c)(c1:c<(W.IF.length:Int)):PX bs VS #[.agg (Qa W m).toArray,I s,I c] w (I (MV W c s W.IF.length)):=
 FO _ _ _ _ _ _ _ _ _ _ s c λwr hx=>by
  have h:=(h.ext hx).less (cs:=[]) Qs;have h4:=wp.a.c2;have fH:=wp.a.t;intro _ _;refine P3 W.IF.length 0 rfl (λx k=>k<=W.IF.length/\x=MV W c s k) ⟨Ie _,rfl⟩ λx k ⟨hk,R2⟩=>⟨λIU=>?_,λRN=>?_⟩
  ·subst R2;have IU:=Ot IU;have hr:=zbb W c s k;refine⟨_,λ_=>Yj,_,λ_ _=>Tz h wp,_,λ_ _=>Tz h wp,λg=>?_,λg=>?_⟩
   ·refine⟨⟨Qo,Qo⟩,QO Qo ⟨Qo,?_⟩⟩;rw[zp1];intro hc;simp only[A'] at hc;have gE:=(z0n wp hc.1.2).2.2;rw[beq_eq_false_iff_ne.2 gE,hc.1.1] at g;simp only[Bool.not_true,Bool.or_self,Bool.false_or,A',Ik] at g;unfold z16 at hc;simp only[Iv,Ik] at hc;omega
   ·simp only[I0,I7] at g;obtain⟨⟨g1,g2⟩,g3⟩:=g
    have hb:(decide (MV W c s k<0)||z16 W (k:Int) (MV W c s k))=true:=by
     unfold z16;simp only[Iv,Ik];simp only[Bool.and_eq_false_iff,decide_eq_false_iff_not] at g3;omega
    refine P3 12 0 rfl (λy j=>j<=12/\y=if TN (λt=>((Q9 W (t:Int)).R3==(k:Int))&&V7 W (t:Int) c) j=true then (k:Int) else MV W c s k) ⟨Ie _,rfl⟩ λy j ⟨hj,hy⟩=>⟨λRM=>?_,λbS=>?_⟩
    ·have RM:=Ot RM;have wL:j<12:=Qo;refine⟨h.t.ix QF Qo RM,_,h.t.f Qo RM (j:=2) rfl,_,λ_=>Lr h wp Qo RM c0 c1,λg4=>?_,λg4=>?_⟩
     ·have g4:(((Q9 W (j:Int)).R3==(k:Int))&&V7 W (j:Int) c)=true:=g4;refine⟨⟨Qo,Qo⟩,QO wL ⟨Qo,?_⟩⟩;rw[E'];simp only[TN,Iv];exact .inr g4
     ·have g4:(((Q9 W (j:Int)).R3==(k:Int))&&V7 W (j:Int) c)=false:=g4;refine⟨⟨Qo,Qo⟩,QO wL ⟨Qo,?_⟩⟩;rw[hy,zxo (p:=λt=>((Q9 W (t:Int)).R3==(k:Int))&&V7 W (t:Int) c) g4]
    ·have bS:=Ou bS;have:j=12:=Qo;subst this;refine⟨⟨Qo,Qo⟩,QO Qo ⟨Qo,?_⟩⟩;rw[hy];show (if zrl W (k:Int) c=true then (k:Int) else MV W c s k)=_
     cases ha:zrl W (k:Int) c with
     | true=>rw[zue (by rw[g2,ha,hb]; rfl),E' rfl]
     | false=>rw[zp1 (by rw[ha]; simp),C' Qd]
  ·have RN:=Ou RN;have:k=W.IF.length:=Qo;subst this;rw[R2]
end
theorem Fz(m:Int):∀k:Nat,Kv m k=((Cs m k).length:Int)
 | 0=>rfl
 | k+1=>by
  simp only[Kv]
  cases h:Z7 m (k:Int) with
  | true=>rw[E' rfl,Gz h,Fz m k]; simp
  | false=>rw[C' Qd,FE h,Fz m k]
theorem zkp{fn:Func}{t:Tmp}(h:fn.results=#[.tmp t]){tmps:Array Va}{w:Wo}{P:Program}:(results fn tmps).run P w=.ok (tmps.getD t undef) w:=by
 simp[results,h]
theorem zlg:Jm Tryz.f60=zpa X7 (.seq (.seq J2 (.block 0 (.rangeFunc (.tmp 5) #[6] .skip XG))) XH):=Qk
theorem zsf{m:Int}{w:Wo}:Cz Fc #[.int .i64 m] w λe w'=>e=.returned (.int .i64 (Kv m 4))/\Q0 [] w w':=by
 refine EW (args:=[.int .i64 m]) (n:=10) Tryz.func60 (body:=Jm Tryz.f60) rfl Qk Qs λa hn ha hd=>?_
 rw[zlg];have a0:=ha 0 _ rfl;refine Gh none (R:=λe vs w1=>e=.normal/\∃b:Nat,vs=[.pointer (some ⟨b,0,none⟩)]/\w.heap.size<=b/\(∃t,w1.heap[b]? = some (.cells ([.int .i64 0]:List Va).toArray t (0,0)))/\Q0 [] w w1) hn ?_ ?_ ?_ (λe vs a1 w1 gE hR _=>Is hR.1 gE)
 ·intro p hp;cases hp
 ·intro b wb hx hb0 Wd _;refine⟨V0 (k0:=0) Wd Qs Qs,λwr R2=>?_⟩;have e1:Q0 [b] wb (R9 wb (some ⟨b,0,none⟩) 0 [.int .i64 0]):=Xp (bs:=[b]) Qs;refine⟨rfl,b,rfl,hb0,⟨_,Qq (UX (vs:=[.int .i64 0]) (n:=0) Wd) R2 Qs⟩,hx.fresh (e1.trans R2.of_nil) λx hm=>.inl ?_⟩;have:x=b:=by simpa using hm
  omega
 rintro vs a2 w1 ⟨_,b,rfl,hwb,hB,hX⟩ fo
 have o3:a2.tmps.getD 3 undef=.pointer (some ⟨b,0,none⟩):=by
  have:=fo.out
  simpa using this
 have o0:a2.tmps.getD 0 undef=.int .i64 m:=(fo.kept 0 (by decide +kernel)).trans a0;refine wpIn_seq (wpIn_seq (Gg none m (R:=λe vs w2=>e=.normal/\∃bm:Nat,vs=[.func (.func Z0) #[] #[.pointer (some ⟨bm,0,none⟩)]]/\Q1 [] w2 (some ⟨bm,0,none⟩) 0 [.int .i64 m]/\w1.heap.size<=bm/\Q0 [] w1 w2) (by rw[fo.size,hn]) (λp hp=>?_) (λwr hx _=>?_) λe vs a3 w2 hR fo3=>?_))
 ·simp only[Ij,List.not_mem_nil,or_false] at hp;subst hp;exact⟨Il rfl,o0⟩
 ·refine(zhi (m:=m)).mono λe w2 ⟨bm,hbm,he,hcm,Rb⟩=>⟨_,_,_,he,Y6,λM' SZ=>⟨rfl,bm,rfl,hcm.ext SZ,by have:=hx.size; omega,(hx.trans Rb).trans SZ⟩⟩
 obtain⟨rfl,bm,rfl,hcm,hbm,R2⟩:=hR
 have p5:a3.tmps.getD 5 undef=.func (.func Z0) #[] #[.pointer (some ⟨bm,0,none⟩)]:=by
  have:=fo3.out
  simpa using this
 have p3:=(fo3.kept 3 (by decide +kernel)).trans o3;have BV1:a3.tmps.size=10:=by rw[fo3.size,fo.size,hn]
 have hd3:a3.defers=[]:=by rw[fo3.defers,fo.defers,hd]
 have hX2:=hX.trans R2;obtain⟨t0,hB⟩:=hB;have hB2:=Qq hB R2 Qs;have hbL:=YY hB;have DW2:=YY hB2;have DW4:=zxv hcm
 have hlen:(Cs m 4).length<=4:=by
  have:=(DW m 4).2;rw[Fz] at this;omega
 refine wpIn_block (zwc (gf:=Z0) (lb:=#[.pointer (some ⟨bm,0,none⟩)]) p5 (enters_of Tryz.func233 Qk rfl)
  (λk W1=>(∃t,W1.heap[b]? = some (.cells ([.int .i64 (k:Int)]:List Va).toArray t (0,0)))/\Q1 [] W1 (some ⟨bm,0,none⟩) 0 [.int .i64 m]/\Q0 [] w W1)
  (λ_ _=>False) (Cs m 4).length (λk=>[.int .i64 (gi (Cs m 4) (k:Int))])
  (λk W1 W2 ys h hx hy=>⟨h.1.imp λ_ h=>Qq h hx λhm=>by have:=hy _ hm; omega,BH h.2.1 hx λhm=>by have:=hy _ hm; omega,h.2.2.fresh hx λx hm=>.inl (by have:=hy x hm; have:=hX2.size; omega)⟩)
  (λcd W1 W2 ys h hx hy=>h)
  ⟨⟨t0,hB2⟩,hcm,hX2⟩ (λk=>rfl) (zcb (m:=m) (bm:=bm) (w:=w2) (I:=λk W1=>(∃t,W1.heap[b]? = some (.cells ([.int .i64 (k:Int)]:List Va).toArray t (0,0)))/\Q1 [] W1 (some ⟨bm,0,none⟩) 0 [.int .i64 m]/\Q0 [] w W1) (λk W1 h=>h.2.1)) ?_ ?_ (λD c W _ h _=>h.elim))
 ·rintro l k W hk ⟨⟨t1,hb⟩,hc,hXW⟩ hl;rw[zls];refine wpIn_skip ⟨⟨[],Q0.refl _ _,Qs⟩,λW2 Sy=>?_⟩
  have hbn:b∉[l]:=λhm=>by
   have:b=l:=by simpa using hm
   omega
  have hb5:=Qq hb Sy hbn
  have hX5:Q0 [] w W2:=hXW.fresh Sy λx hm=>.inl (by
   have:x=l:=by simpa using hm
   have:=hX2.size;omega)
  have hc5:=BH hc Sy λhm=>by
   have:bm=l:=by simpa using hm
   omega
  have q3:(a3.tmps.setIfInBounds 6 (.int .i64 (gi (Cs m 4) (k:Int)))).getD 3 undef=.pointer (some ⟨b,0,none⟩):=(Tx (i:=6) (j:=3) Qd).trans p3;refine LF (some l) (some ⟨b,0,none⟩) (R:=λe _ W3=>e=.normal/\(∃X,Q0 X W2 W3/\∀x∈X,x<w2.heap.size)/\(∃t,W3.heap[b]? = some (.cells ([.int .i64 ((k:Int)+1)]:List Va).toArray t (0,0)))/\Q1 [] W3 (some ⟨bm,0,none⟩) 0 [.int .i64 m]/\Q0 [] w W3) (by simpa using BV1) (λp hp=>?_) ⟨(k:Int),OS ⟨_,hb5⟩,⟨Qo,Qo⟩,V0 (k0:=0) hb5 Qs Qs,λwr hx=>?_⟩ λe vs a5 W3 hR _=>?_
  ·simp only[Ij,List.not_mem_nil,or_false] at hp;subst hp;exact⟨Il rfl,q3⟩
  ·have e1:Q0 [b] W2 (R9 W2 (some ⟨b,0,none⟩) 0 [.int .i64 ((k:Int)+1)]):=Xp (bs:=[b]) Qs;have eX:Q0 [b] W2 wr:=e1.trans hx.of_nil;refine⟨rfl,⟨[b],eX,λx hm=>?_⟩,⟨t1,?_⟩,BH hc5 eX λhm=>?_,hX5.fresh eX λx hm=>.inl ?_⟩
   ·have:x=b:=by simpa using hm
    omega
   ·exact Qq (UX (vs:=[.int .i64 ((k:Int)+1)]) (n:=0) hb5) hx Qs
   ·have:bm=b:=by simpa using hm
    omega
   ·have:x=b:=by simpa using hm
    omega
  ·obtain⟨rfl,hX3,h3,h4⟩:=hR;exact⟨hX3,h3,h4⟩
 ·intro D W hD ⟨⟨t1,hb⟩,hc,hXW⟩ hdD;refine LG none (some ⟨b,0,none⟩) (R:=λe vs W1=>e=.ret/\vs=[.int .i64 (Kv m 4)]/\Q0 [] W W1) BV1 (λp hp=>?_) ⟨_,OS ⟨_,hb⟩,λwr hx=>⟨rfl,by rw[Fz],hx⟩⟩ λe vs a6 W1 hR fo6=>?_
  ·simp only[Ij,List.not_mem_nil,or_false] at hp;subst hp;exact⟨Il rfl,p3⟩
  ·obtain⟨rfl,rfl,aS⟩:=hR
   have hr:∀w',(results Tryz.f60 a6.tmps).run Tryz.prog w'=.ok (.int .i64 (Kv m 4)) w':=λw'=>by
    rw[zkp (t:=2) Qk];have:=fo6.out;simp only[List.map_cons,List.map_nil,I5,and_true] at this;rw[this]
   exact(zcw (D:=D) (by rw[fo6.defers]; simp[hd3]) ((aS.block D (Array.getElem?_eq_some_iff.1 hdD).1 Qs).trans hdD) hr λw' hx=>⟨rfl,(hXW.trans aS).fresh hx λx hm=>.inl (by
    have:x=D:=by simpa using hm
    have:=hX2.size;omega)⟩).2
theorem zmt(W:Q7)(m:Int):∀k:Nat,Xq (zmg W) (Cs m k) (Cs m k).length=if Ta W m k<0 then (0,false) else (Ta W m k,true)
 | 0=>rfl
 | k+1=>by
  have ih:=zmt W m k;have hr:=Ed W m k
  cases hh:Z7 m (k:Int) with
  | false=>rw[FE hh,ih,FQ (by rw[hh]; rfl)]
  | true=>
   rw[Gz hh,zn0,ih]
   by_cases hn:Ta W m k<0
   ·rw[E' hn,FR (by rw[hh,Ii hn]; rfl),C' (by omega:¬(k:Int)<0),E' (by rfl)]
   ·rw[C' hn]
    cases hl:zmg W (k:Int) (Ta W m k) with
    | true=>rw[FR (by rw[hh,hl]; simp),C' (by omega:¬(k:Int)<0),E' (by rfl)]
    | false=>rw[FQ (by rw[hh,hl,decide_eq_false hn]; rfl),C' hn,C' Qs]
theorem zv9{W:Q7}{m:Int}(h4:W.IF.length<=4)(hs:∀c:Int,Z7 m c=true->c<(W.IF.length:Int)):Ta W m 4=Pr W m:=by
 have key:∀j:Nat,W.IF.length+j<=4->Ta W m (W.IF.length+j)=Ta W m W.IF.length:=by
  intro j
  induction j with
  | zero=>intro _; rfl
  | succ j ih=>
   intro hj;rw[show W.IF.length+(j+1)=(W.IF.length+j)+1 from rfl,FQ ?_,ih Qo]
   have:Z7 m ((W.IF.length+j:Nat):Int)=false:=by
    cases h:Z7 m ((W.IF.length+j:Nat):Int) with
    | false=>rfl
    | true=>have:=hs _ h; omega
   rw[this]; rfl
 have:=key (4-W.IF.length) Qo
 rwa[show W.IF.length+(4-W.IF.length)=4 by omega] at this
section
variable {W:Q7}{m:MW}{w:Wo}{bs:List Nat}{p:OA}
theorem Fg{c:Int}(h:My bs w p W m)(fH:W.tasks.length=12)(hl:z0k W):PX bs Jg #[.pointer p,I c] w (.tuple #[I (zcv W c),I (zgx W c)]):=
 E3 p c λwr hx=>by
  have h:=(h.ext hx).less (cs:=[]) Qs;refine⟨h.some,_,_,_,h.tasks,?_⟩;refine⟨λvs=>∃k:Nat,k<=12/\vs=[I (XI (Fv W c) k),I (XI (CQ W c) k),I (k:Int)],Xe 12 2,⟨0,Ie _,rfl⟩,?_⟩;rintro ld ct x ⟨k,hk,he⟩;simp only[I5,I6,true_and,and_true] at he;obtain⟨rfl,rfl,rfl⟩:=he;refine⟨λIU=>?_,λRN=>?_⟩
  ·have IU:=Ot IU;have hr:=zds (W:=W) c k;have vD:=DV hl c k Qo;have wA:=hl (k:Int) Qo Qo;refine⟨h.rd.t.ix QF Qo IU,_,_,_,_,_,_,_,_,_,h.rd.t (k:Int) Qo IU,λb hb=>⟨λg=>?_,λg=>?_⟩⟩
   ·have g:z0d W c k=true:=g;refine⟨⟨by show _<=XI (Fv W c) k+(Q9 W (k:Int)).load; omega,by show XI (Fv W c) k+(Q9 W (k:Int)).load<=_; omega⟩,⟨Qo,Qo⟩,⟨Qo,Qo⟩,⟨k+1,Qo,?_⟩,?_⟩
    ·simp only[XI,Fv,CQ]; rw[E' g,E' g]; rfl
    ·simp only[Xe,ZQ,Ig,List.getElem?_cons_succ]; omega
   ·have g:z0d W c k=false:=g;refine⟨⟨Qo,Qo⟩,⟨k+1,Qo,?_⟩,?_⟩
    ·simp only[XI];rw[show Fv W c k=0 from C' (by rw[g]; decide),show CQ W c k=0 from C' (by rw[g]; decide),Int.add_zero,Int.add_zero]; rfl
    ·simp only[Xe,ZQ,Ig,List.getElem?_cons_succ]; omega
  ·have RN:=Ou RN;have:k=12:=Qo;subst this;unfold zcv zgx;rw[fH]
theorem zl5{b:Nat}{x y:Int}(h:My bs w p W m)(fH:W.tasks.length=12)(hl:z0k W)(hb:Q1 bs w (some ⟨b,0,none⟩) 0 [.pointer p]):PX bs Yq #[I x,I y,.pointer (some ⟨b,0,none⟩)] w (.bool (zmg W x y)):=
 L9 x y (some ⟨b,0,none⟩) λwr hx=>by
  have h:=(h.ext hx).less (cs:=[]) Qs;have hb:=(hb.ext hx).less (cs:=[]) Qs;exact⟨p,hb,_,_,Fg h fH hl,p,hb,_,_,Fg h fH hl,rfl⟩
theorem zcg{x:Int}(h:My [] w p W m)(ha:WA W)(hl:z0k W)(hs:∀c:Int,Z7 x c=true->0<=c/\c<(W.IF.length:Int))(hm:OH x=true)(h0:x≠0) :
  Cz U8 #[.pointer p,.int .i64 x] w λe w'=>e=.returned (.int .i64 (Pr W x))/\Q0 [] w w':=by
 refine(Gb p x (R:=λv w'=>v=.int .i64 (Pr W x)/\Q0 [] w w') ?_).mono λe w' ⟨v,he,hv,h3⟩=>⟨by rw[he,hv],h3⟩
 have hup:=zwa ha hm h0 hs;intro b wb hx hb Wd _ wr RZ _;refine(zhi (m:=x)).mono λe w2 ⟨bm,hbm,he,hcm,R2⟩=>⟨_,_,_,he,Y6,λM' Rb _=>?_⟩
 have hX:=((hx.trans RZ).trans R2).trans Rb;have CO4:Q1 [] M' (some ⟨b,0,none⟩) 0 [.pointer p]:=(((OS ⟨_,Wd⟩).ext RZ).ext R2).ext Rb;have hp3:=h.ext hX
 refine(z1a (gf:=Z0) (lb:=#[.pointer (some ⟨bm,0,none⟩)]) (bF:=.func Yq) (bA:=#[]) (bK:=#[.pointer (some ⟨b,0,none⟩)]) (xs:=Cs x 4) (lt:=zmg W) (w:=M')
  (enters_of Tryz.func233 Qk rfl)
  (λI W1 SZ hI=>zcb (m:=x) (bm:=bm) (I:=I) (w:=W1) λk W2 hI2=>(hcm.ext Rb).ext (hI k W2 hI2))
  (λi j hi hj W1 SZ=>.inl ⟨Yq,_,rfl,(zl5 (hp3.ext SZ) ha.t hl (CO4.ext SZ)) W1 (Q0.refl _ _)⟩)).mono λe1 w3 ⟨jG,SZ⟩=>⟨_,_,jG,Y6,λO' Sy=>⟨?_,(hX.trans SZ).trans Sy⟩⟩
 rw[zmt,zv9 ha.c2 λc hc=>(hs c hc).2,C' Qo]
end
theorem zkz(cs:List MB){c:Int}(c0:0<=c):∀k:Nat,k<=4->c<(k:Int)->(gi cs c).up=true->Z7 (Vt cs k) c=true
 | 0,_,h,_=>by omega
 | k+1,hk,h,hu=>by
  have hl:=Ho cs k Qo
  have hb:Up k<=8:=by
   have:k=0\/k=1\/k=2\/k=3:=Qo;rcases this with rfl | rfl | rfl | rfl <;> decide
  have key:=zl0 ⟨k,Qo⟩ ⟨(Vt cs k).toNat,Qo⟩ ⟨c.toNat,Qo⟩;rw[show ((⟨(Vt cs k).toNat,Qo⟩:Fin 8).val:Int)=Vt cs k by show (((Vt cs k).toNat:Nat):Int)=Vt cs k; omega,show ((⟨c.toNat,Qo⟩:Fin 4).val:Int)=c by show ((c.toNat:Nat):Int)=c; omega] at key;simp only[Vt]
  by_cases e:c=(k:Int)
  ·subst e;rw[E' hu,key hl.2];simp
  ·have ih:=zkz cs c0 k Qo Qo hu;split
   ·rw[key hl.2,ih]; simp
   ·exact ih
theorem NN{cs:List MB}(h4:cs.length<=4){c:Int}(c0:0<=c)(c1:c<(cs.length:Int))(hu:(gi cs c).up=true):JZ cs≠0:=λe=>by
 have h:=zkz cs c0 cs.length h4 c1 hu;rw[show Vt cs cs.length=0 from e] at h;have hr:=Mm h;have:c=0\/c=1\/c=2\/c=3:=Qo;rcases this with rfl | rfl | rfl | rfl <;> exact Is h Qd
theorem zvk{m c:Int}(c0:0<=c)(c4:c<4)(h:Z7 m c=true)(hn:∀j:Int,0<=j->j<4->j≠c->Z7 m j=false):Kv m 4=1:=by
 have h0:=hn 0 Qd Qd;have h1:=hn 1 Qd Qd;have h2:=hn 2 Qd Qd;have h3:=hn 3 Qd Qd;have i0:((0:Nat):Int)=0:=rfl;have i1:((1:Nat):Int)=1:=rfl;have i2:((2:Nat):Int)=2:=rfl;have i3:((3:Nat):Int)=3:=rfl;have:c=0\/c=1\/c=2\/c=3:=Qo;simp only[Kv,i0,i1,i2,i3];rcases this with rfl | rfl | rfl | rfl
 ·have e1:=h1 Qd; have e2:=h2 Qd; have e3:=h3 Qd; simp[h,e1,e2,e3]
 ·have e1:=h0 Qd; have e2:=h2 Qd; have e3:=h3 Qd; simp[h,e1,e2,e3]
 ·have e1:=h0 Qd; have e2:=h1 Qd; have e3:=h3 Qd; simp[h,e1,e2,e3]
 ·have e1:=h0 Qd; have e2:=h1 Qd; have e3:=h2 Qd; simp[h,e1,e2,e3]
theorem ztk{cs:List MB}(h4:cs.length<=4){c:Int}(c0:0<=c)(c1:c<(cs.length:Int))(hu:(gi cs c).up=true)(hn:Kv (JZ cs) 4≠1):∃j:Int,0<=j/\j<(cs.length:Int)/\j≠c/\(gi cs j).up=true:=by
 refine Classical.byContradiction λgE=>hn (zvk c0 Qo (zkz cs c0 cs.length h4 c1 hu) λj j0 j4 hj=>?_)
 cases h:Z7 (JZ cs) j with
 | false=>rfl
 | true=>
  obtain⟨a,b⟩:=zky cs (c:=j) cs.length h4 h;exact Is ⟨j,j0,a,hj,b⟩ gE
theorem SW.S8{K:Int}{W:Q7}(h:SW K W){c:Int}(c0:0<=c)(c1:c<(W.IF.length:Int)){x:MB}(hu:JZ (W.IF.set c.toNat x)≠0)(h1 : -1<=x.cur)(h2:x.cur<12):SW K (S8 W c x):=by
 have hl:(W.IF.set c.toNat x).length=W.IF.length:=H';have hg:∀d:Int,0<=d->gi (W.IF.set c.toNat x) d=if c=d then x else gi W.IF d:=λd d0=>QG _ _ c0 c1 d0
 refine⟨h.a.cp hl hu,λt a b n=>?_,h.tv,λk d u a b=>?_,λd a b=>?_⟩
 ·show _/\_/\_<(((W.IF.set c.toNat x).length:Nat):Int);rw[hl];exact h.t t a b n
 ·have b:d<(((W.IF.set c.toNat x).length:Nat):Int):=b;rw[hl] at b;exact h.s k d u a b
 ·have b:d<(((W.IF.set c.toNat x).length:Nat):Int):=b;rw[hl] at b;show _<=(gi (W.IF.set c.toNat x) d).cur/\(gi (W.IF.set c.toNat x) d).cur<12;rw[hg _ a];split
  ·exact⟨h1,h2⟩
  ·exact h.cu d a b
noncomputable def VJ(W:Q7)(c:Int)(up:Bool)(last:Int):Int:=if XJ W c=false then 1 else if (gi W.IF c).up≠up then 6 else if last≠0 then last else if QM W=false then 10 else 0
theorem zjc{W:Q7}{c:Int}{up:Bool}{last:Int}(h:VJ W c up last=0):XJ W c=true/\(gi W.IF c).up=up/\last=0/\QM W=true:=by
 unfold VJ at h
 split at h
 ·cases h
 ·rename_i h1
  split at h
  ·cases h
  ·rename_i h2
   split at h
   ·rename_i h3; exact Is h h3
   ·rename_i h3
    split at h
    ·cases h
    ·rename_i h4;exact⟨by simpa using h1,by simpa using h2,Qo,by simpa using h4⟩
theorem H5{W:Q7}{c:Int}{up:Bool}{last:Int}(h1:XJ W c=true)(h2:(gi W.IF c).up=up)(h3:last=0):VJ W c up last=if QM W=false then 10 else 0:=by
 unfold VJ;rw[C' (by rw[h1]; decide),C' (by simpa using h2),C' (by simpa using h3)]
def Lx(x:MB)(b:Bool):MB:={ x with up:=b }
def z2u(W:Q7)(c:Int):Q7:=Qg (HU (S8 W c (Lx (gi W.IF c) true)))
def GF(W:Q7):Int:=if Kv (JZ W.IF) 4=1 then 5 else 0
def zvx(W:Q7)(c:Int):Q7:=Qg (HU (Ry (S8 W c (Lx (gi W.IF c) false)) c))
theorem z0e{W:Q7}{c:Int}(hW:Qw W=true)(hb:VJ W c false 0=0):0<=c/\c<(W.IF.length:Int)/\SF Ql (Ql+Qj) W/\SF Ql (Ql+Qj) (S8 W c (Lx (gi W.IF c) true)):=by
 obtain⟨h1,h2,_,h4⟩:=zjc hb;have wp:=Qh.1 hW;have sw:=PH wp (Qh.1 h4);obtain⟨c0,c1⟩:=OD h1;have hcu:=sw.cu c c0 c1;have hl:(W.IF.set c.toNat (Lx (gi W.IF c) true)).length=W.IF.length:=H';have hc2:=wp.a.c2;exact⟨c0,c1,KI sw,KI (sw.S8 c0 c1 (x:=Lx (gi W.IF c) true) (NN Qo c0 Qo (by rw[QG _ _ c0 c1 c0,E' rfl]; rfl)) hcu.1 hcu.2)⟩
theorem zvy{W:Q7}{c:Int}(hW:Qw W=true)(hb:VJ W c true (GF W)=0):0<=c/\c<(W.IF.length:Int)/\SF Ql (Ql+Qj) W/\SF Ql (Ql+Qj) (S8 W c (Lx (gi W.IF c) false)):=by
 obtain⟨h1,h2,h3,h4⟩:=zjc hb;have wp:=Qh.1 hW;have sw:=PH wp (Qh.1 h4);obtain⟨c0,c1⟩:=OD h1;have hcu:=sw.cu c c0 c1;have hl:(W.IF.set c.toNat (Lx (gi W.IF c) false)).length=W.IF.length:=H';have hc2:=wp.a.c2;have hn:Kv (JZ W.IF) 4≠1:=λe=>by unfold GF at h3; rw[E' e] at h3; cases h3
 obtain⟨j,j0,j1,jc,hj⟩:=ztk hc2 c0 c1 h2 hn;exact⟨c0,c1,KI sw,KI (sw.S8 c0 c1 (x:=Lx (gi W.IF c) false) (NN Qo j0 Qo (by rw[QG _ _ c0 c1 j0,C' λe=>jc e.symm]; exact hj)) hcu.1 hcu.2)⟩
theorem q9(W:Q7)(c:Int)(x:MB)(m:MW):Qa (S8 W c x) m=Qa W m:=by simp[Qa,S8]
section
variable {W W':Q7}{m:MW}{w:Wo}
theorem zj2{c:Int}(h:Xg [] w W m)(hl:XM W) :
  Cz MZ #[.agg (Qa W m).toArray,I c] w λe w'=>∃v,e=.returned v/\QU (Xi W (VJ W c false 0) (z2u W c)) w v w':=by
 refine zjj _ _ _ _ _ _ _ _ _ _ c (R:=λv w'=>QU (Xi W (VJ W c false 0) (z2u W c)) w v w') ?_;intro y hy y1 dG wr R2 We;have hm9:=Zl;have vC:=hl.c;refine I4 (Zh (h.ext R2) hl) ?_;rintro e wv (⟨hW,he,SE⟩ | ⟨hW,m',he,hM,SE⟩)
 ·exact⟨_,_,_,_,_,_,_,_,_,_,_,he,Qe SE We,λg=>by simp at g,true,λg=>by simp at g,λ_ M' Rb=>QU.bad hW ((R2.trans SE).fresh Rb λz hm=>.inl (YW hy dG z hm)),λg=>by simp at g⟩
 have hK:=Wk.begin hy dG R2 We hM SE;have hr:=hK.rd;have wp:=Qh.1 hW;have hm0:=Js;refine⟨_,_,_,_,_,_,_,_,_,_,_,he,Qe SE We,λ_=>⟨Qo,Qo⟩,XJ W c,λ_=>Qr,λg M' Rb=>?_,λg=>?_⟩
 ·have g:XJ W c=false:=by
   cases hc:XJ W c with
   | false=>rfl
   | true=>rw[hc] at g; split at g <;> simp at g
  have hb:VJ W c false 0=1:=by unfold VJ; rw[E' g]
  exact QU.no hW (by rw[hb]; decide) (hK.step Rb) hb
 have g:XJ W c=true:=by
  cases hc:XJ W c with
  | true=>rfl
  | false=>rw[hc] at g; simp at g
 obtain⟨c0,c1⟩:=OD g;refine⟨hr.c.ix Ym c0 c1,_,hr.c.f c0 c1 (j:=0) rfl,λg2 O' Rb=>?_,λg2=>⟨λg3 Rq Rb=>?_,λg3=>?_⟩⟩
 ·have hb:VJ W c false 0=6:=by unfold VJ; rw[C' (by rw[g]; decide),E' (by rw[g2]; decide)]
  exact QU.no hW (by rw[hb]; decide) (hK.step Rb) hb
 ·have cD:¬QM W=true:=λhr=>by rw[E' hr] at g3; simp at g3
  have hb:VJ W c false 0=10:=by rw[H5 g g2 rfl,E' (by simpa using cD)]
  rw[C' cD];exact QU.no hW (by rw[hb]; decide) (hK.step Rb) hb
 have cD:QM W=true:=Ir λhr=>by rw[C' hr] at g3; simp at g3
 have hb:VJ W c false 0=0:=by rw[H5 g g2 rfl,C' (by rw[cD]; decide)]
 obtain⟨_,_,_,sf⟩:=z0e hW hb;have SI:Wk 8 [y,y1] w (R9 wv m'.cO (Int.toNat c*5+0) [.bool true]) (S8 W c (Lx (gi W.IF c) true)) m':=hK.R9 (hK.own.Am3 c0 c1 (j:=0) (vs:=[.bool true]) (x:=Lx (gi W.IF c) true) rfl Qs) CR;refine⟨hr.c.ix Ym c0 c1,zri hK.own hK.nb c0 c1 Qd,λRw SZ gY=>?_⟩;have e5:Qa (S8 W c (Lx (gi W.IF c) true)) m'=Qa W m':=q9 _ _ _ _;have hE:z2u W c=Qg (HU (S8 W c (Lx (gi W.IF c) true))):=rfl;rw[hE];generalize S8 W c (Lx (gi W.IF c) true)=V at SI sf e5;have fE:=SI.step SZ;have RD:=JP fE.own sf (I3 _) (by simp only[Qj]; decide);rw[e5] at RD;refine I4 RD ?_;rintro e1 R7 ⟨jG,jL⟩;refine⟨_,_,_,_,_,_,_,_,_,_,jG,fE.kept jL gY,λRQ Sy mM=>?_⟩;have dV:=(fE.SH jL gY).step Sy;have aW:=Qx dV.own (Hj sf (I3 _)).1.w (by simp only[Qj]; decide) (by simp only[Qj]; decide) dV.base;rw[Fa sf (I3 _),e5] at aW;refine I4 aW ?_;rintro e2 Rr ⟨m2,aT,kJ⟩;exact⟨_,_,_,_,_,_,_,_,_,_,aT,dV.kept kJ mM,λSi aS=>QU.ok hW hb ((dV.SH kJ mM).step aS)⟩
theorem zfz{c:Int}(h:Xg [] w W m)(hl:XM W) :
  Cz M7 #[.agg (Qa W m).toArray,I c] w λe w'=>∃v,e=.returned v/\QU (Xi W (VJ W c true (GF W)) (zvx W c)) w v w':=by
 refine zfl _ _ _ _ _ _ _ _ _ _ c (R:=λv w'=>QU (Xi W (VJ W c true (GF W)) (zvx W c)) w v w') ?_;intro y hy y1 dG wr R2 We;have hm0:=Js;have vC:=hl.c;refine I4 (Zh (h.ext R2) hl) ?_;rintro e wv (⟨hW,he,SE⟩ | ⟨hW,m',he,hM,SE⟩)
 ·exact⟨_,_,_,_,_,_,_,_,_,_,_,he,Qe SE We,λg=>by simp at g,true,λg=>by simp at g,λ_ M' Rb=>QU.bad hW ((R2.trans SE).fresh Rb λz hm=>.inl (YW hy dG z hm)),λg=>by simp at g⟩
 have hK:=Wk.begin hy dG R2 We hM SE;have hr:=hK.rd;have wp:=Qh.1 hW;refine⟨_,_,_,_,_,_,_,_,_,_,_,he,Qe SE We,λ_=>⟨Qo,Qo⟩,XJ W c,λ_=>Qr,λg M' Rb=>?_,λg=>?_⟩
 ·have g:XJ W c=false:=by
   cases hc:XJ W c with
   | false=>rfl
   | true=>rw[hc] at g; split at g <;> simp at g
  have hb:VJ W c true (GF W)=1:=by unfold VJ; rw[E' g]
  exact QU.no hW (by rw[hb]; decide) (hK.step Rb) hb
 have g:XJ W c=true:=by
  cases hc:XJ W c with
  | true=>rfl
  | false=>rw[hc] at g; simp at g
 obtain⟨c0,c1⟩:=OD g;refine⟨hr.c.ix Ym c0 c1,_,hr.c.f c0 c1 (j:=0) rfl,λg2 O' Rb=>?_,λg2=>⟨_,L5 hr wp.a.c2,_,N1,λg3 Rq Rb=>?_,λg3=>⟨λg4 Rw Rb=>?_,λg4=>?_⟩⟩⟩
 ·have g2:(gi W.IF c).up=false:=by simpa using g2
  have hb:VJ W c true (GF W)=6:=by unfold VJ; rw[C' (by rw[g]; decide),E' (by rw[g2]; decide)]
  exact QU.no hW (by rw[hb]; decide) (hK.step Rb) hb
 ·have g2:(gi W.IF c).up=true:=by simpa using g2
  have hL:GF W=5:=by unfold GF; rw[E' (by simpa using g3)]
  have hb:VJ W c true (GF W)=5:=by unfold VJ; rw[C' (by rw[g]; decide),C' (by rw[g2]; decide),hL,E' Qd]
  exact QU.no hW (by rw[hb]; decide) (hK.step Rb) hb
 ·have g2:(gi W.IF c).up=true:=by simpa using g2
  have hL:GF W=0:=by unfold GF; rw[C' (by simpa using g3)]
  have cD:¬QM W=true:=λhr=>by rw[E' hr] at g4; simp at g4
  have hb:VJ W c true (GF W)=10:=by rw[H5 g g2 hL,E' (by simpa using cD)]
  rw[C' cD];exact QU.no hW (by rw[hb]; decide) (hK.step Rb) hb
 have g2:(gi W.IF c).up=true:=by simpa using g2
 have hL:GF W=0:=by unfold GF; rw[C' (by simpa using g3)]
 have cD:QM W=true:=Ir λhr=>by rw[C' hr] at g4; simp at g4
 have hb:VJ W c true (GF W)=0:=by rw[H5 g g2 hL,C' (by rw[cD]; decide)]
 obtain⟨_,_,_,sf⟩:=zvy hW hb;have SI:Wk 8 [y,y1] w (R9 wv m'.cO (Int.toNat c*5+0) [.bool false]) (S8 W c (Lx (gi W.IF c) false)) m':=hK.R9 (hK.own.Am3 c0 c1 (j:=0) (vs:=[.bool false]) (x:=Lx (gi W.IF c) false) rfl Qs) CR;refine⟨hr.c.ix Ym c0 c1,zri hK.own hK.nb c0 c1 Qd,λRQ Sy mM=>?_⟩;have e5:Qa (S8 W c (Lx (gi W.IF c) false)) m'=Qa W m':=q9 _ _ _ _;have hlV:(S8 W c (Lx (gi W.IF c) false)).IF.length=W.IF.length:=by simp[S8]
 have hE:zvx W c=Qg (HU (Ry (S8 W c (Lx (gi W.IF c) false)) c)):=rfl;rw[hE];generalize S8 W c (Lx (gi W.IF c) false)=V at SI sf e5 hlV;have c1V:c<(V.IF.length:Int):=by rw[hlV]; exact c1
 have fE:=SI.step Sy;have By6:=ZF fE.own c0 c1V;rw[e5] at By6;refine I4 By6 ?_;rintro e0 wv0 ⟨he0,hy0⟩;refine⟨_,_,_,_,_,_,_,_,_,_,he0,fE.kept hy0 mM,λSi aS hs6=>?_⟩;have sfE:=sf.Ry c0 c1V;have uE:=(fE.SH hy0 mM).step aS;generalize Ry V c=U at uE sfE;have RD:=JP uE.own sfE (I3 _) (by simp only[Qj]; decide);refine I4 RD ?_;rintro e1 R7 ⟨jG,jL⟩;refine⟨_,_,_,_,_,_,_,_,_,_,jG,uE.kept jL hs6,λSz kR hs7=>?_⟩;have hK7:=(uE.SH jL hs6).step kR;have aW:=Qx hK7.own (Hj sfE (I3 _)).1.w (by simp only[Qj]; decide) (by simp only[Qj]; decide) hK7.base;rw[Fa sfE (I3 _)] at aW;refine I4 aW ?_;rintro e2 Rr ⟨m2,aT,kJ⟩;exact⟨_,_,_,_,_,_,_,_,_,_,aT,hK7.kept kJ hs7,λW5 oH=>QU.ok hW hb ((hK7.SH kJ hs7).step oH)⟩
end
noncomputable def MN(W:Q7)(t:Int):Int:=if ZA W t=false then 2 else if (Q9 W t).state≠2 then 6 else if QM W=false then 10 else 0
def Mx(W:Q7)(t:Int):Int:=if zgx W (Q9 W t).R3>0 then Pr W (Qy W (Q9 W t).group (Q9 W t).mask) else (Q9 W t).R3
def TH(W:Q7)(t c:Int):Kf:={ Kb W t (Q9 W t).group c with state:=1 }
def A4(W:Q7)(t:Int):Q7:=Qg (Ry (IV W t (TH W t (Mx W t))) (Mx W t))
theorem T3(W:Q7)(t:Int)(x:Kf):(IV W t x).tasks.length=W.tasks.length:=by simp[IV]
theorem zqx{W:Q7}{t:Int}(h:(Q9 W t).state=2)(c:Int):VW W t (Q9 W t).group c=IV W t (Kb W t (Q9 W t).group c):=by
 unfold VW;rw[C' (by rw[h]; decide)]
theorem zk1{W:Q7}{t c:Int}(sf:SF Ql (Ql+Qj) W)(t0:0<=t)(t1:t<(W.tasks.length:Int))(n:(Q9 W t).state≠0)(c0:0<=c)(c1:c<(W.IF.length:Int)):SF Ql (Ql+Qj) (IV W t (TH W t c)):=by
 have hl:=sf.w.a.t;have hu:=(sf.w.t t t0 Qo n).1;have hv:=zqw sf (I3 _) (t:=t) hu c0 c1;exact sf.IV t0 Qo (x:=TH W t c) (λ_=>⟨hu,c0,c1⟩) hv.1 hv.2
theorem zrg{W:Q7}{t:Int}(hW:Qw W=true)(hb:MN W t=0):ZA W t=true/\(Q9 W t).state=2/\QM W=true/\SF Ql (Ql+Qj) W/\0<=Mx W t/\Mx W t<(W.IF.length:Int):=by
 have wp:=Qh.1 hW;unfold MN at hb
 split at hb
 ·cases hb
 ·rename_i h1
  split at hb
  ·cases hb
  ·rename_i h2
   split at hb
   ·cases hb
   ·rename_i h3;have h1:ZA W t=true:=by simpa using h1
    have h2:(Q9 W t).state=2:=by simpa using h2
    have h3:QM W=true:=by simpa using h3
    have sw:=PH wp (Qh.1 h3);obtain⟨t0,t1,n⟩:=YA h1;have hl:=wp.a.t;have hc:=sw.t t t0 Qo n;refine⟨h1,h2,h3,KI sw,?_⟩;unfold Mx;split
    ·have:=Hh wp.a (Q9 W t).group (Q9 W t).mask;exact⟨this.1,this.2.1⟩
    ·exact hc.2
section
variable {base pb:Nat}{W W':Q7}{m:MW}{w:Wo}
theorem Cg{t:Int}(h:Xg [] w W m)(hl:XM W) :
  Cz Oa #[.agg (Qa W m).toArray,I t] w λe w'=>∃v,e=.returned v/\QU (Xi W (MN W t) (A4 W t)) w v w':=by
 refine AV _ _ _ _ _ _ _ _ _ _ t (R:=λv w'=>QU (Xi W (MN W t) (A4 W t)) w v w') ?_;intro y hy y1 dG wr R2 We;refine I4 (Zh (h.ext R2) hl) ?_;rintro e wv (⟨hW,he,SE⟩ | ⟨hW,m',he,hM,SE⟩)
 ·exact⟨_,_,_,_,_,_,_,_,_,_,_,he,Qe SE We,λ_ M' Rb=>QU.bad hW ((R2.trans SE).fresh Rb λz hm=>.inl (YW hy dG z hm)),λg=>by simp at g⟩
 have hK:=Wk.begin hy dG R2 We hM SE;have hr:=hK.rd;have wp:=Qh.1 hW;refine⟨_,_,_,_,_,_,_,_,_,_,_,he,Qe SE We,λg=>by split at g <;> simp at g,λ_=>⟨_,U2 hr hl.t,λg O' Rb=>?_,λg=>?_⟩⟩
 ·have g:ZA W t=false:=by simpa using g
  have hb:MN W t=2:=by unfold MN; rw[E' g]
  exact QU.no hW (by rw[hb]; decide) (hK.step Rb) hb
 have g:ZA W t=true:=by simpa using g
 obtain⟨t0,t1,tn⟩:=YA g;have fH:=wp.a.t;have Wl:=hr.t.ix QF t0 t1;refine⟨Wl,_,hr.t.f t0 t1 (j:=0) rfl,λg2 Rq Rb=>?_,λg2=>⟨λg3 Rw Rb=>?_,λg3=>?_⟩⟩
 ·have g2:(Q9 W t).state≠2:=by simpa[Q9] using g2
  have hb:MN W t=6:=by unfold MN; rw[C' (by rw[g]; decide),E' g2]
  exact QU.no hW (by rw[hb]; decide) (hK.step Rb) hb
 ·have g2:¬(Q9 W t).state≠2:=by simpa[Q9] using g2
  have cD:¬QM W=true:=λhr=>by rw[E' hr] at g3; simp at g3
  have hb:MN W t=10:=by unfold MN; rw[C' (by rw[g]; decide),C' g2,E' (by simpa using cD)]
  rw[C' cD];exact QU.no hW (by rw[hb]; decide) (hK.step Rb) hb
 have g2:¬(Q9 W t).state≠2:=by simpa[Q9] using g2
 have cD:QM W=true:=Ir λhr=>by rw[C' hr] at g3; simp at g3
 have hb:MN W t=0:=by unfold MN; rw[C' (by rw[g]; decide),C' g2,C' (by rw[cD]; decide)]
 have Bm2:(Q9 W t).state=2:=by simpa using g2
 obtain⟨_,_,_,sf,_,_⟩:=zrg hW hb;obtain⟨hu,c0,c1⟩:=sf.w.t t t0 Qo tn;refine⟨Wl,_,hr.t.f t0 t1 (j:=2) rfl,_,Pp hr fH,λg4=>?_,λg4=>?_⟩
 ·have g4:zgx W (Q9 W t).R3>0:=Ot g4;have hC:Mx W t=Pr W (Qy W (Q9 W t).group (Q9 W t).mask):=E' g4;obtain⟨d0,d1,_⟩:=Hh wp.a (Q9 W t).group (Q9 W t).mask;refine⟨Wl,_,hr.t.f t0 t1 (j:=1) rfl,Wl,_,hr.t.f t0 t1 (j:=4) rfl,_,Jr hr wp.a.c2 wp.a.tree hu,_,Lq hr wp.a (zop wp),Wl,_,hr.t.f t0 t1 (j:=1) rfl,λRQ Sy mM=>?_⟩;have lJ:=hK.step Sy;have RD:=Vo lJ.own sf (I3 _) (by simp only[Qj]; decide) (t:=t) (g:=(Q9 W t).group) (c:=Pr W (Qy W (Q9 W t).group (Q9 W t).mask)) t0 Qo tn hu d0 d1;refine I4 RD ?_;rintro e1 R7 ⟨jG,jL⟩;rw[zqx Bm2 (Pr W (Qy W (Q9 W t).group (Q9 W t).mask))] at jL;have dV:=lJ.SH jL mM
  have SI:Wk 8 [y,y1] w (R9 R7 m'.tO (Int.toNat t*9+0) [I 1]) (IV W t (TH W t (Pr W (Qy W (Q9 W t).group (Q9 W t).mask)))) m':=by
   have:Wk 8 [y,y1] w (R9 R7 m'.tO (Int.toNat t*9+0) [I 1]) (IV (IV W t (Kb W t (Q9 W t).group (Pr W (Qy W (Q9 W t).group (Q9 W t).mask)))) t (TH W t (Pr W (Qy W (Q9 W t).group (Q9 W t).mask)))) m':=dV.R9 (dV.own.xS t0 (by rw[T3]; exact t1) (j:=0) (vs:=[I 1]) (x:=TH W t (Pr W (Qy W (Q9 W t).group (Q9 W t).mask))) (by rw[show gi (IV W t (Kb W t (Q9 W t).group (Pr W (Qy W (Q9 W t).group (Q9 W t).mask)))).tasks t=_ from NL t0 t1]; rfl) Qs) LR
   rwa[set_set] at this
  have CP3:Ix m'.tO W.tasks.length t:=by
   have:=dV.rd.t.ix QF t0 (by rw[T3]; exact t1)
   rwa[T3] at this
  refine⟨_,_,_,_,_,_,_,_,_,_,jG,lJ.kept jL mM,CP3,zik dV.own dV.nb t0 (by rw[T3]; exact t1) (j:=0) Qd,λSi aS hs6=>?_⟩;have e5:Qa (IV W t (TH W t (Pr W (Qy W (Q9 W t).group (Q9 W t).mask)))) m'=Qa W m':=H7 _ _ _ _;have hE:A4 W t=Qg (Ry (IV W t (TH W t (Pr W (Qy W (Q9 W t).group (Q9 W t).mask)))) (Pr W (Qy W (Q9 W t).group (Q9 W t).mask))):=by unfold A4; rw[hC]
  have sfV:=zk1 sf t0 t1 tn d0 d1;rw[hE];have hlV:(IV W t (TH W t (Pr W (Qy W (Q9 W t).group (Q9 W t).mask)))).IF.length=W.IF.length:=rfl;generalize IV W t (TH W t (Pr W (Qy W (Q9 W t).group (Q9 W t).mask)))=V at SI e5 sfV hlV;have uE:=SI.step aS;have aW:=ZF uE.own d0 (by rw[hlV]; exact d1);rw[e5] at aW;refine I4 aW ?_;rintro e2 Rr ⟨aT,kJ⟩;refine⟨_,_,_,_,_,_,_,_,_,_,aT,uE.kept kJ hs6,λSz kR hs7=>?_⟩;have hK7:=(uE.SH kJ hs6).step kR;have uY:=Qx hK7.own (sfV.Ry d0 (by rw[hlV]; exact d1)).w (by simp only[Qj]; decide) (by simp only[Qj]; decide) hK7.base;refine I4 uY ?_;rintro e3 S3 ⟨m2,gP,hy5⟩;exact⟨_,_,_,_,_,_,_,_,_,_,gP,hK7.kept hy5 hs7,λW5 oH=>QU.ok hW hb ((hK7.SH hy5 hs7).step oH)⟩
 ·have g4:¬zgx W (Q9 W t).R3>0:=Ou g4;have hC:Mx W t=(Q9 W t).R3:=C' g4;have d0:=c0;have d1:=c1;refine⟨Wl,_,hr.t.f t0 t1 (j:=1) rfl,λRQ Sy mM=>?_⟩;have lJ:=hK.step Sy;have RD:=Vo lJ.own sf (I3 _) (by simp only[Qj]; decide) (t:=t) (g:=(Q9 W t).group) (c:=(Q9 W t).R3) t0 Qo tn hu d0 d1;refine I4 RD ?_;rintro e1 R7 ⟨jG,jL⟩;rw[zqx Bm2 ((Q9 W t).R3)] at jL;have dV:=lJ.SH jL mM
  have SI:Wk 8 [y,y1] w (R9 R7 m'.tO (Int.toNat t*9+0) [I 1]) (IV W t (TH W t ((Q9 W t).R3))) m':=by
   have:Wk 8 [y,y1] w (R9 R7 m'.tO (Int.toNat t*9+0) [I 1]) (IV (IV W t (Kb W t (Q9 W t).group ((Q9 W t).R3))) t (TH W t ((Q9 W t).R3))) m':=dV.R9 (dV.own.xS t0 (by rw[T3]; exact t1) (j:=0) (vs:=[I 1]) (x:=TH W t ((Q9 W t).R3)) (by rw[show gi (IV W t (Kb W t (Q9 W t).group ((Q9 W t).R3))).tasks t=_ from NL t0 t1]; rfl) Qs) LR
   rwa[set_set] at this
  have CP3:Ix m'.tO W.tasks.length t:=by
   have:=dV.rd.t.ix QF t0 (by rw[T3]; exact t1)
   rwa[T3] at this
  refine⟨_,_,_,_,_,_,_,_,_,_,jG,lJ.kept jL mM,CP3,zik dV.own dV.nb t0 (by rw[T3]; exact t1) (j:=0) Qd,λSi aS hs6=>?_⟩;have e5:Qa (IV W t (TH W t ((Q9 W t).R3))) m'=Qa W m':=H7 _ _ _ _;have hE:A4 W t=Qg (Ry (IV W t (TH W t ((Q9 W t).R3))) ((Q9 W t).R3)):=by unfold A4; rw[hC]
  have sfV:=zk1 sf t0 t1 tn d0 d1;rw[hE];have hlV:(IV W t (TH W t ((Q9 W t).R3))).IF.length=W.IF.length:=rfl;generalize IV W t (TH W t ((Q9 W t).R3))=V at SI e5 sfV hlV;have uE:=SI.step aS;have aW:=ZF uE.own d0 (by rw[hlV]; exact d1);rw[e5] at aW;refine I4 aW ?_;rintro e2 Rr ⟨aT,kJ⟩;refine⟨_,_,_,_,_,_,_,_,_,_,aT,uE.kept kJ hs6,λSz kR hs7=>?_⟩;have hK7:=(uE.SH kJ hs6).step kR;have uY:=Qx hK7.own (sfV.Ry d0 (by rw[hlV]; exact d1)).w (by simp only[Qj]; decide) (by simp only[Qj]; decide) hK7.base;refine I4 uY ?_;rintro e3 S3 ⟨m2,gP,hy5⟩;exact⟨_,_,_,_,_,_,_,_,_,_,gP,hK7.kept hy5 hs7,λW5 oH=>QU.ok hW hb ((hK7.SH hy5 hs7).step oH)⟩
end
theorem zij{a b w:Int}(ha:0<=a)(hb:0<=b)(h:a+b<=100000000)(w1:1<=w)(w2:w<=20):Zf (a+b) w=Zf a w+Zf b w:=by
 rw[P7 Qo h w1 w2,P7 ha Qo w1 w2,P7 hb Qo w1 w2,Int.add_mul]
theorem zsi{l w:Int}(h0:0<=l)(h1:l<=ZB w):Y1 l w=l:=by
 unfold Y1;rw[C' (show ¬ZB w<l by omega)]
 split <;> omega
theorem Kh{p q:Nat->Bool}:∀{n:Nat},(∀j,j<n->p j=q j)->TN p n=TN q n
 | 0,_=>rfl
 | n+1,h=>by simp only[TN]; rw[Kh λj hj=>h j Qo,h n Qo]
theorem MJ{p q:Nat->Bool}{v u:Nat->Int}:∀{n:Nat},(∀j,j<n->p j=q j)->(∀j,j<n->p j=true->v j=u j)->QZ p v n=QZ q u n
 | 0,_,_=>rfl
 | n+1,h,hv=>by
  have ih:=MJ (p:=p) (q:=q) (v:=v) (u:=u) (n:=n) (λj hj=>h j Qo) λj hj=>hv j Qo
  simp only[QZ];rw[ih,<-h n Qo]
  cases hp:p n with
  | false=>simp
  | true=>
   rw[hv n Qo hp];rcases Zu q u n with ⟨e,_⟩ | ⟨e0,e1,e2,_⟩
   ·rw[e]; simp
   ·rw[hv _ Qo (by rw[h _ Qo]; exact e2)]
theorem YV{gs:List ZV}(ht:Yk gs):∀g:Int,Q6 gs g=true->∀x∈Zc gs g,Q6 gs x=true/\x≠0:=
 Mo ht (λx hx=>by rw[show Zc gs 0=[] from Zr _ _] at hx; cases hx) λh hu hz ih x hx=>by
  rw[YP ht hu hz] at hx;rcases Ij.1 hx with e | e
  ·subst e; exact⟨hu,hz⟩
  ·exact ih x e
def VY(W:Q7)(k c:Int):Prop:=(Qb W (gi W.IE k).parent c).floor<=(Qb W k c).v/\(Qb W k c).v-(Qb W (gi W.IE k).parent c).floor<=ZB (Qb W k c).w
structure Er (W:Q7) (x:Kf):Prop where
 st:x.state=1\/x.state=2
 g:Q6 W.IE x.group=true
 n:Qf x.nice≠0
 m:OH x.mask=true
 m0:x.mask≠0
 s:ZU x.sum=true
 u:ZU x.used=true
 l1:0<=x.load
 l2:x.load<=8000000
 f:x.state=1->(Qb W x.group x.R3).floor<=x.v/\x.v-(Qb W x.group x.R3).floor<=ZB (Qf x.nice)
structure zns (W:Q7) (k c:Int):Prop where
 s:ZU (Qb W k c).sum=true
 root:k=0->(Qb W k c).on=false/\(Qb W k c).v=0/\(Qb W k c).w=10
 st:k≠0->(Qb W k c).on=true->VY W k c
structure z0m (W:Q7) (c:Int):Prop where
 b:ZU (gi W.IF c).busy=true
 i:ZU (gi W.IF c).idle=true
 c1 : -1<=(gi W.IF c).cur
 c2:(gi W.IF c).cur<12
 no:(gi W.IF c).cur<0->(gi W.IF c).aC=0
 yes:0<=(gi W.IF c).cur->(gi W.IF c).up=true/\1<=(gi W.IF c).aC/\(gi W.IF c).aC<=149
 q:0<=(gi W.IF c).cur->(Q9 W (gi W.IF c).cur).state=1->(Q9 W (gi W.IF c).cur).R3=c->
  (Q9 W (gi W.IF c).cur).v-(Qb W (Q9 W (gi W.IF c).cur).group c).floor<=Zf (gi W.IF c).aC (Qf (Q9 W (gi W.IF c).cur).nice)/\
  ∀x∈Zc W.IE (Q9 W (gi W.IF c).cur).group,VY W x c/\(Qb W x c).v-(Qb W (gi W.IE x).parent c).floor<=Zf (gi W.IF c).aC (Qb W x c).w
structure PreA (W:Q7):Prop where
 a:WA W
 t:∀t:Int,0<=t->t<12->(Q9 W t).state=0/\Q9 W t=O0\/(Q9 W t).state≠0/\Er W (Q9 W t)
 l:∀t:Int,0<=t->t<12->(Q9 W t).state≠0->0<=(Q9 W t).R3/\(Q9 W t).R3<(W.IF.length:Int)
 s:∀k c:Int,Q6 W.IE k=true->0<=c->c<(W.IF.length:Int)->zns W k c
structure TI (W:Q7):Prop extends PreA W where
 c:∀c:Int,0<=c->c<(W.IF.length:Int)->z0m W c
def zah(W:Q7):Prop:=∀t:Int,0<=t->t<12->(Q9 W t).state≠0->Z7 (Qy W (Q9 W t).group (Q9 W t).mask) (Q9 W t).R3=true
def z27(W:Q7):Prop:=∀k c:Int,Q6 W.IE k=true->0<=c->c<(W.IF.length:Int)->Zx W k c 20=true->Z5 W k c 20<=(Qb W k c).floor
theorem FZ{v f k:Int}(hv:ZU v=true)(hf:ZU f=true):Kd v f k=true↔f<=v/\v-f<=ZB k:=by
 have h1:=Ys.1 hv;have h2:=Ys.1 hf;have hw:IntKind.i64.wrap (v-f)=v-f:=Qm.wrap (k:=.i64) ⟨by show _<=v-f; omega,by show v-f<=_; omega⟩;unfold Kd;rw[hw];simp
theorem Vg{W:Q7}(wp:Je W):zah W:=λt t0 t1 n=>by
 rcases wp.t t t0 t1 with h | h
 ·exact Is h.1 n
 ·exact h.2.c
theorem Ef{W:Q7}(wp:Je W){k c:Int}(hu:Q6 W.IE k=true)(c0:0<=c)(c1:c<(W.IF.length:Int)):MS W k c:=by
 obtain⟨u0,u1,_⟩:=wp.a.u hu;have hl:=wp.a.sl hu;exact wp.s k c u0 u1 c0 Qo
theorem XB{W:Q7}(wp:Je W):TI W:=by
 have mS:∀k c:Int,Q6 W.IE k=true->k≠0->0<=c->c<(W.IF.length:Int)->(Qb W k c).on=true->VY W k c:=λk c hu hz c0 c1 ho=>by
  have h1:=Ef wp hu c0 c1;have h2:=Ef wp (wp.a.up hu hz) c0 c1;exact(FZ h1.v h2.f).1 (h1.st hz ho)
 refine⟨⟨wp.a,λt t0 t1=>?_,λt t0 t1 n=>?_,λk c hu c0 c1=>?_⟩,λc c0 c1=>?_⟩
 ·rcases wp.t t t0 t1 with h | ⟨n,h⟩
  ·exact .inl h
  ·refine .inr ⟨n,h.st,h.g,h.n,h.m,h.m0,h.s,h.u,h.l1,h.l2,λh1=>?_⟩;obtain⟨d0,d1⟩:=KV wp.a h.c;exact(FZ h.v (Ef wp h.g d0 d1).f).1 (h.f h1)
 ·rcases wp.t t t0 t1 with h | ⟨_,h⟩
  ·exact Is h.1 n
  ·exact KV wp.a h.c
 ·have h:=Ef wp hu c0 c1;exact⟨h.s,h.root,λhz ho=>mS k c hu hz c0 c1 ho⟩
 ·have h:=wp.c c c0 c1;have hl:=wp.a.t;refine⟨h.b,h.i,h.c1,by have:=h.c2; omega,h.no,λh0=>⟨(h.yes h0).1,(h.yes h0).2.1,(h.yes h0).2.2.1⟩,λh0 h1 h2=>?_⟩;obtain⟨_,_,_,_,oG,Bd5⟩:=h.yes h0;unfold Mt at Bd5;rw[A',Ik] at Bd5;refine⟨Bd5.1,λx hx=>?_⟩
  have hu:Q6 W.IE (Q9 W (gi W.IF c).cur).group=true:=by
   rcases wp.t _ h0 (by have:=h.c2; omega) with hz | ⟨_,hz⟩
   ·rw[hz.1] at h1; cases h1
   ·exact hz.g
  obtain⟨xu,xz⟩:=YV wp.a.tree _ hu x hx;unfold ZL Vp at oG;rw[A',h2,List.all_eq_true] at oG;have hs:=Bd5.2;unfold TZ at hs;rw[List.all_eq_true] at hs;exact⟨mS x c xu xz c0 c1 (oG.2 x hx),Ot (hs x hx)⟩
structure Bi (c:Int) (W W':Q7):Prop where
 n:W'.now=W.now
 t:W'.tasks=W.tasks
 g:Z1 W.IE W'.IE
 len:W'.IF.length=W.IF.length
 b:∀i:Int,0<=i->(gi W'.IE i).IQ=(gi W.IE i).IQ
 e:∀k d:Int,0<=k->0<=d->d≠c->Qb W' k d=Qb W k d
 cp:∀d:Int,0<=d->d≠c->gi W'.IF d=gi W.IF d
theorem Bi.refl(c:Int)(W:Q7):Bi c W W:=⟨rfl,rfl,Z1.refl _,rfl,λ_ _=>rfl,λ_ _ _ _ _=>rfl,λ_ _ _=>rfl⟩
theorem Bi.trans{c:Int}{A B C:Q7}(h:Bi c A B)(k:Bi c B C):Bi c A C:=⟨k.n.trans h.n,k.t.trans h.t,h.g.trans k.g,k.len.trans h.len,λi hi=>(k.b i hi).trans (h.b i hi),λi d hi hd hn=>(k.e i d hi hd hn).trans (h.e i d hi hd hn),λd hd hn=>(k.cp d hd hn).trans (h.cp d hd hn)⟩
theorem Nj{W:Q7}{g c:Int}{s:KN}(h0:0<=g)(h1:g<(W.IE.length:Int))(c0:0<=c)(c1:c<((gi W.IE g).IG.length:Int)):Bi c W (Rx W g c s):=
 ⟨rfl,rfl,J5 h0 h1,rfl,λi hi=>zg7 h0 h1 hi,λk d hk hd hn=>by
  rw[Jw h0 h1 c0 c1 hk hd,C' λh=>hn h.2.symm],λ_ _ _=>rfl⟩
theorem zmm{W:Q7}{c:Int}(c0:0<=c)(c1:c<(W.IF.length:Int)):Bi c W (Ry W c):=
 ⟨rfl,rfl,Z1.refl _,H',λ_ _=>rfl,λ_ _ _ _ _=>rfl,λd d0 hn=>by
  show gi (W.IF.set c.toNat (Ja (gi W.IF c))) d=_;rw[QG _ _ c0 c1 d0,C' λh=>hn h.symm]⟩
section
variable {c d:Int}{W W':Q7}
theorem OR(ht:W'.tasks=W.tasks)(hT:Z1 W.IE W'.IE){g:Int}(h:∀j:Nat,j<W.IE.length->1<=j->(gi W.IE (j:Int)).used=true->(gi W.IE (j:Int)).parent=g->(Qb W' (j:Int) d).on=(Qb W (j:Int) d).on):QV W' g d=QV W g d:=by
 unfold QV;rw[ht,hT.len]
 congr 1
 ·refine Kh λj _=>?_
  unfold OQ;rw[ht]
 ·refine Kh λj hj=>?_
  unfold Jf;rw[hT.u,hT.p]
  by_cases h1:1<=j
  ·cases hu:(gi W.IE (j:Int)).used with
   | false=>simp
   | true=>
    by_cases hp:(gi W.IE (j:Int)).parent=g
    ·rw[h j hj h1 hu hp]
    ·rw[show ((gi W.IE (j:Int)).parent==g)=false from beq_false_of_ne hp]; simp
  ·simp[h1]
theorem zsq(ht:W'.tasks=W.tasks)(hT:Z1 W.IE W'.IE)(hl:W.IE.length=8)(h:∀k:Int,0<=k->(Qb W' k d).on=(Qb W k d).on)(g:Int){j:Nat}(hj:j<20):Zq W' g d j=Zq W g d j:=by
 unfold Zq;split
 ·unfold OQ; rw[ht]
 ·unfold Jf;rw[hT.u,hT.p,h _ Qo]
theorem zho(ht:W'.tasks=W.tasks)(h:∀k:Int,0<=k->(Qb W' k d).v=(Qb W k d).v)(j:Nat):Zn W' d j=Zn W d j:=by
 unfold Zn;split
 ·unfold Q9; rw[ht]
 ·rw[h _ Qo]
theorem BF(ht:W'.tasks=W.tasks)(hT:Z1 W.IE W'.IE)(hl:W.IE.length=8)(h:∀k:Int,0<=k->(Qb W' k d).on=(Qb W k d).on)(hv:∀k:Int,0<=k->(Qb W' k d).v=(Qb W k d).v)(g:Int):Zx W' g d 20=Zx W g d 20/\Z5 W' g d 20=Z5 W g d 20:=by
 have e:QZ (Zq W' g d) (Zn W' d) 20=QZ (Zq W g d) (Zn W d) 20:=MJ (λj hj=>zsq ht hT hl h g hj) λj _ _=>zho ht hv j
 unfold Zx Z5;rw[e];refine⟨rfl,?_⟩;split
 ·rfl
 ·exact zho ht hv _
theorem Jy(ht:W'.tasks=W.tasks)(t:Int):Q9 W' t=Q9 W t:=by unfold Q9; rw[ht]
theorem TF(hT:Z1 W.IE W'.IE)(g:Int):Zc W'.IE g=Zc W.IE g:=hT.path 3 g
theorem zjg{g:Int}(hb:(gi W'.IE g).IQ=(gi W.IE g).IQ):Uq W' g d=Uq W g d:=by unfold Uq; rw[hb]
end
theorem zp0{W:Q7}{g c:Int}{j:Nat}(hj:j<20)(h:Zq W g c j=true):Zx W g c 20=true/\Z5 W g c 20<=Zn W c j:=by
 unfold Zx Z5;rcases Zu (Zq W g c) (Zn W c) 20 with ⟨_,h2⟩ | ⟨h1,_,_,h4,_⟩
 ·rw[h2 j hj] at h; cases h
 ·rw[C' Qo];exact⟨Ii h1,h4 j hj h⟩
theorem zrq{W:Q7}(ha:WA W){t:Int}(t0:0<=t)(t1:t<12)(hs:(Q9 W t).state=1):Zx W (Q9 W t).group (Q9 W t).R3 20=true/\Z5 W (Q9 W t).group (Q9 W t).R3 20<=(Q9 W t).v:=by
 have e:((t.toNat:Nat):Int)=t:=Qo
 have h:Zq W (Q9 W t).group (Q9 W t).R3 t.toNat=true:=by
  rw[Vh Qo];unfold OQ;rw[e];show (((Q9 W t).state==1)&&((Q9 W t).group==_)&&((Q9 W t).R3==_))=true;rw[hs]; simp
 have:=zp0 Qo h
 rwa[DY Qo,e] at this
theorem zn1{W:Q7}(ha:WA W){k c:Int}(hu:Q6 W.IE k=true)(hz:k≠0)(ho:(Qb W k c).on=true):Zx W (gi W.IE k).parent c 20=true/\Z5 W (gi W.IE k).parent c 20<=(Qb W k c).v:=by
 obtain⟨k0,k1,ku⟩:=Q5.1 hu;have hl:=ha.gl;have e:((k.toNat:Nat):Int)=k:=Qo
 have h:Zq W (gi W.IE k).parent c (12+k.toNat)=true:=by
  rw[Ua];unfold Jf;rw[e,ku,ho];simp;omega
 have:=zp0 Qo h
 rwa[DX,e] at this
structure LC (c:Int) (W W':Q7):Prop where
 o:Bi c W W'
 cs:W'.IF=W.IF
 f:∀k d:Int,0<=k->0<=d->(Qb W' k d).floor=(Qb W k d).floor
 w:∀k d:Int,0<=k->0<=d->(Qb W' k d).w=(Qb W k d).w
 s:∀k d:Int,0<=k->0<=d->(Qb W' k d).sum=(Qb W k d).sum
 r:∀d:Int,0<=d->Qb W' 0 d=Qb W 0 d
 v:∀k d:Int,Q6 W.IE k=true->k≠0->0<=d->VY W k d->(Qb W' k d).v=(Qb W k d).v
theorem LC.refl(c:Int)(W:Q7):LC c W W:=⟨Bi.refl _ _,rfl,λ_ _ _ _=>rfl,λ_ _ _ _=>rfl,λ_ _ _ _=>rfl,λ_ _=>rfl,λ_ _ _ _ _ _=>rfl⟩
theorem LC.st{c:Int}{W W':Q7}(ht:Yk W.IE)(h:LC c W W'){k d:Int}(hu:Q6 W.IE k=true)(hz:k≠0)(d0:0<=d)(hs:VY W k d):VY W' k d:=by
 have hp:=(Q5.1 (Yl ht hu hz).1).1;have k0:=(Q5.1 hu).1;unfold VY;rw[h.o.g.p,h.f _ d hp d0,h.v k d hu hz d0 hs,h.w k d k0 d0];exact hs
theorem LC.trans{c:Int}{A B C:Q7}(ht:Yk A.IE)(h:LC c A B)(k:LC c B C):LC c A C:=
 ⟨h.o.trans k.o,k.cs.trans h.cs,λi d a b=>(k.f i d a b).trans (h.f i d a b),λi d a b=>(k.w i d a b).trans (h.w i d a b),λi d a b=>(k.s i d a b).trans (h.s i d a b),λd a=>(k.r d a).trans (h.r d a),λi d hu hz d0 hs=>by
  rw[k.v i d (by rw[h.o.g.fD]; exact hu) hz d0 (h.st ht hu hz d0 hs),h.v i d hu hz d0 hs]⟩
theorem TI.lc{c:Int}{W W':Q7}(p:TI W)(h:LC c W W')(ha:WA W')(hon:∀k d:Int,Q6 W.IE k=true->k≠0->0<=d->d<(W.IF.length:Int)->(Qb W' k d).on=true->VY W' k d):TI W':=by
 have et:∀t,Q9 W' t=Q9 W t:=Jy h.o.t;refine⟨⟨ha,λt t0 t1=>?_,λt t0 t1 n=>?_,λk d hu d0 d1=>?_⟩,λd d0 d1=>?_⟩
 ·rw[et];rcases p.t t t0 t1 with hz | ⟨n,hx⟩
  ·exact .inl hz
  ·refine .inr ⟨n,hx.st,by rw[h.o.g.fD]; exact hx.g,hx.n,hx.m,hx.m0,hx.s,hx.u,hx.l1,hx.l2,λh1=>?_⟩;rw[h.f _ _ (Q5.1 hx.g).1 (p.l t t0 t1 n).1];exact hx.f h1
 ·rw[et] at n ⊢;rw[h.o.len];exact p.l t t0 t1 n
 ·rw[h.o.g.fD] at hu;rw[h.cs] at d1;have hs:=p.s k d hu d0 d1;have k0:=(Q5.1 hu).1;refine⟨by rw[h.s k d k0 d0]; exact hs.s,λhz=>?_,λhz ho=>hon k d hu hz d0 d1 ho⟩;subst hz;rw[h.r d d0];exact hs.root rfl
 ·rw[h.cs] at d1;have hc:=p.c d d0 d1;refine⟨by rw[h.cs]; exact hc.b,by rw[h.cs]; exact hc.i,by rw[h.cs]; exact hc.c1,by rw[h.cs]; exact hc.c2,by rw[h.cs]; exact hc.no,by rw[h.cs]; exact hc.yes,?_⟩;rw[h.cs];simp only[et];intro h0 h1 h2;obtain⟨q1,q2⟩:=hc.q h0 h1 h2
  have hu:Q6 W.IE (Q9 W (gi W.IF d).cur).group=true:=by
   rcases p.t _ h0 hc.c2 with hz | ⟨_,hx⟩
   ·rw[hz.1] at h1; cases h1
   ·exact hx.g
  refine⟨by rw[h.f _ d (Q5.1 hu).1 d0]; exact q1,λx hx=>?_⟩;rw[TF h.o.g] at hx;obtain⟨xu,xz⟩:=YV p.a.tree _ hu x hx;obtain⟨s1,s2⟩:=q2 x hx;refine⟨h.st p.a.tree xu xz d0 s1,?_⟩;rw[h.o.g.p,h.v x d xu xz d0 s1,h.f _ d (Q5.1 (p.a.up xu xz)).1 d0,h.w x d (Q5.1 xu).1 d0];exact s2
def T8(W:Q7)(c k:Int):Prop:=(Qb W k c).on=(QV W k c && !Uq W k c)
theorem zvg{W:Q7}(p:TI W){k c d:Int}(hu:Q6 W.IE k=true)(hd:dep 3 W.IE k=d)(d1:1<=d)(c0:0<=c)(c1:c<(W.IF.length:Int)) :
  LC c W (Rx W k c (ZM W k c))/\TI (Rx W k c (ZM W k c))/\T8 (Rx W k c (ZM W k c)) c k/\∀g:Int,Q6 W.IE g=true->g≠k->(gi W.IE k).parent≠g->T8 W c g->T8 (Rx W k c (ZM W k c)) c g:=by
 have hz:k≠0:=λe=>by subst e; rw[Y4] at hd; omega
 obtain⟨u0,u1,_⟩:=Q5.1 hu;have hl:=p.a.gl;have hsl:=p.a.sl hu;have uD:c<((gi W.IE k).IG.length:Int):=Qo;have hpu:=p.a.up hu hz
 have hpk:(gi W.IE k).parent≠k:=λe=>by
  obtain⟨_,_,_,n,e1,e2,_⟩:=Yl p.a.tree hu hz;rw[e] at e2; omega
 have e:∀{i j:Int},0<=i->0<=j->Qb (Rx W k c (ZM W k c)) i j=if k=i/\c=j then ZM W k c else Qb W i j:=λhi hj=>Jw u0 u1 c0 uD hi hj
 have ev:VY W k c->(ZM W k c).v=(Qb W k c).v:=λhs=>by
  simp only[ZM];split
  ·rw[zsi (by have:=hs.1; omega) hs.2]; omega
  ·rfl
 have eq0:∀{i j:Int},k=i/\c=j->(ZM W k c).floor=(Qb W i j).floor/\(ZM W k c).w=(Qb W i j).w/\(ZM W k c).sum=(Qb W i j).sum:=λh=>by
  obtain⟨rfl,rfl⟩:=h; exact⟨rfl,rfl,rfl⟩
 have hT:=J5 (W:=W) (g:=k) (c:=c) (s:=ZM W k c) u0 u1
 have lc:LC c W (Rx W k c (ZM W k c)):=by
  refine⟨Nj u0 u1 c0 uD,rfl,λi j hi hj=>?_,λi j hi hj=>?_,λi j hi hj=>?_,λj hj=>?_,λi j iu iz hj hs=>?_⟩
  ·rw[e hi hj]; split
   ·rename_i h; exact(eq0 h).1
   ·rfl
  ·rw[e hi hj]; split
   ·rename_i h; exact(eq0 h).2.1
   ·rfl
  ·rw[e hi hj]; split
   ·rename_i h; exact(eq0 h).2.2
   ·rfl
  ·rw[e (I3 0) hj,C' λh=>hz h.1]
  ·rw[e (Q5.1 iu).1 hj]; split
   ·rename_i h;obtain⟨rfl,rfl⟩:=h;exact ev hs
   ·rfl
 have act:∀g:Int,(gi W.IE k).parent≠g->QV (Rx W k c (ZM W k c)) g c=QV W g c:=λg hg=>by
  refine OR (W:=W) (W':=Rx W k c (ZM W k c)) rfl hT λj hj _ _ hp=>?_
  rw[e Qo c0,C'];rintro⟨h,_⟩;exact hg (by rw[h]; exact hp)
 have hoe:T8 (Rx W k c (ZM W k c)) c k:=by
  unfold T8;rw[e u0 c0,E' ⟨rfl,rfl⟩,act k hpk,H6 u0 u1 u0];rfl
 refine⟨lc,p.lc lc (p.a.Rx u0 Qo) λi j iu iz j0 j1 ho=>?_,hoe,λg gu gk hg h=>?_⟩
 ·by_cases h:k=i/\c=j
  ·obtain⟨rfl,rfl⟩:=h
   by_cases hs:VY W k c
   ·exact lc.st p.a.tree hu hz c0 hs
   ·have C54:(Qb W k c).on=false:=by
     cases hb:(Qb W k c).on with
     | false=>rfl
     | true=>exact Is ((p.s k c hu c0 c1).st hz hb) hs
    rw[e u0 c0,E' ⟨rfl,rfl⟩] at ho;have ho:(QV W k c && !Uq W k c)=true:=ho;unfold VY;rw[hT.p,e u0 c0,E' ⟨rfl,rfl⟩,lc.f _ c (Q5.1 hpu).1 c0];simp only[ZM];rw[E' ⟨ho,C54⟩];have:=ZG ((Qb W k c).v-(Qb W (gi W.IE k).parent c).floor) (Qb W k c).w;omega
  ·rw[e (Q5.1 iu).1 j0,C' h] at ho;exact lc.st p.a.tree iu iz j0 ((p.s i j iu j0 j1).st iz ho)
 ·unfold T8;have g0:=(Q5.1 gu).1;rw[e g0 c0,C' λh=>gk h.1.symm,act g hg,H6 u0 u1 g0];exact h
theorem zmd{W:Q7}(p:TI W){c d:Int}(d1:1<=d)(c0:0<=c)(c1:c<(W.IF.length:Int))(hI:∀g:Int,Q6 W.IE g=true->d<dep 3 W.IE g->T8 W c g):∀k:Nat,k<=8->
  LC c W (Zi W c d k)/\TI (Zi W c d k)/\∀g:Int,Q6 W.IE g=true->d<dep 3 W.IE g\/dep 3 W.IE g=d/\g<(k:Int)->T8 (Zi W c d k) c g
 | 0,_=>⟨LC.refl _ _,p,λg gu h=>hI g gu (by
   rcases h with h | h
   ·exact h
   ·have:=(Q5.1 gu).1;have:=h.2;omega)⟩
 | k+1,hk=>by
  obtain⟨a,b,ih⟩:=zmd p d1 c0 c1 hI k Qo;have hl:=b.a.gl;have hT:=a.o.g;simp only[Zi];split
  ·rename_i hc;have hu:Q6 (Zi W c d k).IE (k:Int)=true:=Q5.2 ⟨Qo,Qo,hc.1⟩;obtain⟨l1,l2,l3,l4⟩:=zvg b hu hc.2 d1 c0 (c:=c) (by rw[a.cs]; exact c1);refine⟨a.trans p.a.tree l1,l2,λg gu h=>?_⟩
   by_cases e:g=(k:Int)
   ·subst e; exact l3
   ·have hkz:(k:Int)≠0:=λe=>by have:=hc.2; rw[e,Y4] at this; omega
    obtain⟨_,_,_,n,e1,e2,_⟩:=Yl b.a.tree hu hkz;refine l4 g (by rw[hT.fD]; exact gu) e (λhp=>?_) (ih g gu ?_)
    ·rw[hp,hT.dep] at e2;have:=hc.2;omega
    ·rcases h with h | h
     ·exact .inl h
     ·exact .inr ⟨h.1,by have:=h.2; omega⟩
  ·rename_i hc;refine⟨a,b,λg gu h=>ih g gu ?_⟩;rcases h with h | h
   ·exact .inl h
   ·refine .inr ⟨h.1,?_⟩
    by_cases e:g=(k:Int)
    ·subst e;exact Is ⟨by rw[hT.u]; exact(Q5.1 gu).2.2,by rw[hT.dep]; exact h.1⟩ hc
    ·have:=h.2;omega
theorem zhm{W:Q7}(p:TI W){c:Int}(c0:0<=c)(c1:c<(W.IF.length:Int)):LC c W (QL W c)/\TI (QL W c)/\∀g:Int,Q6 W.IE g=true->g≠0->T8 (QL W c) c g:=by
 have key:∀j:Nat,j<=3->LC c W (Yy W c j)/\TI (Yy W c j)/\∀g:Int,Q6 W.IE g=true->3-(j:Int)<dep 3 W.IE g->T8 (Yy W c j) c g:=by
  intro j
  induction j with
  | zero=>exact λ_=>⟨LC.refl _ _,p,λg gu h=>by have:=(G8 p.a gu).2; omega⟩
  | succ j ih=>
   intro hj;obtain⟨a,b,h⟩:=ih Qo;have hT:=a.o.g;obtain⟨a2,b2,h2⟩:=zmd b (c:=c) (d:=3-(j:Int)) Qo c0 (by rw[a.cs]; exact c1) (λg gu hd=>h g (by rwa[hT.fD] at gu) (by rwa[hT.dep] at hd)) 8 (I8 _);refine⟨a.trans p.a.tree a2,b2,λg gu hd=>h2 g (by rw[hT.fD]; exact gu) ?_⟩;rw[hT.dep];have:=(Q5.1 gu).2.1;have:=p.a.gl
   by_cases e:dep 3 W.IE g=3-(j:Int)
   ·exact .inr ⟨e,Qo⟩
   ·exact .inl Qo
 obtain⟨a,b,h⟩:=key 3 (I8 _);refine⟨a,b,λg gu gz=>h g gu ?_⟩;obtain⟨_,_,_,n,e1,_⟩:=Yl p.a.tree gu gz;omega
theorem zcy{W:Q7}(p:TI W):∀c:Nat,c<=W.IF.length->TI (Y2 W c)/\(Y2 W c).IF=W.IF
 | 0,_=>⟨p,rfl⟩
 | c+1,hc=>by
  obtain⟨a,e⟩:=zcy p c Qo;obtain⟨l,b,_⟩:=zhm a (c:=(c:Int)) Qo (by rw[e]; omega);exact⟨b,l.cs.trans e⟩
theorem TI.BK6{W W':Q7}(p:TI W)(ho:Td W W')(ha:WA W'):TI W':=by
 have et:∀t,Q9 W' t=Q9 W t:=Jy ho.t;have es:∀k d:Int,0<=k->Qb W' k d=Qb W k d:=λk d hk=>by unfold Qb; rw[ho.s k hk]
 have est:∀k d:Int,Q6 W.IE k=true->k≠0->(VY W' k d↔VY W k d):=λk d hu hz=>by
  unfold VY;rw[ho.g.p,es _ _ (Q5.1 (p.a.up hu hz)).1,es _ _ (Q5.1 hu).1]
 refine⟨⟨ha,λt t0 t1=>?_,λt t0 t1 n=>?_,λk d hu d0 d1=>?_⟩,λd d0 d1=>?_⟩
 ·rw[et];rcases p.t t t0 t1 with hz | ⟨n,hx⟩
  ·exact .inl hz
  ·refine .inr ⟨n,hx.st,by rw[ho.g.fD]; exact hx.g,hx.n,hx.m,hx.m0,hx.s,hx.u,hx.l1,hx.l2,λh1=>?_⟩;rw[es _ _ (Q5.1 hx.g).1];exact hx.f h1
 ·rw[et] at n ⊢;rw[ho.c];exact p.l t t0 t1 n
 ·rw[ho.g.fD] at hu;rw[ho.c] at d1;have hs:=p.s k d hu d0 d1;have k0:=(Q5.1 hu).1;exact⟨by rw[es k d k0]; exact hs.s,by rw[es k d k0]; exact hs.root,λhz h=>(est k d hu hz).2 (hs.st hz (by rwa[es k d k0] at h))⟩
 ·rw[ho.c] at d1;have hc:=p.c d d0 d1;refine⟨by rw[ho.c]; exact hc.b,by rw[ho.c]; exact hc.i,by rw[ho.c]; exact hc.c1,by rw[ho.c]; exact hc.c2,by rw[ho.c]; exact hc.no,by rw[ho.c]; exact hc.yes,?_⟩;rw[ho.c];simp only[et];intro h0 h1 h2;obtain⟨q1,q2⟩:=hc.q h0 h1 h2
  have hu:Q6 W.IE (Q9 W (gi W.IF d).cur).group=true:=by
   rcases p.t _ h0 hc.c2 with hz | ⟨_,hx⟩
   ·rw[hz.1] at h1; cases h1
   ·exact hx.g
  refine⟨by rw[es _ d (Q5.1 hu).1]; exact q1,λx hx=>?_⟩;rw[TF ho.g] at hx;obtain⟨xu,xz⟩:=YV p.a.tree _ hu x hx;obtain⟨s1,s2⟩:=q2 x hx;refine⟨(est x d xu xz).2 s1,?_⟩;rw[ho.g.p,es x d (Q5.1 xu).1,es _ d (Q5.1 (p.a.up xu xz)).1];exact s2
structure FC (c:Int) (W W':Q7):Prop where
 o:Bi c W W'
 cs:W'.IF=W.IF
 on:∀k d:Int,0<=k->0<=d->(Qb W' k d).on=(Qb W k d).on
 v:∀k d:Int,0<=k->0<=d->(Qb W' k d).v=(Qb W k d).v
 w:∀k d:Int,0<=k->0<=d->(Qb W' k d).w=(Qb W k d).w
 s:∀k d:Int,0<=k->0<=d->(Qb W' k d).sum=(Qb W k d).sum
 up:∀k d:Int,0<=k->0<=d->(Qb W k d).floor<=(Qb W' k d).floor
 fl:∀k:Int,0<=k->(Qb W' k c).floor=(Qb W k c).floor\/Zx W k c 20=true/\(Qb W' k c).floor=Z5 W k c 20
theorem BS{W:Q7}(ha:WA W){c:Int}(c0:0<=c)(c1:c<(W.IF.length:Int)):∀k:Nat,k<=8->FC c W (QQ W c k)/\WA (QQ W c k)/\∀g:Int,Q6 W.IE g=true->g<(k:Int)->Zx W g c 20=true->Z5 W g c 20<=(Qb (QQ W c k) g c).floor
 | 0,_=>⟨⟨Bi.refl _ _,rfl,λ_ _ _ _=>rfl,λ_ _ _ _=>rfl,λ_ _ _ _=>rfl,λ_ _ _ _=>rfl,λ_ _ _ _=>I3 _,λ_ _=>.inl rfl⟩,ha,λg gu h=>by have:=(Q5.1 gu).1; omega⟩
 | k+1,hk=>by
  obtain⟨f,hA,ih⟩:=BS ha c0 c1 k Qo;have hl:=hA.gl;have hT:=f.o.g;have hb:=BF f.o.t hT ha.gl (λi hi=>f.on i c hi c0) (λi hi=>f.v i c hi c0);simp only[QQ];split
  ·rename_i hc;have hu:Q6 (QQ W c k).IE (k:Int)=true:=Q5.2 ⟨Qo,Qo,hc.1⟩;have hsl:=hA.sl hu;have uD:c<((gi (QQ W c k).IE (k:Int)).IG.length:Int):=by rw[hsl,f.cs]; exact c1
   have e:∀{i j:Int},0<=i->0<=j->Qb (Rx (QQ W c k) (k:Int) c (DR (QQ W c k) (k:Int) c)) i j=if (k:Int)=i/\c=j then DR (QQ W c k) (k:Int) c else Qb (QQ W c k) i j:=λhi hj=>Jw Qo Qo c0 uD hi hj
   refine⟨⟨f.o.trans (Nj Qo Qo c0 uD),f.cs,λi j hi hj=>?_,λi j hi hj=>?_,λi j hi hj=>?_,λi j hi hj=>?_,λi j hi hj=>?_,λi hi=>?_⟩,hA.Rx Qo Qo,λg gu hg hB=>?_⟩
   ·rw[e hi hj]; split
    ·rename_i h; obtain⟨rfl,rfl⟩:=h; exact f.on _ _ hi hj
    ·exact f.on i j hi hj
   ·rw[e hi hj]; split
    ·rename_i h; obtain⟨rfl,rfl⟩:=h; exact f.v _ _ hi hj
    ·exact f.v i j hi hj
   ·rw[e hi hj]; split
    ·rename_i h; obtain⟨rfl,rfl⟩:=h; exact f.w _ _ hi hj
    ·exact f.w i j hi hj
   ·rw[e hi hj]; split
    ·rename_i h; obtain⟨rfl,rfl⟩:=h; exact f.s _ _ hi hj
    ·exact f.s i j hi hj
   ·rw[e hi hj]; split
    ·rename_i h; obtain⟨rfl,rfl⟩:=h;have h1:=f.up (k:Int) c hi hj;have h2:=hc.2.2;show _<=Z5 (QQ W c k) (k:Int) c 20;omega
    ·exact f.up i j hi hj
   ·rw[e hi c0]; split
    ·rename_i h; obtain⟨rfl,_⟩:=h;refine .inr ⟨(hb _).1▸hc.2.1,?_⟩;show Z5 (QQ W c k) (k:Int) c 20=_;exact(hb _).2
    ·exact f.fl i hi
   ·have g0:=(Q5.1 gu).1;rw[e g0 c0];split
    ·rename_i h; obtain⟨rfl,_⟩:=h;show _<=Z5 (QQ W c k) (k:Int) c 20;rw[(hb _).2]; exact I3 _
    ·rename_i h;exact ih g gu (by have:g≠(k:Int):=λe=>h ⟨e.symm,rfl⟩; omega) hB
  ·rename_i hc;refine⟨f,hA,λg gu hg hB=>?_⟩
   by_cases e:g=(k:Int)
   ·subst e;rw[hT.u,(hb _).1,(hb _).2] at hc
    by_cases h:Z5 W (k:Int) c 20>(Qb (QQ W c k) (k:Int) c).floor
    ·exact Is ⟨(Q5.1 gu).2.2,hB,h⟩ hc
    ·omega
   ·exact ih g gu Qo hB
theorem Bi.Wb{c d:Int}{W W':Q7}(h:Bi c W W')(d0:0<=d)(hd:d≠c)(g:Int):QV W' g d=QV W g d:=
 OR h.t h.g λj _ _ _ _=>by rw[h.e _ d Qo d0 hd]
theorem Bi.line{c:Int}{W W':Q7}(h:Bi c W W')(ht:Yk W.IE){t:Int}(hu:Q6 W.IE (Q9 W t).group=true)(d0:0<=(Q9 W t).R3)(hd:(Q9 W t).R3≠c):ZL W' t=ZL W t:=by
 unfold ZL Vp;rw[Jy h.t,TF h.g]
 congr 1
 rw[Bool.eq_iff_iff,List.all_eq_true,List.all_eq_true];refine forall_congr' λx=>forall_congr' λhx=>?_
 rw[h.e x _ (Q5.1 (YV ht _ hu x hx).1).1 d0 hd]
structure Dn (W:Q7) (c:Int):Prop where
 on:∀k:Int,Q6 W.IE k=true->k≠0->T8 W c k
 cu:0<=(gi W.IF c).cur->(Q9 W (gi W.IF c).cur).R3=c/\ZL W (gi W.IF c).cur=true
 fl:∀k:Int,Q6 W.IE k=true->Zx W k c 20=true->Z5 W k c 20<=(Qb W k c).floor
theorem Dn.oth{c d:Int}{W W':Q7}(h:Dn W d)(p:TI W)(o:Bi c W W')(d0:0<=d)(d1:d<(W.IF.length:Int))(hd:d≠c):Dn W' d:=by
 refine⟨λk hu hz=>?_,λh0=>?_,λk hu hB=>?_⟩
 ·rw[o.g.fD] at hu;have k0:=(Q5.1 hu).1;have:=h.on k hu hz;unfold T8 at this ⊢;rw[o.e k d k0 d0 hd,o.Wb d0 hd,zjg (o.b k k0)];exact this
 ·rw[o.cp d d0 hd] at h0 ⊢;rw[Jy o.t];obtain⟨h1,h2⟩:=h.cu h0;refine⟨h1,?_⟩
  have hs:(Q9 W (gi W.IF d).cur).state=1:=by
   unfold ZL at h2;rw[A'] at h2;exact Iz h2.1
  have hu:Q6 W.IE (Q9 W (gi W.IF d).cur).group=true:=by
   rcases p.t _ h0 (p.c d d0 d1).c2 with hz | ⟨_,hx⟩
   ·rw[hz.1] at hs; cases hs
   ·exact hx.g
  rw[o.line p.a.tree hu (by rw[h1]; exact d0) (by rw[h1]; exact hd)];exact h2
 ·rw[o.g.fD] at hu;have hb:=BF (d:=d) o.t o.g p.a.gl (λi hi=>by rw[o.e i d hi d0 hd]) (λi hi=>by rw[o.e i d hi d0 hd]) k;rw[hb.1] at hB;rw[hb.2,o.e k d (Q5.1 hu).1 d0 hd];exact h.fl k hu hB
theorem Er.cp{W:Q7}{x:Kf}(h:Er W x)(cs:List MB):Er { W with IF:=cs } x:=⟨h.st,h.g,h.n,h.m,h.m0,h.s,h.u,h.l1,h.l2,h.f⟩
theorem zns.cp{W:Q7}{k c:Int}(h:zns W k c)(cs:List MB):zns { W with IF:=cs } k c:=⟨h.s,h.root,h.st⟩
theorem PreA.Ry{W:Q7}(p:PreA W){c:Int}(c0:0<=c)(c1:c<(W.IF.length:Int)):PreA (Ry W c):=by
 have hlen:(YtnclplgaicdapaaGreatDoor.Ry W c).IF.length=W.IF.length:=H';refine⟨?_,λt t0 t1=>?_,λt t0 t1 n=>?_,λk d hu d0 d1=>?_⟩
 ·refine p.a.cp H' ?_;rw[zkx H' λj hj=>?_]
  ·exact p.a.ups
  ·rw[QG _ _ c0 c1 Qo];split
   ·rename_i e; rw[<-e]; rfl
   ·rfl
 ·rcases p.t t t0 t1 with h | h
  ·exact .inl h
  ·exact .inr ⟨h.1,h.2.cp _⟩
 ·rw[hlen]; exact p.l t t0 t1 n
 ·rw[hlen] at d1; exact(p.s k d hu d0 d1).cp _
theorem TI.Ry{W:Q7}(p:TI W){c:Int}(c0:0<=c)(c1:c<(W.IF.length:Int)):TI (Ry W c):=by
 refine⟨p.toPreA.Ry c0 c1,λd d0 d1=>?_⟩;have hlen:(YtnclplgaicdapaaGreatDoor.Ry W c).IF.length=W.IF.length:=H';have mR:gi (YtnclplgaicdapaaGreatDoor.Ry W c).IF d=if c=d then Ja (gi W.IF c) else gi W.IF d:=QG _ _ c0 c1 d0;rw[hlen] at d1;have hc:=p.c d d0 d1
 by_cases e:c=d
 ·subst e;rw[E' rfl] at mR;have n1:(Ja (gi W.IF c)).cur = -1:=rfl;exact⟨by rw[mR]; exact hc.b,by rw[mR]; exact hc.i,by rw[mR,n1]; exact I3 _,by rw[mR,n1]; decide,λ_=>by rw[mR]; rfl,λh=>by rw[mR,n1] at h; omega,λh=>by rw[mR,n1] at h; omega⟩
 ·rw[C' e] at mR;exact⟨by rw[mR]; exact hc.b,by rw[mR]; exact hc.i,by rw[mR]; exact hc.c1,by rw[mR]; exact hc.c2,by rw[mR]; exact hc.no,by rw[mR]; exact hc.yes,by rw[mR]; exact hc.q⟩
theorem zwu{W:Q7}(p:TI W){c:Int}(c0:0<=c)(c1:c<(W.IF.length:Int)):TI (Ul W c)/\Bi c W (Ul W c)/\Dn (Ul W c) c:=by
 obtain⟨l,p1,hon⟩:=zhm p c0 c1;obtain⟨f,hA,sQ⟩:=BS p1.a c0 (c:=c) (by rw[l.cs]; exact c1) 8 (I8 _);have f:FC c (QL W c) (Zb (QL W c) c):=f;have hA:WA (Zb (QL W c) c):=hA;have sQ:∀g:Int,Q6 (QL W c).IE g=true->g<((8:Nat):Int)->Zx (QL W c) g c 20=true->Z5 (QL W c) g c 20<=(Qb (Zb (QL W c) c) g c).floor:=sQ;have hon:∀g:Int,Q6 (QL W c).IE g=true->g≠0->T8 (QL W c) c g:=λg gu gz=>hon g (by rwa[l.o.g.fD] at gu) gz
 have cP:=p1.a.gl;have vC:(QL W c).IF.length=W.IF.length:=by rw[l.cs]
 have Ww:Ul W c=if Me (Zb (QL W c) c) c=true then Ry (Zb (QL W c) c) c else Zb (QL W c) c:=rfl;have hO:Bi c W (Zb (QL W c) c):=l.o.trans f.o;rw[Ww];clear Ww;have uD:c<((QL W c).IF.length:Int):=by rw[vC]; exact c1
 generalize QL W c=V at p1 hon f hA sQ cP vC hO uD;generalize Zb V c=F at f hA sQ hO;have et:∀t,Q9 F t=Q9 V t:=Jy f.o.t;have hT:=f.o.g;have bD:=BF (d:=c) f.o.t hT cP (λi hi=>f.on i c hi c0) (λi hi=>f.v i c hi c0)
 have low:∀k:Int,Q6 V.IE k=true->∀v:Int,(Zx V k c 20=true/\Z5 V k c 20<=v)->(Qb V k c).floor<=v->(Qb F k c).floor<=v:=λk hu v hv hf=>by
  rcases f.fl k (Q5.1 hu).1 with e | ⟨_,e⟩
  ·rw[e]; exact hf
  ·rw[e]; exact hv.2
 have st:∀k d:Int,Q6 V.IE k=true->k≠0->0<=d->(Qb V k d).on=true->VY V k d->VY F k d:=λk d hu hz d0 ho hs=>by
  have pu:=p1.a.up hu hz;have k0:=(Q5.1 hu).1;have q0:=(Q5.1 pu).1;unfold VY;rw[hT.p,f.v k d k0 d0,f.w k d k0 d0];have hup:=f.up _ d q0 d0;refine⟨?_,by have:=hs.2; omega⟩
  by_cases hd:d=c
  ·subst hd;exact low _ pu _ (zn1 p1.a hu hz ho) hs.1
  ·rw[f.o.e _ d q0 d0 hd]; exact hs.1
 have pa:PreA F:=by
  refine⟨hA,λt t0 t1=>?_,λt t0 t1 n=>?_,λk d hu d0 d1=>?_⟩
  ·rw[et];rcases p1.t t t0 t1 with hz | ⟨n,hx⟩
   ·exact .inl hz
   ·refine .inr ⟨n,hx.st,by rw[hT.fD]; exact hx.g,hx.n,hx.m,hx.m0,hx.s,hx.u,hx.l1,hx.l2,λh1=>?_⟩;obtain⟨d0,d1⟩:=p1.l t t0 t1 n;have g0:=(Q5.1 hx.g).1;have hup:=f.up _ _ g0 d0;have hs:=hx.f h1;refine⟨?_,Qo⟩
    by_cases hd:(Q9 V t).R3=c
    ·have hb:=zrq p1.a t0 t1 h1;rw[hd] at hb hs ⊢;exact low _ hx.g _ hb hs.1
    ·rw[f.o.e _ _ g0 d0 hd]; exact hs.1
  ·rw[et] at n ⊢;rw[f.cs];exact p1.l t t0 t1 n
  ·rw[hT.fD] at hu;rw[f.cs] at d1;have hs:=p1.s k d hu d0 d1;have k0:=(Q5.1 hu).1;refine⟨by rw[f.s k d k0 d0]; exact hs.s,λhz=>?_,λhz h=>?_⟩
   ·rw[f.on k d k0 d0,f.v k d k0 d0,f.w k d k0 d0]; exact hs.root hz
   ·rw[f.on k d k0 d0] at h;exact st k d hu hz d0 h (hs.st hz h)
 have ptu:∀t:Int,0<=t->t<12->(Q9 V t).state=1->Q6 V.IE (Q9 V t).group=true:=λt t0 t1 h=>by
  rcases p1.t t t0 t1 with hz | ⟨_,hx⟩
  ·rw[hz.1] at h; cases h
  ·exact hx.g
 have pc:∀d:Int,0<=d->d<(V.IF.length:Int)->(d=c->Me F c=false)->z0m F d:=λd d0 d1 hg=>by
  have hc:=p1.c d d0 d1;refine⟨by rw[f.cs]; exact hc.b,by rw[f.cs]; exact hc.i,by rw[f.cs]; exact hc.c1,by rw[f.cs]; exact hc.c2,by rw[f.cs]; exact hc.no,by rw[f.cs]; exact hc.yes,?_⟩;rw[f.cs];simp only[et];intro h0 h1 h2;obtain⟨q1,q2⟩:=hc.q h0 h1 h2;have hu:=ptu _ h0 hc.c2 h1;have hup:=f.up _ d (Q5.1 hu).1 d0;refine⟨Qo,λx hx=>?_⟩;rw[TF hT] at hx;obtain⟨xu,xz⟩:=YV p1.a.tree _ hu x hx;obtain⟨s1,s2⟩:=q2 x hx;have x0:=(Q5.1 xu).1;have q0:=(Q5.1 (p1.a.up xu xz)).1;have Db8:=f.up _ d q0 d0;refine⟨?_,by rw[hT.p,f.v x d x0 d0,f.w x d x0 d0]; omega⟩
  by_cases hd:d=c
  ·subst hd
   have hl:ZL F (gi V.IF d).cur=true:=by
    have:=hg rfl;unfold Me at this;rw[f.cs,et,Ii h0,h2] at this
    simpa using this
   unfold ZL Vp at hl;rw[et,h2,TF hT,A',List.all_eq_true] at hl;have ho:=hl.2 x hx;rw[f.on x d x0 d0] at ho;exact st x d xu xz d0 ho s1
  ·unfold VY;rw[hT.p,f.o.e x d x0 d0 hd,f.o.e _ d q0 d0 hd];exact s1
 have Bm0:∀k:Int,Q6 F.IE k=true->k≠0->T8 F c k:=λk hu hz=>by
  rw[hT.fD] at hu;have k0:=(Q5.1 hu).1;have:=hon k hu hz;unfold T8 at this ⊢;rw[f.on k c k0 c0,OR f.o.t hT λj _ _ _ _=>f.on _ c Qo c0,zjg (f.o.b k k0)];exact this
 have Cd6:∀k:Int,Q6 F.IE k=true->Zx F k c 20=true->Z5 F k c 20<=(Qb F k c).floor:=λk hu hB=>by
  rw[hT.fD] at hu;rw[(bD k).1] at hB;rw[(bD k).2];exact sQ k hu (by have:=(Q5.1 hu).2.1; omega) hB
 split
 ·rename_i hg;have cF:c<(F.IF.length:Int):=by rw[f.cs]; exact uD
  have mR:∀d:Int,0<=d->gi (Ry F c).IF d=if c=d then Ja (gi F.IF c) else gi F.IF d:=λd d0=>QG _ _ c0 cF d0
  have hlen:(Ry F c).IF.length=F.IF.length:=H';refine⟨⟨pa.Ry c0 cF,λd d0 d1=>?_⟩,hO.trans (zmm c0 cF),Bm0,λh0=>?_,Cd6⟩
  ·rw[hlen] at d1
   by_cases e:c=d
   ·subst e;have hc:=p1.c c c0 uD;have e1:gi (Ry F c).IF c=Ja (gi V.IF c):=by rw[mR c c0,E' rfl,f.cs]
    have n1:(Ja (gi V.IF c)).cur = -1:=rfl;exact⟨by rw[e1]; exact hc.b,by rw[e1]; exact hc.i,by rw[e1,n1]; exact I3 _,by rw[e1,n1]; decide,λ_=>by rw[e1]; rfl,λh=>by rw[e1,n1] at h; omega,λh=>by rw[e1,n1] at h; omega⟩
   ·have hc:=pc d d0 (by rw[<-f.cs]; exact d1) λh=>Is h.symm e
    have e1:gi (Ry F c).IF d=gi F.IF d:=by rw[mR d d0,C' e]
    exact⟨by rw[e1]; exact hc.b,by rw[e1]; exact hc.i,by rw[e1]; exact hc.c1,by rw[e1]; exact hc.c2,by rw[e1]; exact hc.no,by rw[e1]; exact hc.yes,by rw[e1]; exact hc.q⟩
  ·rw[mR c c0,E' rfl] at h0;have h0:(0:Int)<=-1:=h0;omega
 ·rename_i hg;have hg:Me F c=false:=by simpa using hg
  refine⟨⟨pa,λd d0 d1=>pc d d0 (by rw[<-f.cs]; exact d1) λ_=>hg⟩,hO,Bm0,λh0=>?_,Cd6⟩;unfold Me at hg;rw[Ii h0,Bool.true_and,I0] at hg;exact⟨by simpa using hg.1,by simpa using hg.2⟩
theorem zm9{W:Q7}(p:TI W):∀c:Nat,c<=W.IF.length->TI (XC W c)/\(XC W c).IF.length=W.IF.length/\(XC W c).tasks=W.tasks/\Z1 W.IE (XC W c).IE/\∀d:Int,0<=d->d<(c:Int)->Dn (XC W c) d
 | 0,_=>⟨p,rfl,rfl,Z1.refl _,λd a b=>by omega⟩
 | c+1,hc=>by
  obtain⟨a,e,et,eg,ih⟩:=zm9 p c Qo;obtain⟨p1,o,dn⟩:=zwu a (c:=(c:Int)) Qo (by rw[e]; omega);refine⟨p1,o.len.trans e,o.t.trans et,eg.trans o.g,λd d0 d1=>?_⟩
  by_cases h:d=(c:Int)
  ·subst h; exact dn
  ·exact(ih d d0 Qo).oth a o d0 (by rw[e]; omega) h
theorem ztb{K:Int}{W:Q7}(sw:SW K W)(p:TI W)(hK:0<=K):TI (Qg W)/\Fr W (Qg W)/\∀d:Int,0<=d->d<(W.IF.length:Int)->Dn (Qg W) d:=by
 obtain⟨a,e⟩:=zcy p W.IF.length (I8 _);obtain⟨s1,_⟩:=Oq (F:=K) (K:=K+Qj) (sw.sf.mono (I3 _) (by simp only[Qj]; omega)) (I3 _) W.IF.length (I8 _);obtain⟨s2,b2⟩:=Vn s1 8 (I8 _);have p2:=a.BK6 b2 s2.w.a;have e2:(Yi (Y2 W W.IF.length) 8).IF.length=W.IF.length:=by rw[b2.c,e]
 obtain⟨p3,e3,_,_,dn⟩:=zm9 p2 W.IF.length (by rw[e2]; exact I8 _);exact⟨p3,(UI sw hK).2,dn⟩
theorem z1z{K:Int}{W:Q7}(sw:SW K W)(hK:K<=100000000000000000)(p:TI W)(hl:zah W)(dn:∀d:Int,0<=d->d<(W.IF.length:Int)->Dn W d):Je W/\z27 W:=by
 have tm:∀k c:Int,Q6 W.IE k=true->0<=c->c<(W.IF.length:Int)->ZU (Qb W k c).floor=true/\ZU (Qb W k c).v=true:=λk c hu c0 c1=>by
  have:=sw.s k c hu c0 c1;exact⟨Ys.2 Qo,Ys.2 Qo⟩
 have tv:∀t:Int,0<=t->t<12->ZU (Q9 W t).v=true:=λt t0 t1=>by
  have:=sw.tv t t0 t1;exact Ys.2 Qo
 refine⟨⟨p.a,λt t0 t1=>?_,λk c k0 k1 c0 c1=>?_,λc c0 c1=>?_⟩,λk c hu c0 c1 hB=>(dn c c0 c1).fl k hu hB⟩
 ·rcases p.t t t0 t1 with hz | ⟨n,hx⟩
  ·exact .inl hz
  ·obtain⟨d0,d1⟩:=p.l t t0 t1 n;exact .inr ⟨n,hx.st,hx.g,hx.n,hx.m,hx.m0,tv t t0 t1,hx.s,hx.u,hx.l1,hx.l2,hl t t0 t1 n,λh1=>(FZ (tv t t0 t1) (tm _ _ hx.g d0 d1).1).2 (hx.f h1)⟩
 ·have cP:=p.a.gl
  have hu:Q6 W.IE k=true:=by
   cases hb:(gi W.IE k).used with
   | true=>exact Q5.2 ⟨k0,Qo,hb⟩
   | false=>
    have:=((p.a.grp k k0 k1).1 hb).l;omega
  have hsl:=p.a.sl hu;have c1:c<(W.IF.length:Int):=Qo;have hs:=p.s k c hu c0 c1;have ht:=tm k c hu c0 c1;have hw:=sw.s k c hu c0 c1;exact⟨ht.1,ht.2,hs.s,hw.2.2.2.2.1,hw.2.2.2.2.2,hs.root,λhz=>(dn c c0 c1).on k hu hz,λhz ho=>(FZ ht.2 (tm _ c (p.a.up hu hz) c0 c1).1).2 (hs.st hz ho)⟩
 ·have hc:=p.c c c0 c1;have fH:=p.a.t;refine⟨hc.b,hc.i,hc.c1,by have:=hc.c2; omega,hc.no,λh0=>?_⟩;obtain⟨y1,y2,y3⟩:=hc.yes h0;obtain⟨z1,z2⟩:=(dn c c0 c1).cu h0
  have hs:(Q9 W (gi W.IF c).cur).state=1:=by
   unfold ZL at z2;rw[A'] at z2;exact Iz z2.1
  obtain⟨q1,q2⟩:=hc.q h0 hs z1;refine⟨y1,y2,y3,z1,z2,?_⟩;unfold Mt TZ;rw[A',List.all_eq_true];exact⟨Ii q1,λx hx=>Ii (q2 x hx).2⟩
theorem X4{α β:Type}[Inhabited α]{f:α->β}(l:List α)(k:Int){x:α}(h:f x=f (gi l k))(i:Int):f (gi (l.set k.toNat x) i)=f (gi l i):=by
 unfold gi at *;simp only[List.getD_eq_getElem?_getD,List.getElem?_set] at *
 by_cases e:k.toNat=i.toNat
 ·rw[E' e];split
  ·rw[<-e]; simpa using h
  ·rename_i hl;have:l[i.toNat]? = none:=List.getElem?_eq_none_iff.2 Qo;rw[this]
 ·rw[C' e]
structure TM (W W':Q7):Prop where
 g:Z1 W.IE W'.IE
 m:∀i:Int,(gi W'.IE i).IF=(gi W.IE i).IF
 w:∀i:Int,(gi W'.IE i).weight=(gi W.IE i).weight
 len:W'.IF.length=W.IF.length
 u:∀i:Int,(gi W'.IF i).up=(gi W.IF i).up
theorem TM.refl(W:Q7):TM W W:=⟨Z1.refl _,λ_=>rfl,λ_=>rfl,rfl,λ_=>rfl⟩
theorem TM.trans{A B C:Q7}(h:TM A B)(k:TM B C):TM A C:=⟨h.g.trans k.g,λi=>(k.m i).trans (h.m i),λi=>(k.w i).trans (h.w i),k.len.trans h.len,λi=>(k.u i).trans (h.u i)⟩
theorem zpg{W:Q7}{g:Int}{x:ZV}(u:x.used=(gi W.IE g).used)(p:x.parent=(gi W.IE g).parent)(n:x.name=(gi W.IE g).name)(m:x.IF=(gi W.IE g).IF)(w:x.weight=(gi W.IE g).weight):TM W (Rf W g x):=
 ⟨⟨H',λi=>X4 (f:=ZV.used) _ _ u i,λi=>X4 (f:=ZV.parent) _ _ p i,λi=>X4 (f:=ZV.name) _ _ n i⟩,λi=>X4 (f:=ZV.IF) _ _ m i,λi=>X4 (f:=ZV.weight) _ _ w i,rfl,λ_=>rfl⟩
theorem zd3(W:Q7)(g c:Int)(s:KN):TM W (Rx W g c s):=zpg rfl rfl rfl rfl rfl
theorem zpf(W:Q7)(g:Int)(b:JB):TM W (RP W g b):=zpg rfl rfl rfl rfl rfl
theorem zpi(W:Q7)(t:Int)(x:Kf):TM W (IV W t x):=⟨Z1.refl _,λ_=>rfl,λ_=>rfl,rfl,λ_=>rfl⟩
theorem zkt{W:Q7}{c:Int}{x:MB}(u:x.up=(gi W.IF c).up):TM W (S8 W c x):=⟨Z1.refl _,λ_=>rfl,λ_=>rfl,H',λi=>X4 (f:=MB.up) _ _ u i⟩
theorem Hl(W:Q7)(c:Int):TM W (Ry W c):=zkt rfl
theorem NF(W:Q7)(c d:Int):∀k:Nat,TM W (Zi W c d k)
 | 0=>TM.refl _
 | k+1=>by
  simp only[Zi];split
  ·exact(NF W c d k).trans (zd3 _ _ _ _)
  ·exact NF W c d k
theorem Eh(W:Q7)(c:Int):∀j:Nat,TM W (Yy W c j)
 | 0=>TM.refl _
 | j+1=>(Eh W c j).trans (NF _ _ _ _)
theorem zd2(W:Q7):∀c:Nat,TM W (Y2 W c)
 | 0=>TM.refl _
 | c+1=>(zd2 W c).trans (Eh (Y2 W c) (c:Int) 3)
theorem ND(W:Q7)(k:Int):∀c:Nat,TM W (ZZ W k c)
 | 0=>TM.refl _
 | c+1=>by
  simp only[ZZ];split
  ·exact(ND W k c).trans (zpf _ _ _)
  ·exact ND W k c
theorem NE(W:Q7):∀k:Nat,TM W (Yi W k)
 | 0=>TM.refl _
 | k+1=>by
  simp only[Yi];split
  ·exact(NE W k).trans (ND _ _ _)
  ·exact NE W k
theorem Eg(W:Q7)(c:Int):∀k:Nat,TM W (QQ W c k)
 | 0=>TM.refl _
 | k+1=>by
  simp only[QQ];split
  ·exact(Eg W c k).trans (zd3 _ _ _ _)
  ·exact Eg W c k
theorem ztf(W:Q7)(c:Int):TM W (Ul W c):=by
 have h:=(Eh W c 3).trans (Eg (QL W c) c 8);unfold Ul;split
 ·exact h.trans (Hl _ _)
 ·exact h
theorem zia(W:Q7):∀c:Nat,TM W (XC W c)
 | 0=>TM.refl _
 | c+1=>(zia W c).trans (ztf (XC W c) (c:Int))
theorem zph(W:Q7):TM W (Qg W):=((zd2 W W.IF.length).trans (NE (Y2 W W.IF.length) 8)).trans (zia (Ll (Y2 W W.IF.length)) W.IF.length)
theorem TM.ups{W W':Q7}(h:TM W W'):JZ W'.IF=JZ W.IF:=zkx h.len λj _=>h.u j
theorem TM.pin{W W':Q7}(h:TM W W')(g u:Int):T9 W'.IE g u=T9 W.IE g u:=by
 unfold T9;rw[show Zc W'.IE g=Zc W.IE g from h.g.path 3 g]
 congr 1
 funext s x
 rw[h.m]
theorem TM.wh{W W':Q7}(h:TM W W')(g m:Int):Qy W' g m=Qy W g m:=by
 unfold Qy;rw[h.ups,h.pin]
theorem TM.loc{W W':Q7}(h:TM W W')(ht:W'.tasks=W.tasks)(hl:zah W):zah W':=λt t0 t1 n=>by
 rw[Jy ht] at n ⊢;rw[h.wh];exact hl t t0 t1 n
theorem zd0{K:Int}{W:Q7}(sw:SW K W)(hK:0<=K)(iL:K+Vj<=100000000000000000)(p:TI W)(hl:zah W):Je (Qg W)/\z27 (Qg W):=by
 obtain⟨p1,hf,dn⟩:=ztb sw p hK;exact z1z (UI sw hK).1 iL p1 ((zph W).loc hf.t hl) λd d0 d1=>dn d d0 (by rw[<-hf.c]; exact d1)
theorem zns.Bx1{W W':Q7}{k c:Int}(h:zns W k c)(e:Qb W' k c=Qb W k c)(ep:k≠0->(Qb W' (gi W'.IE k).parent c).floor=(Qb W (gi W.IE k).parent c).floor):zns W' k c:=
 ⟨by rw[e]; exact h.s,by rw[e]; exact h.root,λhz ho=>by
  rw[e] at ho;have:=h.st hz ho;unfold VY at this ⊢;rw[e,ep hz]; exact this⟩
theorem TI.IV{W:Q7}(p:TI W){t:Int}(t0:0<=t)(t1:t<12){x:Kf}(hx:x.state=0/\x=O0\/x.state≠0/\Er W x/\0<=x.R3/\x.R3<(W.IF.length:Int))(hc:∀c:Int,0<=c->c<(W.IF.length:Int)->(gi W.IF c).cur=t->x.state=1->x.R3=c->x.v-(Qb W x.group c).floor<=Zf (gi W.IF c).aC (Qf x.nice)/\∀y∈Zc W.IE x.group,VY W y c/\(Qb W y c).v-(Qb W (gi W.IE y).parent c).floor<=Zf (gi W.IF c).aC (Qb W y c).w):TI (IV W t x):=by
 have hl:=p.a.t;have e:∀i:Int,0<=i->Q9 (YtnclplgaicdapaaGreatDoor.IV W t x) i=if t=i then x else Q9 W i:=λi i0=>QG _ _ t0 Qo i0
 refine⟨⟨p.a.tk H',λi a b=>?_,λi a b n=>?_,λk c hu c0 c1=>?_⟩,λc c0 c1=>?_⟩
 ·rw[e i a];split
  ·rcases hx with h | ⟨h1,h2,_⟩
   ·exact .inl h
   ·exact .inr ⟨h1,h2.st,h2.g,h2.n,h2.m,h2.m0,h2.s,h2.u,h2.l1,h2.l2,h2.f⟩
  ·rcases p.t i a b with h | ⟨h1,h2⟩
   ·exact .inl h
   ·exact .inr ⟨h1,h2.st,h2.g,h2.n,h2.m,h2.m0,h2.s,h2.u,h2.l1,h2.l2,h2.f⟩
 ·rw[e i a] at n ⊢;split
  ·rename_i h;rw[E' h] at n;rcases hx with h | ⟨_,_,h2⟩
   ·exact Is h.1 n
   ·exact h2
  ·rename_i h;rw[C' h] at n;exact p.l i a b n
 ·exact(p.s k c hu c0 c1).Bx1 rfl λ_=>rfl
 ·have h:=p.c c c0 c1;refine⟨h.b,h.i,h.c1,h.c2,h.no,h.yes,λh0=>?_⟩;rw[e _ h0];split
  ·rename_i he;exact λh1 h2=>hc c c0 c1 he.symm h1 h2
  ·exact h.q h0
def LE(p:Nat->Bool):Nat->Int
 | 0 => -1
 | k+1=>if (decide (LE p k<0)&&p k)=true then (k:Int) else LE p k
theorem T2(p:Nat->Bool):∀k:Nat,(LE p k = -1/\∀j,j<k->p j=false)\/(0<=LE p k/\LE p k<(k:Int)/\p (LE p k).toNat=true/\∀j:Nat,(j:Int)<LE p k->p j=false)
 | 0=>.inl ⟨rfl,λj hj=>Is hj (Nat.not_lt_zero j)⟩
 | k+1=>by
  simp only[LE];rcases T2 p k with ⟨h1,h2⟩ | ⟨h1,h2,h3,h4⟩
  ·cases hp:p k with
   | true=>
    rw[h1,E' (by rfl)];exact .inr ⟨Qo,Qo,by simpa using hp,λj hj=>h2 j Qo⟩
   | false=>
    rw[C' Qs,h1];refine .inl ⟨rfl,λj hj=>?_⟩
    by_cases e:j=k
    ·rw[e]; exact hp
    ·exact h2 j Qo
  ·rw[C' (by rw[decide_eq_false (by omega:¬LE p k<0)]; simp)];exact .inr ⟨h1,Qo,h3,h4⟩
theorem zjp{p:Nat->Bool}{n:Nat}(h:∀j,j<n->p j=false):LE p n = -1:=by
 rcases T2 p n with ⟨h1,_⟩ | ⟨h1,h2,h3,_⟩
 ·exact h1
 ·rw[h _ Qo] at h3; cases h3
theorem zjo{p:Nat->Bool}{n:Nat}{a:Int}(a0:0<=a)(a1:a<(n:Int))(hp:p a.toNat=true)(hn:∀j:Nat,(j:Int)<a->p j=false):LE p n=a:=by
 rcases T2 p n with ⟨_,h2⟩ | ⟨h1,h2,h3,h4⟩
 ·rw[h2 _ Qo] at hp; cases hp
 ·by_cases l:LE p n<a
  ·rw[hn _ Qo] at h3; cases h3
  ·by_cases g:a<LE p n
   ·rw[h4 _ Qo] at hp; cases hp
   ·omega
def Xy(W:Q7)(j:Nat):Bool:=(Q9 W (j:Int)).state==0
def QR(W:Q7):Int:=LE (Xy W) 12
noncomputable def Zz(W:Q7)(g n x:Int):Int:=if Qf n=0\/OH x=false\/x=0 then 1 else if Q6 W.IE g=false then 2 else if QR W<0 then 3 else if QM W=false then 10 else 0
def PD(W:Q7)(g x:Int):Int:=Pr W (Qy W g x)
def UC(W:Q7)(g n x:Int):Kf:=⟨1,g,PD W g x,n,x,(Qb W g (PD W g x)).floor,0,0,0⟩
def ZY(W:Q7)(g n x:Int):Q7:=Qg (Ry (IV W (QR W) (UC W g n x)) (PD W g x))
noncomputable def Xh(W:Q7)(bar:Int)(W':Q7)(a:Int):Q7×Int×Int:=if Qw W=false then (MO,-1,1) else if bar≠0 then (W,-1,bar) else (W',a,0)
def TJ(r:Q7×Int×Int)(w:Wo)(v:Va)(w':Wo):Prop:=∃n m',v=.tuple #[.agg (Qa r.1 m').toArray,.int .i64 r.2.1,.int .i64 r.2.2]/\Zj n w.heap.size w' r.1 m'/\Q0 [] w w'
structure z2a (W:Q7) (g n x:Int):Prop where
 w:Qf n≠0
 m:OH x=true
 m0:x≠0
 u:Q6 W.IE g=true
 f0:0<=QR W
 f1:QR W<12
 f2:(Q9 W (QR W)).state=0
 r:QM W=true
 sw:SW Ql W
 c0:0<=PD W g x
 c1:PD W g x<(W.IF.length:Int)
 ch:Z7 (Qy W g x) (PD W g x)=true
 sw2:SW Ql (IV W (QR W) (UC W g n x))
theorem L1{W:Q7}{g n x:Int}(hW:Qw W=true)(hb:Zz W g n x=0):z2a W g n x:=by
 have wp:=Qh.1 hW;unfold Zz at hb
 split at hb
 ·cases hb
 ·rename_i h1
  split at hb
  ·cases hb
  ·rename_i h2
   split at hb
   ·cases hb
   ·rename_i h3
    split at hb
    ·cases hb
    ·rename_i h4;have h4:QM W=true:=by simpa using h4
     have h2:Q6 W.IE g=true:=by simpa using h2
     have sw:=PH wp (Qh.1 h4)
     have hf:0<=QR W/\QR W<12/\Xy W (QR W).toNat=true:=by
      rcases T2 (Xy W) 12 with ⟨a,_⟩ | ⟨a,b,c,_⟩
      ·unfold QR at h3; omega
      ·exact⟨a,b,c⟩
     obtain⟨c0,c1,ch⟩:=Hh wp.a g x;have hs:=sw.s g _ h2 c0 c1;have e:(((QR W).toNat:Nat):Int)=QR W:=Qo;refine⟨λh=>h1 (.inl h),?_,λh=>h1 (.inr (.inr h)),h2,hf.1,hf.2.1,?_,h4,sw,c0,c1,ch,sw.IV hf.1 hf.2.1 (x:=UC W g n x) (λ_=>⟨h2,c0,c1⟩) hs.1 hs.2.1⟩
     ·cases hm:OH x with
      | true=>rfl
      | false=>exact Is (.inr (.inl hm)) h1
     ·have:=hf.2.2;unfold Xy at this;rw[e] at this;exact Iz this
section
variable {W W':Q7}{m:MW}{w:Wo}{bar a:Int}
theorem TJ.bad{w':Wo}(hW:Qw W=false)(hx:Q0 [] w w'):TJ (Xh W bar W' a) w (.tuple #[.agg (Qa MO zxf).toArray,.int .i64 (-1),.int .i64 1]) w':=by
 rw[show Xh W bar W' a=(MO,-1,1) from E' hW];exact⟨0,zxf,rfl,Zj.zero _ _,hx⟩
theorem TJ.no{n:Nat}{bs:List Nat}{w':Wo}{m':MW}(hW:Qw W=true)(hb:bar≠0)(hk:Wk n bs w w' W m'){c:Int}(hc:bar=c):TJ (Xh W bar W' a) w (.tuple #[.agg (Qa W m').toArray,.int .i64 (-1),.int .i64 c]) w':=by
 rw[show Xh W bar W' a=(W,-1,c) by unfold Xh; rw[C' (by rw[hW]; decide),E' hb,hc]];exact⟨n,m',rfl,hk.fin⟩
theorem TJ.ok{n:Nat}{bs:List Nat}{w':Wo}{m':MW}(hW:Qw W=true)(hb:bar=0)(hk:Wk n bs w w' W' m'):TJ (Xh W bar W' a) w (.tuple #[.agg (Qa W' m').toArray,.int .i64 a,.int .i64 0]) w':=by
 rw[show Xh W bar W' a=(W',a,0) by unfold Xh; rw[C' (by rw[hW]; decide),C' (by simpa using hb)]];exact⟨n,m',rfl,hk.fin⟩
theorem Po{g n x:Int}(h:Xg [] w W m)(hl:XM W) :
  Cz YM #[.agg (Qa W m).toArray,.int .i64 g,.int .i64 n,.int .i64 x] w λe w'=>∃v,e=.returned v/\TJ (Xh W (Zz W g n x) (ZY W g n x) (QR W)) w v w':=by
 refine AS W.now m.cO W.IF.length m.cC m.tO W.tasks.length m.tC m.gO W.IE.length m.gC g n x (R:=λv w'=>TJ (Xh W (Zz W g n x) (ZY W g n x) (QR W)) w v w') ?_;intro y hy y1 dG wr R2 We;refine I4 (Zh (h.ext R2) hl) ?_;rintro e wv (⟨hW,he,SE⟩ | ⟨hW,m',he,hM,SE⟩)
 ·exact⟨_,_,_,_,_,_,_,_,_,_,_,he,Qe SE We,λ_ M' Rb=>TJ.bad hW ((R2.trans SE).fresh Rb λz hm=>.inl (YW hy dG z hm)),λg=>by simp at g⟩
 have hK:=Wk.begin hy dG R2 We hM SE;have hr:=hK.rd;have wp:=Qh.1 hW;have fH:=wp.a.t;refine⟨_,_,_,_,_,_,_,_,_,_,_,he,Qe SE We,λg=>by split at g <;> simp at g,λ_=>⟨_,ZX,_,λ_=>Xr,λg1 O' Rb=>?_,λg1=>⟨_,Xs hr.g,λg2 Rq Rb=>?_,λg2=>⟨⟨Qo,Qo⟩,?_⟩⟩⟩⟩
 ·have hb:Zz W g n x=1:=by
   unfold Zz;rw[E'];simp only[Iv,It,ID] at g1;rcases g1 with (g1 | g1) | g1
   ·exact .inl g1
   ·exact .inr (.inl g1)
   ·exact .inr (.inr g1)
  exact TJ.no hW (by rw[hb]; decide) (hK.step Rb) hb
 ·have n1:¬(Qf n=0\/OH x=false\/x=0):=by
   simp only[I0,beq_eq_false_iff_ne,I7,ne_eq] at g1;rintro (h | h | h)
   ·exact g1.1.1 h
   ·rw[g1.1.2] at h; cases h
   ·exact g1.2 h
  have hb:Zz W g n x=2:=by unfold Zz; rw[C' n1,E' (by simpa using g2)]
  exact TJ.no hW (by rw[hb]; decide) (hK.step Rb) hb
 have n1:¬(Qf n=0\/OH x=false\/x=0):=by
  simp only[I0,beq_eq_false_iff_ne,I7,ne_eq] at g1;rintro (h | h | h)
  ·exact g1.1.1 h
  ·rw[g1.1.2] at h; cases h
  ·exact g1.2 h
 have hu:Q6 W.IE g=true:=by simpa using g2
 have n2:¬Q6 W.IE g=false:=by rw[hu]; decide
 refine⟨λvs w1=>∃a t:Int,vs=[.int .i64 a,.int .i64 t]/\-1<=t/\t<12/\(a = -1/\(∀j:Nat,t<(j:Int)->j<12->Xy W j=false)\/t<a/\a<12/\Xy W a.toNat=true/\∀j:Nat,t<(j:Int)->(j:Int)<a->Xy W j=false)/\Q0 [y,y1] wv w1,
  λvs _=>(ZQ 1 vs+1).toNat,λw1 wB _=>⟨-1,_,rfl,Qo,Qo,.inl ⟨rfl,λj h1 h2=>by omega⟩,wB⟩,?_⟩
 rintro av tv R7 iB ⟨a,t,aT,ht0,ht1,uZ,hxw⟩;simp only[I5,I6,true_and,and_true] at aT;obtain⟨rfl,rfl⟩:=aT;have hK1:=hK.step hxw;have wX:=hK1.rd;refine⟨λIU=>?_,λRN=>?_⟩
 ·have IU:=Ot IU;have e:((tv.toNat:Nat):Int)=tv:=Qo;have mS:Xy W tv.toNat=((Q9 W tv).state==0):=by unfold Xy; rw[e]
  refine⟨wX.t.ix QF IU Qo,_,wX.t.f IU Qo (j:=0) rfl,λg3=>⟨⟨Qo,Qo⟩,λRQ Sy _=>⟨⟨tv,tv-1,rfl,Qo,Qo,.inr ⟨Qo,ht1,by rw[mS]; exact g3,λj h1 h2=>by omega⟩,hxw.trans Sy⟩,?_⟩⟩,λg3=>⟨⟨Qo,Qo⟩,λSi aS _=>⟨⟨av,tv-1,rfl,Qo,Qo,?_,hxw.trans aS⟩,?_⟩⟩⟩
  ·simp only[ZQ,Ig,List.getElem?_cons_succ]; omega
  ·have g3:Xy W tv.toNat=false:=by rw[mS]; exact g3
   have one:∀j:Nat,tv-1<(j:Int)->¬tv<(j:Int)->Xy W j=false:=λj h1 h2=>by
    have:j=tv.toNat:=Qo;rw[this]; exact g3
   rcases uZ with ⟨h1,h2⟩ | ⟨h1,h2,h3,h4⟩
   ·exact .inl ⟨h1,λj j1 j2=>if h:tv<(j:Int) then h2 j h j2 else one j j1 h⟩
   ·exact .inr ⟨Qo,h2,h3,λj j1 j2=>if h:tv<(j:Int) then h4 j h j2 else one j j1 h⟩
  ·simp only[ZQ,Ig,List.getElem?_cons_succ]; omega
 ·have RN:=Ou RN;have ht:tv = -1:=Qo;subst ht
  have vB:av=QR W:=by
   rcases uZ with ⟨h1,h2⟩ | ⟨h1,h2,h3,h4⟩
   ·rw[h1]; exact(zjp λj hj=>h2 j Qo hj).symm
   ·exact(zjo Qo h2 h3 λj hj=>h4 j Qo hj).symm
  subst vB;refine⟨λg4 Sz kR=>?_,λg4=>⟨λg5 W5 oH=>?_,λg5=>?_⟩⟩
  ·have g4:=Ot g4;have hb:Zz W g n x=3:=by unfold Zz; rw[C' n1,C' n2,E' g4]
   exact TJ.no hW (by rw[hb]; decide) (hK1.step kR) hb
  ·have g4:=Ou g4;have cD:¬QM W=true:=λhr=>by rw[E' hr] at g5; simp at g5
   have hb:Zz W g n x=10:=by unfold Zz; rw[C' n1,C' n2,C' g4,E' (by simpa using cD)]
   rw[C' cD];exact TJ.no hW (by rw[hb]; decide) (hK1.step oH) hb
  have g4:=Ou g4;have cD:QM W=true:=Ir λhr=>by rw[C' hr] at g5; simp at g5
  have hb:Zz W g n x=0:=by unfold Zz; rw[C' n1,C' n2,C' g4,C' (by rw[cD]; decide)]
  have hf:=L1 hW hb;obtain⟨u0,u1,_⟩:=Q5.1 hu;have hsl:=wp.a.sl hu;have c0:=hf.c0;have c1:=hf.c1;have f0:=hf.f0;have f1:=hf.f1;have SI:Wk 8 [y,y1] w (R9 R7 m'.tO (Int.toNat (QR W)*9) (YK (UC W g n x))) (IV W (QR W) (UC W g n x)) m':=hK1.R9 (hK1.own.xS f0 (by rw[fH]; exact f1) (j:=0) (vs:=YK (UC W g n x)) (x:=UC W g n x) (by simp[YK]) (by simp[YK])) LR;refine⟨_,Jr wX wp.a.c2 wp.a.tree hu,_,Lq wX wp.a (zop wp),wX.g.ix u0 u1,_,_,_,wX.g.RF u0 u1,(wX.g.IG g u0 u1).ix Y7 c0 (by rw[hsl]; exact c1),(Qb W g (PD W g x)).floor,zno.f (wX.g.IG g u0 u1) c0 (by rw[hsl]; exact c1) (j:=0) rfl,wX.t.ix QF f0 (by rw[fH]; exact f1),zik hK1.own hK1.nb f0 (by rw[fH]; exact f1) (j:=0) (k:=9) Qd,λWO lQ hs9=>?_⟩;have e5:Qa (IV W (QR W) (UC W g n x)) m'=Qa W m':=H7 _ _ _ _;have fE:=SI.step lQ;have aW:=ZF fE.own c0 (show PD W g x<((IV W (QR W) (UC W g n x)).IF.length:Int) from c1);rw[e5] at aW;refine I4 aW ?_;rintro e2 Rr ⟨aT,kJ⟩;refine⟨_,_,_,_,_,_,_,_,_,_,aT,fE.kept kJ hs9,λS6 AF8 pD=>?_⟩;have hK7:=(fE.SH kJ hs9).step AF8;have uY:=Qx hK7.own (hf.sw2.Ry c0 c1) Qd Qd hK7.base;refine I4 uY ?_;rintro e3 S3 ⟨m2,gP,hy5⟩;exact⟨_,_,_,_,_,_,_,_,_,_,gP,hK7.kept hy5 pD,λW5 oH=>TJ.ok hW hb ((hK7.SH hy5 pD).step oH)⟩
theorem z1b{p:OA}(h:My [] w p W m)(fH:W.tasks.length=12) :
  Cz ZJ #[.slice m.tO W.tasks.length m.tC,.func (.func X0) #[] #[]] w λe w'=>e=.returned (.int .i64 (QR W))/\Q0 [] w w':=by
 refine(Uu m.tO W.tasks.length m.tC (.func X0) #[] #[] (R:=λv w'=>v=.int .i64 (QR W)/\Q0 [] w w') ?_).mono λe w' ⟨v,he,hv,h3⟩=>⟨by rw[he,hv],h3⟩
 refine XN 12 0 rfl (λk w1=>k<=12/\(∀j:Nat,j<k->Xy W j=false)/\Q0 [] w w1) (λwr hx _=>⟨Ie _,λj hj=>Is hj (Nat.not_lt_zero j),hx⟩) λk w1 _ ⟨hk,jH,hxw⟩=>?_
 refine⟨λIU=>?_,λRN Rw SZ=>⟨?_,hxw.trans SZ⟩⟩
 ·have IU:=Ot IU;have hp:=h.ext hxw;refine⟨hp.rd.t.ix QF Qo IU,_,_,_,_,_,_,_,_,_,hp.rd.t (k:Int) Qo IU,λM' RZ _=>.inl ⟨X0,_,rfl,?_⟩⟩;refine((HQ _ _ _ _ _ _ _ _ _ λ_ _=>λ_ _=>rfl) M' (Q0.refl [] _)).mono λe w2 ⟨he,R2⟩=>⟨_,he,Y6,λg O' Rb=>⟨?_,((hxw.trans RZ).trans R2).trans Rb⟩,λg=>⟨⟨Qo,Qo⟩,λRq Rb _=>Qt Qo ⟨Qo,λj hj=>?_,((hxw.trans RZ).trans R2).trans Rb⟩⟩⟩
  ·have g:Xy W k=true:=g;rw[show QR W=(k:Int) from zjo Qo Qo (by simpa using g) λj hj=>jH j Qo]
  ·by_cases e:j=k
   ·rw[e]; exact g
   ·exact jH j Qo
 ·have RN:=Ou RN;have:k=12:=Qo;subst this;rw[show QR W = -1 from zjp jH]
theorem zke(n:Int):YQ n (-10) 9=true↔Qf n≠0:=by
 unfold Qf;split
 ·rename_i h;have:=Qu.1 h;exact⟨λ_=>by omega,λ_=>h⟩
 ·rename_i h;exact⟨λh'=>Is h' h,λh'=>Is rfl h'⟩
end
section
variable {base pb:Nat}{W W':Q7}{m:MW}{w:Wo}
theorem zjy{b5:Nat}{cap BS1 BE2:OA}{t5:TypeId}{g n x:Int}(h:PW base pb w W m)(hW:Qw W=true)(h0:Q1 [] w cap 0 [.int .i64 n])(h1:Q1 [] w BS1 0 [.int .i64 x])(h2:Q1 [] w BE2 0 [.int .i64 g])(h5:w.heap[b5]? = some (.cells ([.int .i64 (-1)]:List Va).toArray t5 (0,0)))(hb5:b5<base)(hpb:base<=pb) :
  Cz JJ #[.pointer (pA pb),.pointer cap,.pointer BS1,.pointer BE2,.pointer (some ⟨b5,0,none⟩)] w λe w2=>(Zz W g n x≠0/\e=.returned (.iface Z3 (.agg #[.int .i64 (Zz W g n x)]))/\Q0 [] w w2)\/(Zz W g n x=0/\e=.returned .nilIface/\(∃t,w2.heap[b5]? = some (.cells ([.int .i64 (QR W)]:List Va).toArray t (0,0)))/\∃m2,Bh base pb [b5] w m w2 (ZY W g n x) m2):=by
 have wp:=Qh.1 hW;have hM:=Mp.start h;have hp:=hM.wpt;have fH:=wp.a.t;have hm9:=Zl
 refine(EZ (pA pb) cap BS1 BE2 (some ⟨b5,0,none⟩) (R:=λv w2=>(Zz W g n x≠0/\v=.iface Z3 (.agg #[.int .i64 (Zz W g n x)])/\Q0 [] w w2)\/(Zz W g n x=0/\v=.nilIface/\(∃t,w2.heap[b5]? = some (.cells ([.int .i64 (QR W)]:List Va).toArray t (0,0)))/\∃m2,Bh base pb [b5] w m w2 (ZY W g n x) m2)) ?_).mono λe w' ⟨v,he,h3⟩=>by
  rw[he];rcases h3 with ⟨a,b,c⟩ | ⟨a,b,c⟩
  ·exact .inl ⟨a,by rw[b],c⟩
  ·exact .inr ⟨a,by rw[b],c⟩
 refine⟨n,h0,_,K6,x,λ_=>h1,_,λ_=>zsp,λg1 wr hx=>.inl ?_,λg1=>⟨hp.some,_,_,_,hp.IE,g,h2,_,On hp.rd.g (by have:=wp.a.gl; omega),λg2 wr hx=>.inl ?_,λg2=>?_⟩⟩
 ·have hb:Zz W g n x=1:=by
   unfold Zz;rw[E']
   by_cases hn:Qf n=0
   ·exact .inl hn
   ·rw[(zke n).2 hn] at g1;refine .inr ?_
    cases hm:OH x with
    | false=>exact .inl rfl
    | true=>rw[hm] at g1; exact .inr (by simpa using g1)
  rw[hb];exact⟨Qd,rfl,hx⟩
 ·have n1:¬(Qf n=0\/OH x=false\/x=0):=by
   simp only[I0,I7,A',Iu,ne_eq] at g1;rintro (h | h | h)
   ·exact(zke n).1 g1.1 h
   ·rw[g1.2.1] at h; cases h
   ·exact g1.2.2 h
  have hb:Zz W g n x=2:=by unfold Zz; rw[C' n1,E' (by simpa using g2)]
  rw[hb];exact⟨Qd,rfl,hx⟩
 have n1:¬(Qf n=0\/OH x=false\/x=0):=by
  simp only[I0,I7,A',Iu,ne_eq] at g1;rintro (h | h | h)
  ·exact(zke n).1 g1.1 h
  ·rw[g1.2.1] at h; cases h
  ·exact g1.2.2 h
 have hu:Q6 W.IE g=true:=by simpa using g2
 have n2:¬Q6 W.IE g=false:=by rw[hu]; decide
 refine⟨hp.some,_,_,_,hp.tasks,λO' R2 _=>?_⟩;have aB:=hM.nil R2;refine I4 (z1b aB.wpt fH) ?_;rintro e wv ⟨he,hy⟩;have hX:=R2.trans hy;have kQ:=aB.nil hy;have hp3:=kQ.wpt;refine⟨_,he,Y6,λg4 Rq Rb=>.inl ?_,λg4=>⟨_,Fi hp3 wp.a,λg5 Rw SZ=>.inl ?_,λg5=>?_⟩⟩
 ·have g4:=Ot g4;have hb:Zz W g n x=3:=by unfold Zz; rw[C' n1,C' n2,E' g4]
  rw[hb];exact⟨Qd,rfl,hX.trans Rb⟩
 ·have g4:=Ou g4;have g5:QM W=false:=by simpa using g5
  have hb:Zz W g n x=10:=by unfold Zz; rw[C' n1,C' n2,C' g4,E' g5]
  rw[hb];exact⟨Qd,rfl,hX.trans SZ⟩
 have g4:=Ou g4;have g5:QM W=true:=by simpa using g5
 have hb:Zz W g n x=0:=by unfold Zz; rw[C' n1,C' n2,C' g4,C' (by rw[g5]; decide)]
 have hf:=L1 hW hb;obtain⟨u0,u1,_⟩:=Q5.1 hu;have hsl:=wp.a.sl hu;have c0:=hf.c0;have c1:=hf.c1;have f0:=hf.f0;have f1:=hf.f1;have hwo:=KM wp.a g x;refine⟨x,h1.ext hX,g,h2.ext hX,_,Ko hp3 wp.a.c2 wp.a.tree hu,λRQ Sy _=>?_⟩;have hM5:=kQ.nil Sy;refine I4 (zcg hM5.wpt wp.a (zop wp) (λc hcx=>KV wp.a hcx) hwo.1 hwo.2) ?_;rintro e1 Rr ⟨jG,dG⟩;have hX2:=(hX.trans Sy).trans dG;have hM6:=hM5.nil dG;have hp6:=hM6.wpt;refine⟨_,jG,Y6,_,_,JD,λb hbb=>⟨hp6.some,_,_,_,hp6.tasks,g,h2.ext hX2,n,h0.ext hX2,x,h1.ext hX2,g,h2.ext hX2,_,Zw hp6 u0 u1 c0 (by rw[hsl]; exact c1),?_⟩⟩;have hsh:=hp6.rd.g.IG g u0 u1;have hcs:=hsh (PD W g x) c0 (by rw[hsl]; exact c1);have Cb1:Mp base pb [b] w m Rr W m:=hM6.add hbb;have SI:Mp base pb [b] w m (R9 Rr m.tO (Int.toNat (QR W)*9) (YK (UC W g n x))) (IV W (QR W) (UC W g n x)) m:=Cb1.SH (Cb1.own.xS f0 (by rw[fH]; exact f1) (j:=0) (vs:=YK (UC W g n x)) (x:=UC W g n x) (by simp[YK]) (by simp[YK])) LR (H7 _ _ _ _);refine⟨KG hcs,(Qb W g (PD W g x)).floor,G3 hcs (j:=0) rfl,hp6.rd.t.ix QF f0 (by rw[fH]; exact f1),zik hM6.own hM6.nb f0 (by rw[fH]; exact f1) (j:=0) (k:=9) Qd,λSi aS hs6=>?_⟩;have uV:Mp base pb [b] w m Si (IV W (QR W) (UC W g n x)) m:=SI.R5 aS;refine I4 (Om uV.pw c0 (show PD W g x<((IV W (QR W) (UC W g n x)).IF.length:Int) from c1)) ?_;rintro e2 S3 ⟨aT,SE⟩;refine⟨aT,uV.kept SE hs6,λSz kR hs7=>?_⟩;have hM8:=(uV.call SE hs6).step kR;refine I4 (D9 hM8.pw (hf.sw2.Ry c0 c1) Qd Qd) ?_;rintro e3 aF ⟨gP,jL⟩;have hM9:=hM8.call jL hs7
 have h5':=zp2 h hb5 hpb h5 hM9.close
 have Cc6:b5≠b:=λe=>by
  have:=YY h5;have:=hX2.size;omega
 have hn5:b5∉QB 8 m:=λhm=>by
  have:=(h.own.lt b5 hm).1;omega
 refine⟨gP,hM8.kept jL hs7,V0 (k0:=0) h5' (by simpa using Cc6) Qs,λW5 oH=>.inr ⟨hb,rfl,?_⟩⟩;have mS:Q0 [b5] aF (R9 aF (some ⟨b5,0,none⟩) 0 [.int .i64 (QR W)]):=Xp (bs:=[b5]) Qs;have Wd:=Qq (UX (k:=0) (n:=0) (vs:=[.int .i64 (QR W)]) h5') oH (by simpa using Cc6);refine⟨⟨_,Wd⟩,m,?_⟩;have hD:=hM9.close;have B02:Zj 8 base W5 (ZY W g n x) m:=(hD.own.ext mS λy hy hm=>hn5 ((by simpa using hm:y=b5)▸hy)).ext oH hM9.nb;refine⟨B02,Qq (Qq hD.pt mS (by simp; omega)) oH hM9.pb,?_,λy hy=>.inl hy⟩;refine((hD.v.ext.mono (cs:=[b5]++(pb::QB 8 m)) λy hy=>by simp[hy]).trans (mS.mono λy hy=>by simp at hy; simp[hy])).fresh oH λy hy=>.inl ?_
 have:y=b:=by simpa using hy
 rw[this];exact IB hX2.size hbb
theorem Xg.new{w1:Wo}{bs:List Nat}(h:Xg [] w W m)(hb:∀y∈bs,w.heap.size<=y){wb:Wo}(hx:Q0 [] w wb)(RZ:Q0 bs wb w1):Xg [] w1 W m:=
 (((h.wide (cs:=bs) λy hy=>.inr (hb y hy)).ext hx.of_nil).ext RZ).less Qs
theorem Ln{g n x:Int}(h:Xg [] w W m)(hl:XM W)(hg:Tc w) :
  Cz UO #[.agg (Qa W m).toArray,.int .i64 g,.int .i64 n,.int .i64 x] w λe w'=>∃v,e=.returned v/\TJ (Xh W (Zz W g n x) (ZY W g n x) (QR W)) w v w':=by
 refine AN W.now m.cO W.IF.length m.cC m.tO W.tasks.length m.tC m.gO W.IE.length m.gC g n x (R:=λv w'=>TJ (Xh W (Zz W g n x) (ZY W g n x) (QR W)) w v w') ?_;intro y hy b1 wb RZ gH vY hn1 b2 wH hxb cN hc2 hn2 b3 wb2 CB5 hb3 hc3 hn3 b4 hb4 b5 wb3 CB6 hb5 hc5 hn5;refine⟨V0 (k0:=0) hc5 hn5 Qs,λwr R2 hs=>?_⟩;have hX0:Q0 [] w wH:=RZ.fresh hxb λz hz=>.inl (y9 hz hy)
 have hX1:Q0 [] w wb2:=hX0.fresh CB5 λz hz=>.inl (y9 hz hy)
 have hX2:Q0 [] w wb3:=hX1.fresh CB6 λz hz=>.inl (y9 hz hy)
 have mS:Q0 [b5] wb3 (R9 wb3 (some ⟨b5,0,none⟩) 0 [.int .i64 (-1)]):=Xp (bs:=[b5]) Qs;have C11:w.heap.size<=b5:=IB hX1.size hb5
 have two:∀z∈[y,b4],w.heap.size<=z:=λz hm=>by
  simp only[Ij,List.not_mem_nil,or_false] at hm;rcases hm with rfl | rfl
  ·exact hy
  ·exact IB hX1.size hb4
 have hX:Q0 [] w wr:=(hX2.fresh mS λz hz=>.inl (by
  have:z=b5:=by simpa using hz
  omega)).fresh R2 λz hz=>.inl (two z hz)
 have n15:∀{b:Nat} {o:Obj} {w9:Wo},w9.heap[b]? = some o->w9.heap.size<=b5->b∉[b5]:=λ{b o w9} hb hl hm=>by
  have:b=b5:=by simpa using hm
  have:=YY hb;omega
 have s1:=hxb.size;have s2:=CB5.size
 have n2:b2∉[y,b4]:=λhm=>by
  simp only[Ij,List.not_mem_nil,or_false] at hm;have:=YY hc2;rcases hm with rfl | rfl
  ·exact hn2 Qs
  ·omega
 have n1:b1∉[y,b4]:=λhm=>by
  simp only[Ij,List.not_mem_nil,or_false] at hm;have:=YY vY;rcases hm with rfl | rfl
  ·exact hn1 Qs
  ·omega
 have n3:b3∉[y,b4]:=λhm=>by
  simp only[Ij,List.not_mem_nil,or_false] at hm;have:=YY hc3;rcases hm with rfl | rfl
  ·exact hn3 Qs
  ·omega
 have c1:=Qq (Qq (Qq (Qq (Qq vY hxb hn1) CB5 hn1) CB6 hn1) mS (n15 vY Qo)) R2 n1;have c2:=Qq (Qq (Qq (Qq hc2 CB5 hn2) CB6 hn2) mS (n15 hc2 Qo)) R2 n2;have c3:=Qq (Qq (Qq hc3 CB6 hn3) mS (n15 hc3 hb5)) R2 n3;have c5:=Qq (UX (k:=0) (n:=0) (vs:=[.int .i64 (-1)]) hc5) R2 hn5;have hgw:=hg.ext hX;have Cc7:=YY c5;have C63:∀w1,Q0 [b5] wr w1->Xg [] w1 W m:=λw1 hx=>Xg.new h (bs:=[b5]) (by simpa using C11) hX hx
 have cell:∀{b:Nat} {v:Va} {t:TypeId} {w1:Wo},wr.heap[b]? = some (Obj.cells ([v]:List Va).toArray t (0,0))->Q0 [] wr w1->Q1 [] w1 (some ⟨b,0,none⟩) 0 [v]:=λhb hx=>XP (Qq hb hx Qs) Qs (k0:=0) rfl
 have DX7:=hg.lt
 refine I4 (zcc (bar:=Zz W g n x) (W':=ZY W g n x) [b5] (λw2=>∃t,w2.heap[b5]? = some (.cells ([.int .i64 (QR W)]:List Va).toArray t (0,0)))
  (λa b bs ha hx hb=>ha.imp λ_ h=>Qq h hx λhm=>by have:=hb _ hm; omega) (by simpa using Cc7) (by simp; omega) (h.ext hX) (λz hz w1 hx=>C63 w1 hx) hl hgw
  λw1 pb m1 hW Rb hpb hP=>.inl ⟨JJ,_,rfl,zjy hP hW (cell c2 Rb) (cell c3 Rb) (cell c1 Rb) (Qq c5 Rb Qs) Cc7 hpb⟩) ?_
 rintro e wv ⟨v,he,⟨n',m',hv,hM,SE⟩,Bz0,jH⟩;subst hv
 have Cf1:Q8 [y,b4] wr wv:=λz hz=>SE.block z (hs z hz) λhm=>by
  have:z=b5:=by simpa using hm
  subst this;exact hn5 hz
 refine⟨_,_,_,_,_,_,_,_,_,_,_,he,Cf1,λb6 hb6=>?_⟩
 have hXv:Q0 [] w wv:=hX.fresh SE λz hz=>.inl (by
  have:z=b5:=by simpa using hz
  omega)
 have fin:∀M',Q0 [y,b4] wv M'->Zj n' w.heap.size M' (Xi W (Zz W g n x) (ZY W g n x)).1 m'/\Q0 [] w M':=λM' SZ=>⟨(hM.ext SZ λz hz hm=>by
  have:=(hM.lt z hz).1;have:=hs z hm;omega).mono hX.size,hXv.fresh SZ λz hm=>.inl (two z hm)⟩
 by_cases uZ:Qw W=true/\Zz W g n x=0
 ·obtain⟨hW,hb⟩:=uZ;obtain⟨t9,hd⟩:=Bz0 hW hb;have hc9:Q1 [y,b4] wv (some ⟨b5,0,none⟩) 0 [.int .i64 (QR W)]:=XP hd hn5 (k0:=0) rfl;refine⟨QR W,hc9,hc9,λM' SZ=>?_⟩;obtain⟨f1,f2⟩:=fin M' SZ;rw[zi1 hW hb] at f1 ⊢;rw[show Xh W (Zz W g n x) (ZY W g n x) (QR W)=(ZY W g n x,QR W,0) by unfold Xh; rw[C' (by rw[hW]; decide),C' (by simpa using hb)]];exact⟨n',m',rfl,f1,f2⟩
 ·have hX9:=jH (by
   cases hW:Qw W with
   | false=>exact .inl rfl
   | true=>exact .inr λhb=>uZ ⟨hW,hb⟩)
  have hc9:Q1 [y,b4] wv (some ⟨b5,0,none⟩) 0 [.int .i64 (-1)]:=XP (Qq c5 hX9 Qs) hn5 (k0:=0) rfl;refine⟨-1,hc9,hc9,λM' SZ=>?_⟩;obtain⟨f1,f2⟩:=fin M' SZ
  cases hW:Qw W with
  | false=>
   rw[ziz hW] at f1 ⊢;rw[show Xh W (Zz W g n x) (ZY W g n x) (QR W)=(MO,-1,1) from E' hW];exact⟨n',m',rfl,f1,f2⟩
  | true=>
   have hb:Zz W g n x≠0:=λhb=>uZ ⟨hW,hb⟩
   rw[zi0 hW hb] at f1 ⊢;rw[show Xh W (Zz W g n x) (ZY W g n x) (QR W)=(W,-1,Zz W g n x) by unfold Xh; rw[C' (by rw[hW]; decide),E' hb]];exact⟨n',m',rfl,f1,f2⟩
end
structure JS (W:Q7):Prop where
 wp:Je W
 fl:z27 W
theorem ZE{K:Int}{W:Q7}(sw:SW K W)(hK:0<=K)(iL:K+Vj<=100000000000000000)(p:TI W)(hl:zah W):JS (Qg W):=by
 obtain⟨a,b⟩:=zd0 sw hK iL p hl;exact⟨a,b⟩
theorem zah.Ry{W:Q7}(h:zah W)(c:Int):zah (Ry W c):=(Hl W c).loc rfl h
theorem zah.IV{W:Q7}(h:zah W)(ha:WA W){t:Int}(t0:0<=t)(t1:t<12){x:Kf}(hx:x.state≠0->Z7 (Qy W x.group x.mask) x.R3=true):zah (IV W t x):=λi i0 i1 n=>by
 have hl:=ha.t;have e:Q9 (YtnclplgaicdapaaGreatDoor.IV W t x) i=if t=i then x else Q9 W i:=QG _ _ t0 Qo i0;rw[e] at n ⊢;rw[(zpi W t x).wh]
 split at n
 ·rename_i he;rw[E' he]; exact hx n
 ·rename_i he;rw[C' he]; exact h i i0 i1 n
theorem zx3(W:Q7)(t c:Int)(x:Kf):Ry (IV W t x) c=IV (Ry W c) t x:=rfl
theorem OI{W:Q7}(p:TI W){t:Int}(t0:0<=t)(t1:t<12)(n:(Q9 W t).state≠0):Er W (Q9 W t):=by
 rcases p.t t t0 t1 with h | h
 ·exact Is h.1 n
 ·exact h.2
theorem zsa{W:Q7}{t:Int}(hW:Qw W=true)(hb:Tf W t=0):JS (zi8 W t):=by
 have wp:=Qh.1 hW;obtain⟨h1,h2,sw,sw2⟩:=zla hW hb;obtain⟨t0,t1,n⟩:=YA h1;have hl:=wp.a.t;have p:=XB wp;have h:=OI p t0 Qo n;have pB:=Vg wp;refine ZE sw2 Qd Qd (p.IV t0 Qo (.inr ⟨by show (2:Int)≠0; decide,⟨.inr rfl,h.g,h.n,h.m,h.m0,h.s,h.u,h.l1,h.l2,λh=>by cases h⟩,p.l t t0 Qo n⟩) λc c0 c1 _ hs _=>by cases hs) (pB.IV wp.a t0 Qo λ_=>pB t t0 Qo n)
theorem zca{W:Q7}{t:Int}(hW:Qw W=true)(hb:YD W t=0):JS (XK W t):=by
 have wp:=Qh.1 hW;obtain⟨h1,_,sw,_,sw2⟩:=k7 hW hb;obtain⟨t0,t1,n⟩:=YA h1;have hl:=wp.a.t;have p:=XB wp;obtain⟨c0,c1⟩:=p.l t t0 Qo n
 have key:TI (QH W t)/\zah (QH W t):=by
  unfold QH;split
  ·exact⟨p.Ry c0 c1,(Vg wp).Ry _⟩
  ·exact⟨p,Vg wp⟩
 exact ZE sw2 Qd Qd (key.1.IV t0 Qo (.inl ⟨rfl,rfl⟩) λc c0 c1 _ hs _=>by cases hs) (key.2.IV key.1.a t0 Qo λh=>Is rfl h)
theorem z9{W:Q7}(p:TI W){t c:Int}(t0:0<=t)(t1:t<12){x:Kf}(n:x.state≠0)(hx:Er W x)(hc:x.R3=c)(c0:0<=c)(c1:c<(W.IF.length:Int)):TI (Ry (IV W t x) c):=by
 rw[zx3];have hl:(Ry W c).IF.length=W.IF.length:=H';refine(p.Ry c0 c1).IV t0 t1 (.inr ⟨n,⟨hx.st,hx.g,hx.n,hx.m,hx.m0,hx.s,hx.u,hx.l1,hx.l2,hx.f⟩,by rw[hl,hc]; exact⟨c0,c1⟩⟩) λd d0 d1 sP _ hd=>?_
 rw[hc] at hd;subst hd;have e1:gi (Ry W c).IF c=Ja (gi W.IF c):=(QG _ _ c0 c1 c0).trans (E' rfl);rw[e1] at sP;have sP:(-1:Int)=t:=sP;omega
theorem z1f(f v w:Int):f<=f+Y1 (v-f) w/\f+Y1 (v-f) w-f<=ZB w:=by
 have:=ZG (v-f) w;omega
theorem zu5{W:Q7}{t n:Int}(hW:Qw W=true)(hb:PG W t n=0):JS (GD W t n):=by
 have wp:=Qh.1 hW;have hq:=zqr hW hb;obtain⟨t0,t1,tn⟩:=YA hq.th;have hl:=wp.a.t;have p:=XB wp;have hw:Qf n≠0:=λh=>by unfold PG at hb; rw[E' h] at hb; cases hb
 have h:=OI p t0 Qo tn;obtain⟨c0,c1⟩:=p.l t t0 Qo tn;have pB:=Vg wp;have hL:zah (IV W t (Ju W t n)):=pB.IV wp.a t0 Qo λ_=>pB t t0 Qo tn
 have hT:Er W (Ju W t n):=⟨h.st,h.g,hw,h.m,h.m0,h.s,h.u,h.l1,h.l2,λhs=>by
  have hs:(Q9 W t).state=1:=hs;rw[zqq hs];exact z1f _ _ _⟩
 have hK:K1+Vj<=100000000000000000:=by simp only[K1,Qj,Vj]; decide
 have hK0:0<=K1:=by simp only[K1,Qj]; decide
 unfold GD;split
 ·rename_i hs
  have hlv:QH (IV W t (Ju W t n)) t=if (gi W.IF (Q9 W t).R3).cur=t then Ry (IV W t (Ju W t n)) (Q9 W t).R3 else IV W t (Ju W t n):=by
   unfold QH;rw[NL t0 t1]; rfl
  have s2:=hq.s2;rw[hlv] at s2 ⊢;split
  ·rename_i sP;rw[E' sP] at s2;exact ZE s2 hK0 hK (z9 p t0 Qo tn hT rfl c0 c1) (hL.Ry _)
  ·rename_i sP;rw[C' sP] at s2;refine ZE s2 hK0 hK (p.IV t0 Qo (.inr ⟨tn,hT,c0,c1⟩) λd d0 d1 hd _ hx=>?_) hL;have hx:(Q9 W t).R3=d:=hx;rw[hx] at sP;exact Is hd sP
 ·rename_i hs;exact ZE hq.s1 hK0 hK (p.IV t0 Qo (.inr ⟨tn,hT,c0,c1⟩) λd d0 d1 hd hx _=>Is hx hs) hL
theorem zu7{W:Q7}{t:Int}(hW:Qw W=true)(hb:MN W t=0):JS (A4 W t):=by
 have wp:=Qh.1 hW;obtain⟨h1,h2,_,sf,c0,c1⟩:=zrg hW hb;obtain⟨t0,t1,tn⟩:=YA h1;have hl:=wp.a.t;have p:=XB wp;have h:=OI p t0 Qo tn;have pB:=Vg wp
 have hT:Er W (TH W t (Mx W t)):=⟨.inl rfl,h.g,h.n,h.m,h.m0,h.s,h.u,h.l1,h.l2,λ_=>by
  have:=ZG ((Q9 W t).v-(Qb W (Q9 W t).group (Q9 W t).R3).floor) (Qf (Q9 W t).nice);show (Qb W (Q9 W t).group (Mx W t)).floor<=(Qb W (Q9 W t).group (Mx W t)).floor+N7 W t/\(Qb W (Q9 W t).group (Mx W t)).floor+N7 W t-(Qb W (Q9 W t).group (Mx W t)).floor<=ZB (Qf (Q9 W t).nice);unfold N7;exact⟨Qo,Qo⟩⟩
 have hwh:Z7 (Qy W (Q9 W t).group (Q9 W t).mask) (Mx W t)=true:=by
  unfold Mx;split
  ·exact(Hh wp.a _ _).2.2
  ·exact pB t t0 Qo tn
 exact ZE ((zk1 sf t0 t1 tn c0 c1).Ry c0 c1).w (by simp only[Qj]; decide) (by simp only[Qj,Vj]; decide) (z9 p t0 Qo (show (1:Int)≠0 by decide) hT rfl c0 c1) ((pB.IV wp.a t0 Qo (x:=TH W t (Mx W t)) λ_=>hwh).Ry _)
def ES(l u:Int):Int:=if YQ l 0 8000000=true/\YQ u 0 1000000=true then l-Int.tdiv l 8+u else 0
def zfg(x:Kf):Kf:={ x with used:=0,load:=ZH (ES x.load (ZH x.used 1000000)) 8000000 }
def Pa(W:Q7):Nat->Q7
 | 0=>W
 | t+1=>IV (Pa W t) (t:Int) (zfg (Q9 (Pa W t) (t:Int)))
def GC(next p now:Int):Nat->Int
 | 0=>next
 | i+1=>if GC next p now i<=now+((i:Int)+1) then GC next p now i+p else GC next p now i
structure ztu (next p now v:Int):Prop where
 gt:now<v
 pY:∃j:Nat,v=next+p*(j:Int)/\(j=0\/v-p<=now)
theorem E1{next p now:Int}(hp:1<=p)(hn:now<next):∀i:Nat,ztu next p (now+(i:Int)) (GC next p now i)
 | 0=>⟨by simp only[GC]; omega,0,by simp only[GC]; omega,.inl rfl⟩
 | i+1=>by
  obtain⟨h1,j,h2,h3⟩:=E1 hp hn i;simp only[GC]
  push_cast
  split
  ·refine⟨Qo,j+1,?_,.inr Qo⟩;rw[h2]; push_cast; rw[Int.mul_add,Int.mul_one,Int.add_assoc]
  ·exact⟨Qo,j,h2,h3.imp id λh=>by omega⟩
theorem zym{next p now v v':Int}(hp:1<=p)(h:ztu next p now v)(h':ztu next p now v'):v=v':=by
 obtain⟨h1,j,h2,h3⟩:=h;obtain⟨k1,k,k2,k3⟩:=h'
 have key:∀a b:Nat,a<b->p*(a:Int)+p<=p*(b:Int):=λa b hab=>by
  have:p*((a:Int)+1)<=p*(b:Int):=Int.mul_le_mul_of_nonneg_left Qo Qo;rw[Int.mul_add,Int.mul_one] at this;exact this
 rcases Nat.lt_trichotomy j k with h | h | h
 ·have:=key j k h; omega
 ·subst h; omega
 ·have:=key k j h; omega
def J0(now:Int)(n:Nat)(G:ZV):ZV:=if (G.used&&(G.IQ.IZ != 0))=true/\G.next<=now+(n:Int) then { G with next:=GC G.next G.period now n,IQ:=JC G.IQ } else G
theorem zoy{now:Int}{G:ZV}(h:G.IQ.IZ≠0->now<G.next):J0 now 0 G=G:=by
 unfold J0;rw[C'];rintro⟨h1,h2⟩;simp only[A',Iu,ne_eq] at h1;have:=h h1.2;simp at h2;omega
def TE(W:Q7)(n:Nat):Nat->Q7
 | 0=>{ W with now:=W.now+(n:Int) }
 | k+1=>Rf (TE W n k) (k:Int) (J0 W.now n (gi W.IE (k:Int)))
def Y0(W:Q7)(n:Nat):Q7:=TE W n 8
noncomputable def Lv(W:Q7)(n:Int):Int:=if YQ n 1 1000=false then 1 else if QM W=false then 10 else 0
def zig(W:Q7)(n:Int):Q7:=Qg (Pa (Y0 W n.toNat) 12)
theorem Hf(now:Int)(n:Nat)(G:ZV):(J0 now n G).used=G.used/\(J0 now n G).parent=G.parent/\(J0 now n G).name=G.name/\(J0 now n G).IG=G.IG/\(J0 now n G).weight=G.weight/\(J0 now n G).IF=G.IF/\(J0 now n G).sum=G.sum/\(J0 now n G).period=G.period/\(J0 now n G).IQ.IZ=G.IQ.IZ:=by
 unfold J0; split <;> exact⟨rfl,rfl,rfl,rfl,rfl,rfl,rfl,rfl,rfl⟩
theorem Ox(W:Q7)(n:Nat):∀k:Nat,(TE W n k).IE.length=W.IE.length/\(TE W n k).now=W.now+(n:Int)/\(TE W n k).IF=W.IF/\(TE W n k).tasks=W.tasks
 | 0=>⟨rfl,rfl,rfl,rfl⟩
 | k+1=>by
  obtain⟨a,b,c,d⟩:=Ox W n k;exact⟨by show (List.set _ _ _).length=_; rw[H']; exact a,b,c,d⟩
theorem KB(W:Q7)(n:Nat):∀k:Nat,k<=W.IE.length->∀i:Int,0<=i->gi (TE W n k).IE i=if i<(k:Int) then J0 W.now n (gi W.IE i) else gi W.IE i
 | 0,_,i,i0=>by rw[C' Qo]; rfl
 | k+1,hk,i,i0=>by
  have ih:=KB W n k Qo i i0;have hl:=(Ox W n k).1;show gi (Rf (TE W n k) (k:Int) _).IE i=_;rw[Yz Qo Qo i0]
  by_cases e:(k:Int)=i
  ·subst e;rw[E' rfl,E' Qo]
  ·rw[C' e,ih]
   by_cases h:i<(k:Int)
   ·rw[E' h,E' Qo]
   ·rw[C' h,C' Qo]
theorem zp6(W:Q7):∀k:Nat,(Pa W k).IE=W.IE/\(Pa W k).now=W.now/\(Pa W k).IF=W.IF/\(Pa W k).tasks.length=W.tasks.length
 | 0=>⟨rfl,rfl,rfl,rfl⟩
 | k+1=>by
  obtain⟨a,b,c,d⟩:=zp6 W k;exact⟨a,b,c,by show (List.set _ _ _).length=_; rw[H']; exact d⟩
theorem zp7{K:Int}{W:Q7}(h:SW K W):∀k:Nat,k<=12->SW K (Pa W k)
 | 0,_=>h
 | k+1,hk=>by
  have ih:=zp7 h k Qo;have hv:=ih.tv (k:Int) Qo Qo;exact ih.IV Qo Qo (x:=zfg (Q9 (Pa W k) (k:Int))) (λhs=>ih.t (k:Int) Qo Qo hs) hv.1 hv.2
theorem zlq{b:JB}(h:V4 b):V4 (JC b)/\(JC b).locals.length=b.locals.length:=by
 have hd:=h.dl;refine⟨⟨h.q1,h.q2,by simp only[JC,List.length_replicate]; have:=h.l1; omega,by simp only[JC,List.length_replicate]; have:=h.l2; omega,by simp[JC],by simp only[JC]; have:=h.q1; omega,I3 _,by simp[JC],by simp only[JC]; have:=h.q1; omega,λc c0 c1=>?_,?_⟩,by simp[JC,hd]⟩
 ·simp only[JC,List.length_replicate] at c1 ⊢;rw[Pl _ _ c0 c1,Pl _ _ c0 c1];have:=h.q1;exact⟨I3 _,Qo,λh=>by cases h⟩
 ·simp only[JC,List.length_replicate];rw[NH _ _ (I8 _)]; omega
theorem zv1{W W':Q7}{n:Nat}{k:Int}{G:ZV}(hg:znq W k G)(hu:G.used=true)(hn:W'.now=W.now+(n:Int))(hc:W'.IF.length=W.IF.length):znq W' k (J0 W.now n G):=by
 obtain⟨_,_,_,u4,u5,u6,u7,u8,u9⟩:=Hf W.now n G;refine⟨by rw[u5]; exact hg.w1,by rw[u5]; exact hg.w2,by rw[u6]; exact hg.m,by rw[u6]; exact hg.m0,by rw[u7]; exact hg.s,by rw[u4,hc]; exact hg.len,λh=>by rw[u5,u6,u9]; exact hg.root h,λhq=>?_,λhq=>?_⟩
 ·rw[u9] at hq
  have:J0 W.now n G=G:=by
   unfold J0;rw[C'];rintro⟨h1,_⟩;simp only[A',Iu,ne_eq] at h1;exact h1.2 hq
  rw[this];exact hg.none hq
 ·rw[u9] at hq;obtain⟨b1,b2,b3,b4,b5,b6⟩:=hg.IQ hq;rw[hn,hc];unfold J0;split
  ·obtain⟨f1,f2⟩:=zlq b1;have hj:=E1 b3 b5 n;refine⟨f1,by show (JC G.IQ).locals.length=_; rw[f2]; exact b2,b3,b4,hj.gt,?_⟩;obtain⟨h1,j,h2,h3⟩:=hj;show GC G.next G.period W.now n-(W.now+(n:Int))<=G.period;rcases h3 with rfl | h3
   ·simp at h2; omega
   ·omega
  ·rename_i hcnd;have IU:W.now+(n:Int)<G.next:=Int.not_le.1 λhle=>hcnd ⟨by rw[hu]; simpa using hq,hle⟩
   exact⟨b1,b2,b3,b4,IU,Qo⟩
theorem Ea(W:Q7)(n:Nat):∀k:Nat,k<=W.IE.length->Z1 W.IE (TE W n k).IE
 | 0,_=>Z1.refl _
 | k+1,hk=>by
  have ih:=Ea W n k Qo;have hl:=(Ox W n k).1;have e:=KB W n k Qo (k:Int) Qo;rw[C' Qo] at e;obtain⟨u1,u2,u3,_⟩:=Hf W.now n (gi W.IE (k:Int));exact ih.trans (U5 (W:=TE W n k) (g:=(k:Int)) (x:=J0 W.now n (gi W.IE (k:Int))) Qo Qo (by rw[u1,e]) (by rw[u2,e]) (by rw[u3,e]))
theorem zv2{K:Int}{W:Q7}{n:Nat}(h:SW K W)(h1:W.now+(n:Int)<=100000000000000000):SW K (Y0 W n):=by
 have hl:=h.a.gl;have hT:=Ea W n 8 Qo;obtain⟨l1,l2,l3,l4⟩:=Ox W n 8
 have e:∀i:Int,0<=i->i<8->gi (Y0 W n).IE i=J0 W.now n (gi W.IE i):=λi a b=>by
  have:=KB W n 8 Qo i a
  rwa[E' (show i<((8:Nat):Int) by omega)] at this
 have n1:=h.a.n1;have et:∀t:Int,Q9 (Y0 W n) t=Q9 W t:=λt=>by unfold Q9; rw[show (Y0 W n).tasks=W.tasks from l4]
 have ec:(Y0 W n).IF=W.IF:=l3;have hT:Z1 W.IE (Y0 W n).IE:=hT;refine⟨⟨by rw[show (Y0 W n).now=_ from l2]; omega,by rw[show (Y0 W n).now=_ from l2]; exact h1,by rw[ec]; exact h.a.c1,by rw[ec]; exact h.a.c2,by rw[show (Y0 W n).tasks=W.tasks from l4]; exact h.a.t,hT.tree h.a.tree,by rw[ec]; exact h.a.ups,λk a b=>?_⟩,λt a b hs=>?_,λt a b=>?_,λk c u a b=>?_,λc a b=>?_⟩
 ·have hg:=h.a.grp k a b;obtain⟨u1,u2,u3,u4,u5,u6,u7,u8,u9⟩:=Hf W.now n (gi W.IE k);unfold MR;rw[e k a b];refine⟨λhu=>?_,λhu=>?_⟩
  ·rw[u1] at hu
   have:J0 W.now n (gi W.IE k)=gi W.IE k:=by
    unfold J0;rw[C'];rintro⟨h1,_⟩;rw[hu] at h1;cases h1
   rw[this];exact hg.1 hu
  ·rw[u1] at hu;exact zv1 (hg.2 hu) hu l2 (by rw[ec])
 ·rw[et] at hs ⊢;rw[hT.fD,ec];exact h.t t a b hs
 ·rw[et]; exact h.tv t a b
 ·rw[hT.fD] at u;rw[ec] at b;have hk:=Q5.1 u
  have:Qb (Y0 W n) k c=Qb W k c:=by
   unfold Qb;rw[e k hk.1 Qo,(Hf W.now n (gi W.IE k)).2.2.2.1]
  rw[this];exact h.s k c u a b
 ·rw[ec] at b ⊢;exact h.cu c a b
theorem z1u{W:Q7}(ha:WA W):Y0 W 0=W:=by
 have hl:=ha.gl;obtain⟨l1,l2,l3,l4⟩:=Ox W 0 8
 have hg:(Y0 W 0).IE=W.IE:=zoi l1 λk hk=>by
  have hk8:k<8:=by have:(Y0 W 0).IE.length=W.IE.length:=l1; omega
  have:=KB W 0 8 Qo (k:Int) Qo;rw[E' Qo] at this;refine this.trans (zoy λhq=>?_);have hgp:=ha.grp (k:Int) Qo Qo
  cases hu:(gi W.IE (k:Int)).used with
  | true=>exact((hgp.2 hu).IQ hq).2.2.2.2.1
  | false=>
   have:=(hgp.1 hu).b;exact Is (by unfold Ow at this; simp only[A',It] at this; exact this.1.1.1.1) hq
 have h2:(Y0 W 0).now=W.now:=by rw[show (Y0 W 0).now=_ from l2]; simp
 have h3:(Y0 W 0).IF=W.IF:=l3;have h4:(Y0 W 0).tasks=W.tasks:=l4;generalize Y0 W 0=V at hg h2 h3 h4;cases V;cases W;simp only at hg h2 h3 h4;subst hg; subst h2; subst h3; subst h4;rfl
theorem zrc{W:Q7}{n:Int}(hW:Qw W=true)(hb:Lv W n=0):YQ n 1 1000=true/\QM W=true/\SW Ql W/\W.now<=Ql/\SW Ql (Y0 W n.toNat)/\SW Ql (Pa (Y0 W n.toNat) 12):=by
 have wp:=Qh.1 hW;unfold Lv at hb
 split at hb
 ·cases hb
 ·rename_i h1
  split at hb
  ·cases hb
  ·rename_i h3;have h1:YQ n 1 1000=true:=by simpa using h1
   have h3:QM W=true:=by simpa using h3
   have hr:=Qh.1 h3;have sw:=PH wp hr;have hn:=hr.n;have hi:=Qu.1 h1;have hh:Ql=50000000000000000:=rfl;have s1:=zv2 (n:=n.toNat) sw Qo;exact⟨h1,h3,sw,hn,s1,zp7 s1 12 (I8 _)⟩
section
variable {W W':Q7}{m:MW}{w:Wo}{bar:Int}
theorem zxt{l u:Int}(h1:YQ l 0 8000000=true)(h2:YQ u 0 1000000=true):0<=Int.tdiv l 8/\Int.tdiv l 8<=l:=by
 have:=Qu.1 h1;rw[Int.tdiv_eq_ediv_of_nonneg this.1];omega
theorem BZ{bs:List Nat}{l u:Int}:PX bs Tl #[I l,I u] w (I (ES l u)):=
 Nn l u λwr hx=>⟨_,Qr,_,λ_=>Qr,λg=>(by
  unfold ES;rw[C'];rintro⟨h1,h2⟩;rw[h1,h2] at g
  cases g),λg=>by
  have h1:YQ l 0 8000000=true:=by cases h:YQ l 0 8000000 <;> simp_all
  have h2:YQ u 0 1000000=true:=by cases h:YQ u 0 1000000 <;> simp_all
  have hb:=zxt h1 h2;have i1:=Qu.1 h1;have i2:=Qu.1 h2;refine⟨⟨Qd,Qo,Qo⟩,⟨Qo,Qo⟩,⟨Qo,Qo⟩,?_⟩;unfold ES;rw[E' ⟨h1,h2⟩]⟩
theorem zpb{W:Q7}{k:Int}(h0:0<=k)(h1:k<(W.IE.length:Int)):Rf W k (gi W.IE k)=W:=by
 unfold Rf;rw[KF h0 h1]
theorem Ch{n:Int}(h:Xg [] w W m)(hl:XM W) :
  Cz Oc #[.agg (Qa W m).toArray,I n] w λe w'=>∃v,e=.returned v/\QU (Xi W (Lv W n) (zig W n)) w v w':=by
 refine AW _ _ _ _ _ _ _ _ _ _ n (R:=λv w'=>QU (Xi W (Lv W n) (zig W n)) w v w') ?_;intro x hx x1 RZ wr R2 We;refine I4 (Zh (h.ext R2) hl) ?_;rintro e wv (⟨hW,he,hy⟩ | ⟨hW,m',he,hM,hy⟩)
 ·exact⟨_,_,_,_,_,_,_,_,_,_,_,he,Qe hy We,false,λg=>by simp at g,λ_ M' Rb=>QU.bad hW ((R2.trans hy).fresh Rb λy hm=>.inl (YW hx RZ y hm)),λg=>by simp at g⟩
 have hK:=Wk.begin hx RZ R2 We hM hy;have vY:((if QM W=true then 0 else 10:Int)==1)=false:=by split <;> rfl
 refine⟨_,_,_,_,_,_,_,_,_,_,_,he,Qe hy We,_,λ_=>Qr,λg M' Rb=>?_,λg=>⟨λg3 O' Rb=>?_,λg3=>?_⟩⟩
 ·rw[vY] at g;have g:YQ n 1 1000=false:=by simpa using g
  have hb:Lv W n=1:=by unfold Lv; rw[E' g]
  exact QU.no hW (by rw[hb]; decide) (hK.step Rb) hb
 ·rw[vY] at g;have g:YQ n 1 1000=true:=by simpa using g
  have cD:¬QM W=true:=λhr=>by rw[E' hr] at g3; simp at g3
  have hb:Lv W n=10:=by unfold Lv; rw[C' (by rw[g]; decide),E' (by simpa using cD)]
  rw[C' cD];exact QU.no hW (by rw[hb]; decide) (hK.step Rb) hb
 rw[vY] at g;have g:YQ n 1 1000=true:=by simpa using g
 have cD:QM W=true:=Ir λhr=>by rw[C' hr] at g3; simp at g3
 have hb:Lv W n=0:=by unfold Lv; rw[C' (by rw[g]; decide),C' (by rw[cD]; decide)]
 obtain⟨_,_,sw,Cg7,sp,sd⟩:=zrc hW hb;have hn:=Qu.1 g;obtain⟨N,rfl⟩:=Int.eq_ofNat_of_zero_le (show 0<=n by omega);have hE:zig W (N:Int)=Qg (Pa (Y0 W N) 12):=by unfold zig; rw[Ih]
 rw[Ih] at sp sd;rw[hE];have cP:=sw.a.gl;have fH:=sw.a.t;have hn1:=sw.a.n1;have hh:Ql=50000000000000000:=rfl;refine⟨⟨Qo,Qo⟩,?_⟩;refine XN W.IE.length 0 rfl (λk w2=>k<=8/\∃m2,Wk 8 [x,x1] w w2 (TE W N k) m2/\m2={ m' with ms:=m2.ms }) (λw2 Rb _=>⟨Qd,m',(show Wk 8 [x,x1] w wv (TE W N 0) m' from ⟨hK.s,⟨⟨hK.own.c,hK.own.t,hK.own.g,hK.own.len⟩,hK.nb⟩⟩).step Rb,rfl⟩) λk w2 iB ⟨hk8,m2,iL,hd2⟩=>?_
 obtain⟨l1,l2,l3,l4⟩:=Ox W N k;have eG:=KB W N k Qo (k:Int) Qo;rw[C' Qo] at eG;have Ww:TE W N (k+1)=Rf (TE W N k) (k:Int) (J0 W.now N (gi W.IE (k:Int))):=rfl;have tX:k=8->Y0 W N=TE W N k:=λe=>by rw[e]; rfl
 have CI5:(k:Int)<(W.IE.length:Int)->Rf (TE W N k) (k:Int) (gi W.IE (k:Int))=TE W N k:=λIU=>by
  have:=zpb (W:=TE W N k) (k:=(k:Int)) Qo Qo
  rwa[eG] at this
 have emg:m2.gO=m'.gO:=by rw[hd2]
 have emc:m2.gC=m'.gC:=by rw[hd2]
 refine⟨λIU=>?_,λRN=>?_⟩
 ·have IU:=Ot IU;generalize TE W N k=V at iL l1 l2 l3 l4 eG Ww tX CI5;have hr:=iL.rd;have CA7:(k:Int)<(V.IE.length:Int):=Qo;have Wl:Ix m'.gO W.IE.length (k:Int):=by have:=hr.g.ix (i:=(k:Int)) Qo CA7; rwa[l1,emg] at this
  have hcs:=hr.g.cells (k:Int) Qo CA7;rw[eG,emg] at hcs;refine⟨Wl,_,_,_,_,_,_,_,_,_,_,_,_,_,_,_,_,_,_,_,_,hcs,λb2 cN=>⟨λg4=>⟨⟨Qo,Qo⟩,λw3 Rb _=>Qt Qo ⟨Qo,m2,?_,hd2⟩⟩,λg4 RQ Sy mM=>?_⟩⟩
  ·have:J0 W.now N (gi W.IE (k:Int))=gi W.IE (k:Int):=by
    unfold J0;rw[C'];rintro⟨a,b⟩;simp only[Iv,ID,It,Ik] at g4;simp only[A',Iu,ne_eq] at a;rcases g4 with (h1 | h1) | h1
    ·rw[a.1] at h1; cases h1
    ·exact a.2 h1
    ·omega
   rw[Ww,this,CI5 IU];exact iL.step Rb
  ·simp only[I0,I7,beq_eq_false_iff_ne,ne_eq,decide_eq_false_iff_not] at g4;obtain⟨⟨hu,hq⟩,DW9⟩:=g4;have mB:=(sw.a.grp (k:Int) Qo Qo).2 hu;obtain⟨gL,hbl,hp1,gV,hnx,hnp⟩:=mB.IQ hq
   have hP:J0 W.now N (gi W.IE (k:Int))={ gi W.IE (k:Int) with next:=GC (gi W.IE (k:Int)).next (gi W.IE (k:Int)).period W.now N,IQ:=JC (gi W.IE (k:Int)).IQ }:=by
    unfold J0;rw[E' ⟨by rw[hu]; simpa using hq,Qo⟩]
   have hJ:=E1 hp1 hnx N;have oY:=(iL.add cN).step (Sy.mono λy hy=>Ib _ hy);have hr5:=oY.o.rd0;have hLo:=hr5.g.locals (k:Int) Qo CA7;have hDo:=hr5.g.Rz (k:Int) Qo CA7;rw[eG] at hLo hDo;refine I4 (U1 (op:=⟨4,0,0⟩) gL hLo hDo) ?_;rintro e Rr ⟨pb,he,hO,SE⟩;have C14:ZK (gi W.IE (k:Int)).IQ ⟨4,0,0⟩=(JC (gi W.IE (k:Int)).IQ,0):=by unfold ZK; rw[E' rfl]
   rw[C14] at he hO
   dsimp only at he hO
   refine⟨_,_,_,_,_,_,_,_,_,_,he,Qe SE mM,λb3 hb3=>?_⟩;have fE:=(oY.R5 SE).add hb3
   have hOb:∀y∈ZP pb,y∉QB 8 m2/\y∉[x,x1]++[b2]++[b3]:=λy hy=>by
    have:=hO.lt y hy;refine⟨λhm=>by have:=(oY.own.lt y hm).2; omega,λhm=>?_⟩;rcases Io.1 hm with h1 | h1
    ·have:=mM y h1; omega
    ·have:y=b3:=by simpa using h1
     omega
   have hO4:Z6 w.heap.size Rr (JC (gi W.IE (k:Int)).IQ) pb:=hO.mono oY.base;refine⟨λvs w'=>∃v:Int,vs=Yv { gi W.IE (k:Int) with next:=v,IQ:=JC (gi W.IE (k:Int)).IQ } (TT (m2.ms k) pb)/\(∃j:Nat,v=(gi W.IE (k:Int)).next+(gi W.IE (k:Int)).period*(j:Int)/\(j=0\/v-(gi W.IE (k:Int)).period<=W.now+(N:Int)))/\0<=v/\Wk 8 ([x,x1]++[b2]++[b3]) w w' V m2/\Z6 w.heap.size w' (JC (gi W.IE (k:Int)).IQ) pb,λvs _=>(W.now+(N:Int)+1-ZQ 6 vs).toNat,λSz kR hs7=>⟨(gi W.IE (k:Int)).next,by simp[Yv,TT],⟨0,Qs,.inl rfl⟩,Qo,fE.step (kR.mono λy hy=>Ib _ hy),hO4.ext kR λy hy hm=>(hOb y hy).2 (Ib _ hm)⟩,?_⟩;rintro l0 a1 a2 a3 a4 a5 a6 a7 a8 a9 a10 DO8 DO7 DO6 DP1 DP0 DO9 DP4 DP3 DP2 aF gY ⟨v,hv,hj,hv0,dV,hO5⟩;simp only[Yv,Z2,List.cons_append,List.nil_append,I5,Value.bool.injEq,I6,Value.string.injEq,Iw,true_and,and_true] at hv;obtain⟨rfl,rfl,rfl,rfl,rfl,rfl,rfl,rfl,rfl,rfl,rfl,⟨rfl,rfl,rfl⟩,⟨rfl,rfl,rfl⟩,rfl,rfl,rfl⟩:=hv;refine⟨λhle=>?_,λhgt=>?_⟩
   ·have hle:=Ot hle;refine⟨⟨Qo,Qo⟩,λW5 oH hs8=>⟨⟨a6+(gi W.IE (k:Int)).period,rfl,?_,Qo,dV.step oH,hO5.ext oH λy hy=>(hOb y hy).2⟩,?_⟩⟩
    ·obtain⟨j,h1,_⟩:=hj;exact⟨j+1,by rw[h1]; push_cast; rw[Int.mul_add,Int.mul_one,Int.add_assoc],.inr Qo⟩
    ·show (_-(a6+(gi W.IE (k:Int)).period)).toNat<(_-a6).toNat;omega
   ·have hgt:=Ou hgt;have hv6:a6=GC (gi W.IE (k:Int)).next (gi W.IE (k:Int)).period W.now N:=zym hp1 ⟨Qo,hj⟩ hJ;have wQ:=zef dV.own dV.nb (i:=(k:Int)) Qo Qo (j:=0) (k:=14) Qd;rw[emg] at wQ;refine⟨Wl,wQ,⟨Qo,Qo⟩,λWO lQ hs9=>Qt Qo ⟨Qo,PO m2 k (TT (m2.ms k) pb),?_,by rw[hd2]; rfl⟩⟩;rw[Ww];have uE:=dV.gr (g:=(k:Int)) Qo Qo (G:=J0 W.now N (gi W.IE (k:Int))) (p:=pb) (j:=0) (vs:=Yv (J0 W.now N (gi W.IE (k:Int))) (TT (m2.ms k) pb)) (by rw[hP]; exact hO5) hOb (by rw[eG]; exact(Hf _ _ _).2.2.2.1) (by simp[Yv]) (by simp[Yv]);refine(uE.step (w':=WO) ?_).sub λy hy=>Ib _ (Ib _ hy)
    rw[hP,<-hv6,emg];exact lQ
 ·have RN:=Ou RN;rw[<-tX Qo] at iL l1 l2 l3 l4;have emt:m2.tO=m'.tO:=by rw[hd2]
  refine XN W.tasks.length 0 rfl (λt w2=>t<=12/\Wk 8 [x,x1] w w2 (Pa (Y0 W N) t) m2) (λw2 Rb _=>⟨Qd,iL.step Rb⟩) λt w2 gY ⟨CR4,oY⟩=>?_
  obtain⟨q1,q2,q3,q4⟩:=zp6 (Y0 W N) t;have AP0:Pa (Y0 W N) (t+1)=IV (Pa (Y0 W N) t) (t:Int) (zfg (Q9 (Pa (Y0 W N) t) (t:Int))):=rfl;have AV2:t=12->Pa (Y0 W N) 12=Pa (Y0 W N) t:=λe=>by rw[e]
  generalize hU:Pa (Y0 W N) t=U at oY q1 q2 q3 q4 AP0 AV2;have hr:=oY.rd;refine⟨λIU=>?_,λbS Sr vE AW0=>?_⟩
  ·have IU:=Ot IU;have t1:(t:Int)<(U.tasks.length:Int):=by rw[q4,l4]; exact IU
   have Wl:Ix m'.tO W.tasks.length (t:Int):=by have:=hr.t.ix QF (i:=(t:Int)) Qo t1; rwa[q4,l4,emt] at this
   have hcs:=hr.t (t:Int) Qo t1;rw[emt] at hcs;have wQ:=zik oY.own oY.nb (i:=(t:Int)) Qo t1 (j:=0) (k:=9) Qd;rw[emt] at wQ;refine⟨Wl,_,_,_,_,_,_,_,_,_,hcs,λb4 hb4=>⟨_,JQ,_,BZ,_,JQ,Wl,wQ,⟨Qo,Qo⟩,λS9 AF9 wP=>Qt Qo ⟨Qo,?_⟩⟩⟩;rw[AP0];have SI:=oY.own.xS (i:=(t:Int)) Qo t1 (j:=0) (vs:=YK (zfg (Q9 U (t:Int)))) (x:=zfg (Q9 U (t:Int))) (by simp[YK]) (by simp[YK]);have fE:=oY.R9 SI LR;rw[emt] at fE;exact fE.step AF9
  ·have bS:=Ou bS;rw[AV2 Qo] at sd ⊢;have fE:=oY.step vE;have RD:=Qx fE.own sd Qd Qd fE.base
   have e5:Qa U m2=[I (W.now+(N:Int)),.slice m'.cO W.IF.length m'.cC,.slice m'.tO W.tasks.length m'.tC,.slice m'.gO W.IE.length m'.gC]:=by
    unfold Qa;rw[q2,q3,q4,q1,l1,l2,l3,l4,hd2]
   rw[e5] at RD;refine I4 RD ?_;rintro e2 Rr ⟨m3,aT,SE⟩;exact⟨_,_,_,_,_,_,_,_,_,_,aT,fE.kept SE AW0,λWa B08=>QU.ok hW hb ((fE.SH SE AW0).step B08)⟩
structure Mn (base pb:Nat) (w0:Wo) (m0:MW) (w:Wo) (W:Q7) (m:MW):Prop where
 own:Zj 8 base w W m
 pt:w.heap[pb]? = some (.cells (Qa W m).toArray Q4 (0,0))
 pn:pb∉QB 8 m
 ext:Q0 (pb::QB 8 m0) w0 w
 sub:∀x∈QB 8 m,x∈QB 8 m0\/w0.heap.size<=x
section
variable {base pb:Nat}{w0 w':Wo}{m0 m':MW}
theorem Mn.start(h:PW base pb w W m):Mn base pb w m w W m:=⟨h.own,h.pt,h.pn,Q0.refl _ _,λ_ hx=>.inl hx⟩
end
end
theorem TI.same{W W':Q7}(p:TI W)(ha:WA W')(ht:W'.tasks=W.tasks)(hc:W'.IF=W.IF)(hT:Z1 W.IE W'.IE)(hs:∀k c:Int,Qb W' k c=Qb W k c):TI W':=by
 have est:∀k c:Int,VY W' k c↔VY W k c:=λk c=>by
  unfold VY;rw[hT.p,hs,hs]
 refine⟨⟨ha,λt t0 t1=>?_,λt t0 t1 n=>by rw[Jy ht] at n ⊢; rw[hc]; exact p.l t t0 t1 n,λk c hk c0 c1=>?_⟩,λc c0 c1=>?_⟩
 ·rw[Jy ht];rcases p.t t t0 t1 with h | ⟨h1,h2⟩
  ·exact .inl h
  ·exact .inr ⟨h1,h2.st,by rw[hT.fD]; exact h2.g,h2.n,h2.m,h2.m0,h2.s,h2.u,h2.l1,h2.l2,λh=>by rw[hs]; exact h2.f h⟩
 ·rw[hT.fD] at hk;rw[hc] at c1;exact(p.s k c hk c0 c1).Bx1 (hs _ _) λ_=>by rw[hT.p,hs]
 ·rw[hc] at c1;have h:=p.c c c0 c1;refine⟨by rw[hc]; exact h.b,by rw[hc]; exact h.i,by rw[hc]; exact h.c1,by rw[hc]; exact h.c2,by rw[hc]; exact h.no,by rw[hc]; exact h.yes,λh0 h1 h2=>?_⟩;rw[hc,Jy ht] at *;obtain⟨q1,q2⟩:=h.q h0 h1 h2;refine⟨by rw[hs]; exact q1,λy hy=>?_⟩;rw[TF hT] at hy;rw[est,hT.p,hs,hs];exact q2 y hy
theorem zzs{W W':Q7}(hT:Z1 W.IE W'.IE)(hm:∀i:Int,(gi W'.IE i).IF=(gi W.IE i).IF)(hu:JZ W'.IF=JZ W.IF)(g m:Int):Qy W' g m=Qy W g m:=by
 unfold Qy
 have hp:T9 W'.IE g (JZ W.IF)=T9 W.IE g (JZ W.IF):=by
  unfold T9;rw[show Zc W'.IE g=Zc W.IE g from hT.path 3 g]
  congr 1
  funext s x
  rw[hm]
 rw[hu,hp]
theorem zah.same{W W':Q7}(h:zah W)(ht:W'.tasks=W.tasks)(hT:Z1 W.IE W'.IE)(hm:∀i:Int,(gi W'.IE i).IF=(gi W.IE i).IF)(hu:JZ W'.IF=JZ W.IF):zah W':=λt t0 t1 n=>by
 rw[Jy ht] at n ⊢;rw[zzs hT hm hu];exact h t t0 t1 n
theorem zpe{W:Q7}{g:Int}{x:ZV}(s:x.IG=(gi W.IE g).IG)(k c:Int):Qb (Rf W g x) k c=Qb W k c:=by
 unfold Qb;rw[show (gi (Rf W g x).IE k).IG=(gi W.IE k).IG from X4 (f:=ZV.IG) _ _ s k]
theorem zyf{W:Q7}{g q p:Int}(hW:Qw W=true)(hb:zmb W g q p=0):JS (zyy W g q p):=by
 have wp:=Qh.1 hW;obtain⟨hu,hz,_,_,sw,sw2⟩:=zvf hW hb;obtain⟨u0,u1,_⟩:=Q5.1 hu;have h:=zj4 (W:=W) (g:=g) (q:=q) (p:=p);have hT:=U5 (W:=W) (x:=K9 W g q p) u0 u1 h.1 h.2.1 h.2.2.1;exact ZE sw2 Qd Qd ((XB wp).same sw2.a rfl rfl hT (zpe h.2.2.2.1)) ((Vg wp).same rfl hT (λi=>X4 (f:=ZV.IF) _ _ h.2.2.2.2.2.1 i) rfl)
theorem zu6{W:Q7}{n:Int}(hW:Qw W=true)(hb:Lv W n=0):JS (zig W n):=by
 have wp:=Qh.1 hW;obtain⟨_,_,sw,_,sp,sd⟩:=zrc hW hb;have cP:=wp.a.gl;obtain⟨l1,l2,l3,l4⟩:=Ox W n.toNat 8;have hT:Z1 W.IE (Y0 W n.toNat).IE:=Ea W n.toNat 8 Qo
 have key:∀i:Int,(gi (Y0 W n.toNat).IE i).IG=(gi W.IE i).IG/\(gi (Y0 W n.toNat).IE i).IF=(gi W.IE i).IF:=λi=>by
  have hu:=Hf W.now n.toNat (gi W.IE ((i.toNat:Nat):Int));have e:=KB W n.toNat 8 Qo ((i.toNat:Nat):Int) Qo;rw[zb3 (Y0 W n.toNat).IE i,zb3 W.IE i];unfold Y0;rw[e];split
  ·exact⟨hu.2.2.2.1,hu.2.2.2.2.2.1⟩
  ·exact⟨rfl,rfl⟩
 have p1:TI (Y0 W n.toNat):=(XB wp).same sp.a l4 l3 hT λk c=>by unfold Qb; rw[(key k).1]
 have q1:zah (Y0 W n.toNat):=(Vg wp).same l4 hT (λi=>(key i).2) (by rw[show (Y0 W n.toNat).IF=W.IF from l3])
 have all:∀k:Nat,k<=12->TI (Pa (Y0 W n.toNat) k)/\zah (Pa (Y0 W n.toNat) k):=by
  intro k
  induction k with
  | zero=>exact λ_=>⟨p1,q1⟩
  | succ k ih=>
   intro hk;obtain⟨a,b⟩:=ih Qo;show TI (IV (Pa (Y0 W n.toNat) k) (k:Int) (zfg (Q9 (Pa (Y0 W n.toNat) k) (k:Int))))/\zah (IV (Pa (Y0 W n.toNat) k) (k:Int) (zfg (Q9 (Pa (Y0 W n.toNat) k) (k:Int))));generalize Pa (Y0 W n.toNat) k=V at a b
   by_cases hs:(Q9 V (k:Int)).state=0
   ·have hz:Q9 V (k:Int)=O0:=by
     rcases a.t (k:Int) Qo Qo with h | h
     ·exact h.2
     ·exact Is hs h.1
    rw[hz];have hd:zfg O0=O0:=Qd;rw[hd];exact⟨a.IV Qo Qo (.inl ⟨rfl,rfl⟩) λc _ _ _ h _=>(by cases h),b.IV a.a Qo Qo λh=>Is rfl h⟩
   ·have h:=OI a (t:=(k:Int)) Qo Qo hs;have hlo:=a.l (k:Int) Qo Qo hs
    have hld:0<=(zfg (Q9 V (k:Int))).load/\(zfg (Q9 V (k:Int))).load<=8000000:=by
     have h1:=h.l1;have h2:=h.l2;have h3:=Ys.1 h.u
     have ht:0<=Int.tdiv (Q9 V (k:Int)).load 8/\Int.tdiv (Q9 V (k:Int)).load 8<=(Q9 V (k:Int)).load:=by
      rw[Int.tdiv_eq_ediv_of_nonneg h1];omega
     show 0<=ZH (ES (Q9 V (k:Int)).load (ZH (Q9 V (k:Int)).used 1000000)) 8000000/\ZH (ES (Q9 V (k:Int)).load (ZH (Q9 V (k:Int)).used 1000000)) 8000000<=8000000;have hm:0<=ZH (Q9 V (k:Int)).used 1000000:=by unfold ZH; split <;> omega
     have hbt:0<=ES (Q9 V (k:Int)).load (ZH (Q9 V (k:Int)).used 1000000):=by unfold ES; split <;> omega
     generalize ES (Q9 V (k:Int)).load (ZH (Q9 V (k:Int)).used 1000000)=y at hbt;unfold ZH
     split <;> omega
    refine⟨a.IV Qo Qo (.inr ⟨hs,⟨h.st,h.g,h.n,h.m,h.m0,h.s,by show ZU 0=true; decide,hld.1,hld.2,h.f⟩,hlo⟩) λc c0 c1 sP h1 h2=>?_,b.IV a.a Qo Qo λ_=>b (k:Int) Qo Qo hs⟩;have hc:=(a.c c c0 c1).q (by rw[sP]; omega);rw[sP] at hc;exact hc h1 h2
 obtain⟨p2,q2⟩:=all 12 (I8 _);exact ZE sd Qd Qd p2 q2
theorem zdq{W:Q7}(p:TI W){t g c:Int}(t0:0<=t)(t1:t<12)(n:(Q9 W t).state≠0)(hg:Q6 W.IE g=true)(c0:0<=c)(c1:c<(W.IF.length:Int)):TI (VW W t g c):=by
 have h:=OI p t0 t1 n
 have hT:Er W (Kb W t g c):=⟨h.st,hg,h.n,h.m,h.m0,h.s,h.u,h.l1,h.l2,λ_=>by
  have:=ZG ((Q9 W t).v-(Qb W (Q9 W t).group (Q9 W t).R3).floor) (Qf (Q9 W t).nice);show (Qb W g c).floor<=(Qb W g c).floor+N7 W t/\(Qb W g c).floor+N7 W t-(Qb W g c).floor<=ZB (Qf (Q9 W t).nice);unfold N7;exact⟨Qo,Qo⟩⟩
 unfold VW;split
 ·exact z9 p t0 t1 n hT rfl c0 c1
 ·rename_i hs;exact p.IV t0 t1 (.inr ⟨n,hT,c0,c1⟩) λd _ _ _ h _=>Is h hs
theorem zad(W:Q7)(t g c:Int):TM W (VW W t g c):=by
 unfold VW;split
 ·exact(zpi _ _ _).trans (Hl _ _)
 ·exact zpi _ _ _
theorem zo6{W:Q7}(hl:W.tasks.length=12){t g c:Int}(t0:0<=t)(t1:t<12){i:Int}(i0:0<=i):Q9 (VW W t g c) i=if t=i then Kb W t g c else Q9 W i:=by
 have e:Q9 (IV W t (Kb W t g c)) i=if t=i then Kb W t g c else Q9 W i:=QG _ _ t0 Qo i0;unfold VW;split
 ·exact e
 ·exact e
theorem zqy{W:Q7}(p:TI W):∀k:Nat,k<=12->TI (UH W k)/\TM W (UH W k)/\(∀t:Int,0<=t->t<(k:Int)->(Q9 (UH W k) t).state≠0->Z7 (Qy (UH W k) (Q9 (UH W k) t).group (Q9 (UH W k) t).mask) (Q9 (UH W k) t).R3=true)
 | 0,_=>⟨p,TM.refl _,λt a b=>by omega⟩
 | k+1,hk=>by
  obtain⟨a,b,d⟩:=zqy p k Qo;simp only[UH];generalize UH W k=V at a b d;have hl:=a.a.t;split
  ·rename_i hm;unfold GA at hm;simp only[A',Iu,ne_eq] at hm;have h:=OI a (t:=(k:Int)) Qo Qo hm.1;have hf:=Hr a.a (Q9 V (k:Int)).group (Q9 V (k:Int)).mask;have hw:=KM a.a (Q9 V (k:Int)).group (Q9 V (k:Int)).mask;refine⟨zdq a Qo Qo hm.1 h.g hf.1 hf.2,b.trans (zad _ _ _ _),λt t0 t1 n=>?_⟩;rw[(zad V _ _ _).wh];rw[zo6 hl Qo Qo t0] at n ⊢
   split at n
   ·rename_i he;rw[E' he];exact FA hw.1 hw.2
   ·rename_i he;rw[C' he];exact d t t0 Qo n
  ·rename_i hm;refine⟨a,b,λt t0 t1 n=>?_⟩
   by_cases he:t=(k:Int)
   ·subst he;have hm:GA V (k:Int)=false:=by simpa using hm
    unfold GA at hm;rw[show ((Q9 V (k:Int)).state != 0)=true by simpa using n,Bool.true_and] at hm
    simpa using hm
   ·exact d t t0 Qo n
theorem zac{W:Q7}(sf:SF Ql (Ql+Qj) W)(p:TI W):JS (Qg (HU W)):=by
 obtain⟨a,b,d⟩:=zqy p 12 (I8 _);exact ZE (Hj sf (I3 _)).1.w (by simp only[Qj]; decide) (by simp only[Qj,Vj]; decide) a d
theorem zyj{W:Q7}{t x:Int}(hW:Qw W=true)(hb:Ec W t x=0):JS (zv7 W t x):=by
 have wp:=Qh.1 hW;obtain⟨h1,_,sf⟩:=zv8 hW hb;obtain⟨t0,t1,tn⟩:=YA h1;have hl:=wp.a.t;have p:=XB wp;have h:=OI p t0 Qo tn
 have hx:OH x=true/\x≠0:=by
  unfold Ec at hb
  split at hb
  ·cases hb
  ·rename_i hn;exact⟨by cases hm:OH x with | true=>rfl | false=>exact Is (.inl hm) hn,λe=>hn (.inr e)⟩
 refine zac sf (p.IV t0 Qo (.inr ⟨tn,⟨h.st,h.g,h.n,hx.1,hx.2,h.s,h.u,h.l1,h.l2,h.f⟩,p.l t t0 Qo tn⟩) λc c0 c1 sP h1 h2=>?_);have hc:=(p.c c c0 c1).q (by rw[sP]; omega);rw[sP] at hc;exact hc h1 h2
theorem zye{W:Q7}{g x:Int}(hW:Qw W=true)(hb:zlz W g x=0):JS (zuy W g x):=by
 have wp:=Qh.1 hW;obtain⟨hu,_,_,sf,hT⟩:=zuz hW hb;exact zac sf ((XB wp).same sf.w.a rfl rfl hT (zpe rfl))
theorem Er.gr{W W':Q7}{x:Kf}(h:Er W x)(e:W'.IE=W.IE):Er W' x:=
 ⟨h.st,by rw[e]; exact h.g,h.n,h.m,h.m0,h.s,h.u,h.l1,h.l2,λhs=>by unfold Qb; rw[e]; exact h.f hs⟩
theorem z06{W:Q7}{c:Int}(hW:Qw W=true)(hb:VJ W c false 0=0):JS (z2u W c):=by
 have wp:=Qh.1 hW;obtain⟨c0,c1,_,sf⟩:=z0e hW hb;have p:=XB wp;refine zac sf ⟨⟨sf.w.a,λt t0 t1=>(p.t t t0 t1).imp id λh=>⟨h.1,h.2.gr rfl⟩,λt t0 t1 n=>?_,λk d hk d0 d1=>?_⟩,λd d0 d1=>?_⟩
 ·have:=p.l t t0 t1 n;show _/\_<(((W.IF.set c.toNat _).length:Nat):Int);rw[H']; exact this
 ·have d1:d<(((W.IF.set c.toNat (Lx (gi W.IF c) true)).length:Nat):Int):=d1;rw[H'] at d1;exact(p.s k d hk d0 d1).Bx1 rfl λ_=>rfl
 ·have d1:d<(((W.IF.set c.toNat (Lx (gi W.IF c) true)).length:Nat):Int):=d1;rw[H'] at d1;have h:=p.c d d0 d1;have e:gi (S8 W c (Lx (gi W.IF c) true)).IF d=if c=d then Lx (gi W.IF c) true else gi W.IF d:=QG _ _ c0 c1 d0
  have eb:(gi (S8 W c (Lx (gi W.IF c) true)).IF d).cur=(gi W.IF d).cur/\(gi (S8 W c (Lx (gi W.IF c) true)).IF d).aC=(gi W.IF d).aC/\(gi (S8 W c (Lx (gi W.IF c) true)).IF d).busy=(gi W.IF d).busy/\(gi (S8 W c (Lx (gi W.IF c) true)).IF d).idle=(gi W.IF d).idle/\((gi W.IF d).up=true->(gi (S8 W c (Lx (gi W.IF c) true)).IF d).up=true):=by
   rw[e];split
   ·rename_i he; subst he; exact⟨rfl,rfl,rfl,rfl,λ_=>rfl⟩
   ·exact⟨rfl,rfl,rfl,rfl,id⟩
  obtain⟨e1,e2,e3,e4,e5⟩:=eb;refine⟨by rw[e3]; exact h.b,by rw[e4]; exact h.i,by rw[e1]; exact h.c1,by rw[e1]; exact h.c2,by rw[e1,e2]; exact h.no,λh0=>?_,?_⟩
  ·rw[e1] at h0;have:=h.yes h0;exact⟨e5 this.1,by rw[e2]; exact this.2⟩
  ·rw[e1,e2]; exact h.q
theorem zyi{W:Q7}{c:Int}(hW:Qw W=true)(hb:VJ W c true (GF W)=0):JS (zvx W c):=by
 have wp:=Qh.1 hW;obtain⟨c0,c1,_,sf⟩:=zvy hW hb;have p:=XB wp;have hl:(S8 W c (Lx (gi W.IF c) false)).IF.length=W.IF.length:=H';have sfE:=sf.Ry c0 (by rw[hl]; exact c1)
 have hcs:Ry (S8 W c (Lx (gi W.IF c) false)) c=S8 W c (Ja (Lx (gi W.IF c) false)):=by
  have e:gi (S8 W c (Lx (gi W.IF c) false)).IF c=Lx (gi W.IF c) false:=(QG _ _ c0 c1 c0).trans (E' rfl);unfold Ry;rw[e];simp[S8,List.set_set]
 show JS (Qg (HU (Ry (S8 W c (Lx (gi W.IF c) false)) c)));rw[hcs] at sfE ⊢;refine zac sfE ⟨⟨sfE.w.a,λt t0 t1=>(p.t t t0 t1).imp id λh=>⟨h.1,h.2.gr rfl⟩,λt t0 t1 n=>?_,λk d hk d0 d1=>?_⟩,λd d0 d1=>?_⟩
 ·have:=p.l t t0 t1 n;show _/\_<(((W.IF.set c.toNat _).length:Nat):Int);rw[H']; exact this
 ·have d1:d<(((W.IF.set c.toNat (Ja (Lx (gi W.IF c) false))).length:Nat):Int):=d1;rw[H'] at d1;exact(p.s k d hk d0 d1).Bx1 rfl λ_=>rfl
 ·have d1:d<(((W.IF.set c.toNat (Ja (Lx (gi W.IF c) false))).length:Nat):Int):=d1;rw[H'] at d1;have h:=p.c d d0 d1;have e:gi (S8 W c (Ja (Lx (gi W.IF c) false))).IF d=if c=d then Ja (Lx (gi W.IF c) false) else gi W.IF d:=QG _ _ c0 c1 d0
  by_cases he:c=d
  ·subst he;have e:=e.trans (E' rfl);refine⟨by rw[e]; exact h.b,by rw[e]; exact h.i,by rw[e]; show (-1:Int)<=-1; decide,by rw[e]; show (-1:Int)<12; decide,λ_=>by rw[e]; rfl,λh0=>?_,λh0=>?_⟩
   ·rw[e] at h0;have h0:(0:Int)<=-1:=h0;omega
   ·rw[e] at h0;have h0:(0:Int)<=-1:=h0;omega
  ·have e:=e.trans (C' he);exact⟨by rw[e]; exact h.b,by rw[e]; exact h.i,by rw[e]; exact h.c1,by rw[e]; exact h.c2,by rw[e]; exact h.no,by rw[e]; exact h.yes,by rw[e]; exact h.q⟩
def zeb(W:Q7)(g c x:Int):KN:={ Qb W g c with v:=if (Qb W g c).on=true then (Qb W (gi W.IE g).parent c).floor+Y1 ((Qb W g c).v-(Qb W (gi W.IE g).parent c).floor) x else (Qb W g c).v,w:=x }
def zk2(W:Q7)(g c:Int):Bool:=decide ((gi W.IF c).cur>=0)&&TQ 3 W.IE g (Q9 W (gi W.IF c).cur).group
def Us(W:Q7)(g c x:Int):Q7:=Rx W g c (zeb W g c x)
def Lg(W:Q7)(g c x:Int):Q7:=if (Qb W g c).w=x then W else if zk2 (Us W g c x) g c=true then Ry (Us W g c x) c else Us W g c x
def Di(W:Q7):Prop:=∀c:Int,0<=c->c<(W.IF.length:Int)->(gi W.IF c).cur>=0->Q6 W.IE (Q9 W (gi W.IF c).cur).group=true
theorem zp5{W:Q7}(wp:Je W):Di W:=λc c0 c1 h=>by
 have hc:=wp.c c c0 c1;have hy:=hc.yes h;have hl:=hy.2.2.2.2.1;have c2:=hc.c2;have ht:=wp.a.t;unfold ZL at hl;simp only[A',It] at hl;rcases wp.t (gi W.IF c).cur h Qo with h1 | h1
 ·rw[h1.1] at hl; exact Is hl.1 Qd
 ·exact h1.2.g
theorem Di.Rx{W:Q7}(h:Di W){g c:Int}{s:KN}(u0:0<=g)(u1:g<(W.IE.length:Int)):Di (Rx W g c s):=λd d0 d1 hc=>by
 rw[(J5 u0 u1).fD];exact h d d0 d1 hc
theorem Di.Ry{W:Q7}(h:Di W){c:Int}(c0:0<=c)(c1:c<(W.IF.length:Int)):Di (Ry W c):=λd d0 d1 hc=>by
 have d1:d<(((W.IF.set c.toNat (Ja (gi W.IF c))).length:Nat):Int):=d1;rw[H'] at d1;have hg:gi (YtnclplgaicdapaaGreatDoor.Ry W c).IF d=if c=d then Ja (gi W.IF c) else gi W.IF d:=QG _ _ c0 c1 d0;rw[hg] at hc ⊢
 split at hc
 ·exact Is hc (by show ¬(-1:Int)>=0; decide)
 ·rename_i hn;rw[C' hn];exact h d d0 d1 hc
theorem zzr{F K:Int}{W:Q7}(h:SF F K W)(hk:F+Qj<=K){g c x:Int}(hu:Q6 W.IE g=true)(hz:g≠0)(c0:0<=c)(c1:c<(W.IF.length:Int))(x1:1<=x)(x2:x<=20):SF F K (Us W g c x):=by
 have hp:=h.w.a.up hu hz;have s1:=h.w.s g c hu c0 c1;have s2:=h.w.s _ c hp c0 c1;have f1:=h.f g c hu c0 c1;have f2:=h.f _ c hp c0 c1;have lc:=ZG ((Qb W g c).v-(Qb W (gi W.IE g).parent c).floor) x;have lm:=ZC x;refine h.Rx hu c0 c1 s1.1 f1 (by show (Qb W g c).floor<=K; omega) ?_ ?_ x1 x2
 ·simp only[zeb]; split <;> omega
 ·simp only[zeb]; simp only[Qj] at hk; split <;> omega
theorem zrh{F K:Int}{W:Q7}(h:SF F K W)(hk:F+Qj<=K)(hc:Di W){g c x:Int}(hu:Q6 W.IE g=true)(hz:g≠0)(c0:0<=c)(c1:c<(W.IF.length:Int))(x1:1<=x)(x2:x<=20):SF F K (Lg W g c x)/\Fr W (Lg W g c x)/\Di (Lg W g c x):=by
 obtain⟨u0,u1,_⟩:=Q5.1 hu;have hv:=zzr h hk hu hz c0 c1 x1 x2;have hf:Fr W (Us W g c x):=(UW u0 u1).fr;have hc2:Di (Us W g c x):=hc.Rx u0 u1;unfold Lg;split
 ·exact⟨h,Fr.refl _,hc⟩
 ·split
  ·exact⟨hv.Ry c0 c1,hf.trans (BU _ _),hc2.Ry c0 c1⟩
  ·exact⟨hv,hf,hc2⟩
def H1(W:Q7)(g x:Int):Nat->Q7
 | 0=>W
 | c+1=>Lg (H1 W g x c) g (c:Int) x
theorem zk3{F K:Int}{W:Q7}(h:SF F K W)(hk:F+Qj<=K)(hc:Di W){g x:Int}(hu:Q6 W.IE g=true)(hz:g≠0)(x1:1<=x)(x2:x<=20):∀c:Nat,c<=W.IF.length->SF F K (H1 W g x c)/\Fr W (H1 W g x c)/\Di (H1 W g x c)
 | 0,_=>⟨h,Fr.refl _,hc⟩
 | c+1,hn=>by
  obtain⟨a,b,d⟩:=zk3 h hk hc hu hz x1 x2 c Qo;obtain⟨a2,b2,d2⟩:=zrh a hk d (g:=g) (c:=(c:Int)) (x:=x) (by rw[b.g.fD]; exact hu) hz Qo (by rw[b.c]; omega) x1 x2;exact⟨a2,b.trans b2,d2⟩
def KL(W:Q7)(g x:Int):ZV:={ gi W.IE g with weight:=x }
noncomputable def znl(W:Q7)(g x:Int):Int:=K2 W g (YQ x 1 20)
def zw9(W:Q7)(g x:Int):Q7:=Qg (H1 (Rf W g (KL W g x)) g x W.IF.length)
theorem zxa{W:Q7}{g x:Int}(hW:Qw W=true)(hb:znl W g x=0):YQ x 1 20=true/\g≠0/\Q6 W.IE g=true/\QM W=true/\SF Ql (Ql+Qj) W/\SF Ql (Ql+Qj) (Rf W g (KL W g x))/\Di (Rf W g (KL W g x))/\Z1 W.IE (Rf W g (KL W g x)).IE:=by
 obtain⟨h1,h2,h3,h4⟩:=zju hb;have wp:=Qh.1 hW;have sw:=PH wp (Qh.1 h4);obtain⟨u0,u1,hg⟩:=wp.a.u h3;have hx:=Qu.1 h1;have hl:=wp.a.gl;have s1:=sw.Rf (x:=KL W g x) h3 rfl rfl rfl rfl ⟨hx.1,hx.2,hg.m,hg.m0,hg.s,hg.len,λh=>Is h h2,hg.none,hg.IQ⟩;have hT:Z1 W.IE (Rf W g (KL W g x)).IE:=U5 u0 Qo rfl rfl rfl;refine⟨h1,h2,h3,h4,sw.sf.mono (I3 _) (by simp only[Qj]; decide),s1.sf.mono (I3 _) (by simp only[Qj]; decide),λd d0 d1 hc=>?_,hT⟩;rw[hT.fD];exact zp5 wp d d0 d1 hc
theorem zw7{gs:List ZV}(ht:Yk gs){g h:Int}(u1:Q6 gs g=true)(u2:Q6 gs h=true):Pu gs g h=TQ 3 gs g h:=by
 unfold Pu;rw[u1,u2,show ML gs=true from @Ii _ (Classical.propDecidable _) ht];rfl
section
variable {base:Nat}{W W':Q7}{m:MW}{w:Wo}{bar:Int}
theorem Kt{F K:Int}(h:Zj 8 base w W m)(mC:SF F K W)(hk:F+Qj<=K)(hK:K<=1000000000000000000)(hcu:Di W){g c x:Int}(hu:Q6 W.IE g=true)(hz:g≠0)(c0:0<=c)(c1:c<(W.IF.length:Int)) :
  Cz Ug #[.agg (Qa W m).toArray,I g,I c,I x] w λe w'=>e=.returned (.agg (Qa W m).toArray)/\Mv 8 base [] w m w' (Lg W g c x) m:=by
 refine(BP _ _ _ _ _ _ _ _ _ _ g c x (R:=λv w'=>v=.agg (Qa W m).toArray/\Mv 8 base [] w m w' (Lg W g c x) m) ?_).mono λe w' ⟨v,he,hv,h3⟩=>⟨by rw[he,hv],h3⟩
 intro y hy y1 dG;obtain⟨u0,u1,_⟩:=Q5.1 hu;have cP:=mC.w.a.gl;have fH:=mC.w.a.t;have hsl:=mC.w.a.sl hu;have hp:=mC.w.a.up hu hz;obtain⟨p0,p1,_⟩:=Q5.1 hp;have hpl:=mC.w.a.sl hp;have s1:=mC.w.s g c hu c0 c1;have s2:=mC.w.s _ c hp c0 c1;have lc:=ZG ((Qb W g c).v-(Qb W (gi W.IE g).parent c).floor) x;have lm:=ZC x;have hM:=Mv.two h hy dG;have hr:=(Mv.start h).rd;have Wl:=hr.g.ix (i:=g) u0 u1;have AQ7:=(hr.g.IG g u0 u1).ix Y7 c0 Qo;have hcx:=hr.c.ix Ym c0 c1;have wQ:=zzt h Qs (i:=g) (bs:=[]) u0 Qo c0 Qo (j:=0) (k:=5) Qd;have hcr:=mC.w.cu c c0 c1;have sM:decide ((gi W.IF c).cur>=0)=true->(gi W.IF c).cur<(W.tasks.length:Int):=λ_=>by omega
 have hT:Z1 W.IE (Us W g c x).IE:=J5 u0 u1
 have hE:(decide ((gi W.IF c).cur>=0)&&Pu (Us W g c x).IE g (gi W.tasks (gi W.IF c).cur).group)=zk2 (Us W g c x) g c:=by
  unfold zk2;show _=(decide ((gi W.IF c).cur>=0)&&TQ 3 (Us W g c x).IE g (Q9 W (gi W.IF c).cur).group)
  by_cases hc:(gi W.IF c).cur>=0
  ·rw[zw7 (hT.tree mC.w.a.tree) (by rw[hT.fD]; exact hu) (by rw[hT.fD]; exact hcu c c0 c1 hc)]; rfl
  ·rw[decide_eq_false hc]; rfl
 have hlen:(Us W g c x).IE.length=W.IE.length:=hT.len;have vA:Fr W (Us W g c x):=(UW u0 u1).fr;have eW:Qa (Us W g c x) m=Qa W m:=UL vA;have eE:Qa (Ry (Us W g c x) c) m=Qa W m:=UL (vA.trans (BU _ _));refine⟨Wl,_,_,_,hr.g.RF u0 u1,AQ7,_,_,_,_,_,(hr.g.IG g u0 u1) c c0 Qo,λb2 cN=>⟨λg1 wr hx=>⟨rfl,?_⟩,λg1=>⟨λg2=>?_,λg2=>?_⟩⟩⟩
 ·have g1:(Qb W g c).w=x:=Iz g1;unfold Lg;rw[E' g1];exact(Mv.start h).R5 hx
 ·have wY:zeb W g c x=⟨(Qb W g c).floor,(Qb W g c).on,(Qb W (gi W.IE g).parent c).floor+Y1 ((Qb W g c).v-(Qb W (gi W.IE g).parent c).floor) x,x,(Qb W g c).sum⟩:=by
   unfold zeb;rw[E' (show (Qb W g c).on=true from g2)]
  have SI:=zcx mC h hk hu rfl c0 c1 (zeb W g c x);rw[wY] at SI;have aB:=((hM.add cN).SH SI (NG Qo));have hV:Rx W g c ⟨(Qb W g c).floor,(Qb W g c).on,(Qb W (gi W.IE g).parent c).floor+Y1 ((Qb W g c).v-(Qb W (gi W.IE g).parent c).floor) x,x,(Qb W g c).sum⟩=Us W g c x:=by unfold Us; rw[wY]
  rw[hV] at aB;have vD:=aB.rd;have CN3:=aB.close;have cD:=CN3.rd;refine⟨Wl,_,hr.g.parent u0 u1,hr.g.ix p0 p1,_,_,_,hr.g.RF p0 p1,(hr.g.IG _ p0 p1).ix Y7 c0 Qo,_,zno.f (hr.g.IG _ p0 p1) c0 Qo (j:=0) rfl,⟨by show _<=(Qb W g c).v-(Qb W (gi W.IE g).parent c).floor; omega,by show (Qb W g c).v-(Qb W (gi W.IE g).parent c).floor<=_; omega⟩,_,K8,⟨by show _<=(Qb W (gi W.IE g).parent c).floor+Y1 ((Qb W g c).v-(Qb W (gi W.IE g).parent c).floor) x; omega,by show (Qb W (gi W.IE g).parent c).floor+Y1 ((Qb W g c).v-(Qb W (gi W.IE g).parent c).floor) x<=_; omega⟩,Wl,_,_,_,hr.g.RF u0 u1,AQ7,wQ,hcx,(gi W.IF c).cur,?_⟩;refine⟨z2e.f cD.c c0 c1 (j:=1) rfl,λgc=>cD.t.ix QF (Ot gc) (sM gc),_,λgc=>zxd.f cD.t (Ot gc) (sM gc) (j:=1) rfl,_,λgc=>by rw[<-hlen]; exact Oo cD.g (by have:=Zl; omega),λgc M' Rb iB=>?_,λgc Rq Rb=>?_⟩
  ·have he:zk2 (Us W g c x) g c=true:=by rw[<-hE]; exact gc
   have kQ:=aB.step (Rb.of_nil);have RD:=ZF kQ.own c0 c1;rw[eW,eE] at RD;refine I4 RD ?_;rintro e wv ⟨jG,SE⟩;refine⟨_,_,_,_,_,_,_,_,_,_,jG,kQ.kept SE iB,λO' SZ=>⟨rfl,?_⟩⟩;unfold Lg;rw[C' (show ¬(Qb W g c).w=x from ne_of_beq_false g1),E' he];exact((kQ.call SE iB).step SZ).close
  ·have he:zk2 (Us W g c x) g c=false:=by rw[<-hE]; exact gc
   refine⟨rfl,?_⟩;unfold Lg;rw[C' (show ¬(Qb W g c).w=x from ne_of_beq_false g1),C' (by rw[he]; decide)];exact(aB.step Rb.of_nil).close
 ·have wY:zeb W g c x=⟨(Qb W g c).floor,(Qb W g c).on,(Qb W g c).v,x,(Qb W g c).sum⟩:=by
   unfold zeb;rw[C' (by rw[show (Qb W g c).on=false from g2]; decide)]
  have SI:=zcx mC h hk hu rfl c0 c1 (zeb W g c x);rw[wY] at SI;have aB:=((hM.add cN).SH SI (NG Qo));have hV:Rx W g c ⟨(Qb W g c).floor,(Qb W g c).on,(Qb W g c).v,x,(Qb W g c).sum⟩=Us W g c x:=by unfold Us; rw[wY]
  rw[hV] at aB;have vD:=aB.rd;have CN3:=aB.close;have cD:=CN3.rd;refine⟨Wl,_,_,_,hr.g.RF u0 u1,AQ7,wQ,hcx,(gi W.IF c).cur,?_⟩;refine⟨z2e.f cD.c c0 c1 (j:=1) rfl,λgc=>cD.t.ix QF (Ot gc) (sM gc),_,λgc=>zxd.f cD.t (Ot gc) (sM gc) (j:=1) rfl,_,λgc=>by rw[<-hlen]; exact Oo cD.g (by have:=Zl; omega),λgc M' Rb iB=>?_,λgc Rq Rb=>?_⟩
  ·have he:zk2 (Us W g c x) g c=true:=by rw[<-hE]; exact gc
   have kQ:=aB.step (Rb.of_nil);have RD:=ZF kQ.own c0 c1;rw[eW,eE] at RD;refine I4 RD ?_;rintro e wv ⟨jG,SE⟩;refine⟨_,_,_,_,_,_,_,_,_,_,jG,kQ.kept SE iB,λO' SZ=>⟨rfl,?_⟩⟩;unfold Lg;rw[C' (show ¬(Qb W g c).w=x from ne_of_beq_false g1),E' he];exact((kQ.call SE iB).step SZ).close
  ·have he:zk2 (Us W g c x) g c=false:=by rw[<-hE]; exact gc
   refine⟨rfl,?_⟩;unfold Lg;rw[C' (show ¬(Qb W g c).w=x from ne_of_beq_false g1),C' (by rw[he]; decide)];exact(aB.step Rb.of_nil).close
theorem Fm{g x:Int}(h:Xg [] w W m)(hl:XM W) :
  Cz VQ #[.agg (Qa W m).toArray,I g,I x] w λe w'=>∃v,e=.returned v/\QU (Xi W (znl W g x) (zw9 W g x)) w v w':=by
 refine F2 _ _ _ _ _ _ _ _ _ _ g x (R:=λv w'=>QU (Xi W (znl W g x) (zw9 W g x)) w v w') ?_;intro y hy y1 dG;refine⟨_,JY,λwr R2 We=>?_⟩;refine I4 (VD (g:=g) (ok:=YQ x 1 20) (h.ext R2) hl) ?_;rintro e wv (⟨hW,he,SE⟩ | ⟨hW,m',he,hM,SE⟩)
 ·exact⟨_,_,_,_,_,_,_,_,_,_,_,he,Qe SE We,λ_ M' Rb=>QU.bad hW ((R2.trans SE).fresh Rb λz hm=>.inl (YW hy dG z hm)),λg=>by simp at g⟩
 have hK:=Wk.begin hy dG R2 We hM SE;refine⟨_,_,_,_,_,_,_,_,_,_,_,he,Qe SE We,λg1 M' Rb=>QU.no hW (by simpa[znl] using g1) (hK.step Rb) rfl,λg1=>?_⟩;have hb:znl W g x=0:=by simpa[znl] using g1
 have hr:=hK.rd;obtain⟨C39,hz,hu,AF6,_,sf,hcu,hT⟩:=zxa hW hb;have hxr:=Qu.1 C39;obtain⟨u0,u1,_⟩:=Q5.1 hu;have cP:W.IE.length=8:=by have:=sf.w.a.gl; rwa[hT.len] at this
 have Wl:=hr.g.ix (i:=g) u0 u1;have SI:Wk 8 [y,y1] w (R9 wv m'.gO (Int.toNat g*14+3) [I x]) (Rf W g (KL W g x)) m':=hK.R9 (hK.own.Ap0 u0 Qo (g:=KL W g x) rfl rfl rfl (j:=3) (vs:=[I x]) rfl Qs) B2;have wQ:=zef hK.own hK.nb (i:=g) u0 Qo (j:=3) (k:=1) Qd;have e0:Qa (Rf W g (KL W g x)) m'=Qa W m':=by simp[Qa,Rf]
 have huV:Q6 (Rf W g (KL W g x)).IE g=true:=by rw[hT.fD]; exact hu
 have tP:(Rf W g (KL W g x)).IF.length=W.IF.length:=rfl;have hE:zw9 W g x=Qg (H1 (Rf W g (KL W g x)) g x W.IF.length):=rfl;rw[hE];have hc4:=sf.w.a.c2;generalize Rf W g (KL W g x)=V at SI sf hcu hT e0 huV tP hc4;refine⟨Wl,wQ,λvs w1=>∃(k:Nat),vs=I (k:Int)::Qa W m'/\k<=W.IF.length/\Wk 8 [y,y1] w w1 (H1 V g x k) m',Zt W.IF.length 0,λw1 wB _=>⟨0,rfl,Ie _,SI.step wB⟩,?_⟩;rintro c1 l Se Sm Sv Sl Sq Su Sf Sg Sj Rr iB ⟨k,aT,hk,iL⟩;obtain⟨hS,hf,hc2⟩:=zk3 sf (I3 _) hcu huV hz hxr.1 hxr.2 k Qo;have Ww:H1 V g x (k+1)=Lg (H1 V g x k) g (k:Int) x:=rfl;have tX:k=W.IF.length->H1 V g x W.IF.length=H1 V g x k:=λe=>by rw[e]
 have eU:Qa (H1 V g x k) m'=Qa W m':=(UL hf).trans e0;have hcU:=hf.c;have huU:Q6 (H1 V g x k).IE g=true:=by rw[hf.g.fD]; exact huV
 simp only[Qa,I5,I6,Iw,true_and,and_true] at aT;obtain⟨rfl,rfl,⟨rfl,rfl,rfl⟩,⟨rfl,rfl,rfl⟩,rfl,rfl,rfl⟩:=aT;generalize H1 V g x k=U at iL hS hf hc2 Ww tX eU hcU huU;refine⟨λIU Rq Rb gY=>?_,λRN RQ Sy mM=>?_⟩
 ·have IU:=Ot IU;have oY:=iL.step Rb;have RD:=Kt oY.own hS (I3 _) (by simp only[Qj]; decide) hc2 (g:=g) (c:=(k:Int)) (x:=x) huU hz Qo Qo;rw[eU] at RD;refine I4 RD ?_;rintro e S3 ⟨gP,jL⟩;refine⟨_,_,_,_,_,_,_,_,_,_,gP,oY.kept jL gY,⟨Qo,Qo⟩,λRw SZ _=>⟨⟨k+1,rfl,Qo,?_⟩,?_⟩⟩
  ·rw[Ww];exact(oY.SH jL gY).step SZ
  ·simp only[Zt,Xe,ZQ,Ig]; omega
 ·have RN:=Ou RN;rw[tX Qo];have dV:=iL.step Sy;have RD:=Qx dV.own hS.w (by simp only[Qj]; decide) (by simp only[Qj]; decide) dV.base;rw[eU] at RD;refine I4 RD ?_;rintro e2 Rr ⟨m2,aT,SE⟩;exact⟨_,_,_,_,_,_,_,_,_,_,aT,dV.kept SE mM,λRw Sy=>QU.ok hW hb ((dV.SH SE mM).step Sy)⟩
section
variable {pb:Nat}
end
end
def z2n(W:Q7)(t b c:Int):Bool:=(Fy W c==0)||decide (Fy W c+Qf (Q9 W t).nice<=Fy W b-Qf (Q9 W t).nice)
def zg0(W:Q7)(b c:Int)(t:Nat):Bool:=(((Q9 W (t:Int)).R3==b)&&V7 W (t:Int) c)&&z2n W (t:Int) b c
def P1(W:Q7)(b c:Int):Nat->Nat->Int
 | 0,_ => -1
 | f+1,j=>if zg0 W b c j=true then (j:Int) else P1 W b c f (j+1)
theorem zr5{W:Q7}{b c:Int}{f j:Nat}(h:zg0 W b c j=true):P1 W b c (f+1) j=(j:Int):=E' h
theorem zod{W:Q7}{b c:Int}{f j:Nat}(h:zg0 W b c j=false):P1 W b c (f+1) j=P1 W b c f (j+1):=C' (by rw[h]; decide)
noncomputable def zmp(W:Q7)(c:Int):Nat->Nat->Int
 | 0,_ => -1
 | f+1,k=>if OT W c (k:Int)<0 then zmp W c f (k+1) else if P1 W (OT W c (k:Int)) c 12 0<0 then zmp W c f (k+1) else P1 W (OT W c (k:Int)) c 12 0
noncomputable def KC(W:Q7)(c:Int):Int:=zmp W c (z6 (W.IF.length:Int)).toNat 0
theorem zmr{W:Q7}{c:Int}{f k:Nat}(h:OT W c (k:Int)<0):zmp W c (f+1) k=zmp W c f (k+1):=E' h
theorem zmq{W:Q7}{c:Int}{f k:Nat}(h:P1 W (OT W c (k:Int)) c 12 0<0):zmp W c (f+1) k=zmp W c f (k+1):=by
 simp only[zmp]
 by_cases h0:OT W c (k:Int)<0
 ·rw[E' h0]
 ·rw[C' h0,E' h]
theorem zms{W:Q7}{c:Int}{f k:Nat}(h0:¬OT W c (k:Int)<0)(h:¬P1 W (OT W c (k:Int)) c 12 0<0):zmp W c (f+1) k=P1 W (OT W c (k:Int)) c 12 0:=by
 simp only[zmp];rw[C' h0,C' h]
theorem zcz{W:Q7}(wp:Je W)(c:Int):0<=Fy W c/\Fy W c<=240:=by
 have:=VZ (NY W c) W.tasks.length;have ht:=wp.a.t;unfold Fy;omega
section
variable {W:Q7}{m:MW}{w:Wo}{bs:List Nat}{p:OA}
theorem zcr{t b c:Int}(h:Xg bs w W m)(wp:Je W)(t0:0<=t)(t1:t<(W.tasks.length:Int)):PX bs Ph #[.agg (Qa W m).toArray,I t,I b,I c] w (.bool (z2n W t b c)):=
 zdf _ _ _ _ _ _ _ _ _ _ t b c λwr hx=>by
  have h:=(h.ext hx).less (cs:=[]) Qs;have r1:=zcz wp c;have r2:=zcz wp b;have r3:0<=Qf (gi W.tasks t).nice/\Qf (gi W.tasks t).nice<=20:=Jz _;exact λ_ _=>⟨_,Tz h wp,h.t.ix QF t0 t1,_,h.t.f t0 t1 (j:=3) rfl,_,ZX,λ_=>⟨Qo,Qo⟩,_,λ_=>Tz h wp,λ_=>⟨Qo,Qo⟩,rfl⟩
theorem zcs{c:Int}(h:Xg bs w W m)(wp:Je W)(c0:0<=c)(c1:c<(W.IF.length:Int)):PX bs Pi #[.agg (Qa W m).toArray,I c] w (I (KC W c)):=
 zdh _ _ _ _ _ _ _ _ _ _ c λwr hx=>by
  have h:=(h.ext hx).less (cs:=[]) Qs;have hlv:=zqj (W.IF.length:Int);have fH:=wp.a.t;intro _ _;refine XL 2 0 rfl (λk=>(k:Int)<=z6 (W.IF.length:Int)/\zmp W c ((z6 (W.IF.length:Int)).toNat-k) k=KC W c) ⟨hlv.1,rfl⟩ λk ⟨hk,hI⟩=>⟨_,PF,λIU=>?_,λRN=>?_⟩
  ·have IU:=Ot IU;have ek:(z6 (W.IF.length:Int)).toNat-k=((z6 (W.IF.length:Int)).toNat-(k+1))+1:=Qo;rw[ek] at hI;have nxt:zmp W c ((z6 (W.IF.length:Int)).toNat-(k+1)) (k+1)=KC W c->((k+1:Nat):Int)<=z6 (W.IF.length:Int)/\zmp W c ((z6 (W.IF.length:Int)).toNat-(k+1)) (k+1)=KC W c:=λhp=>⟨Qo,hp⟩
   refine⟨_,Fk,_,Fp h wp c0 c1,λg=>⟨⟨Qo,Qo⟩,QI Qo (nxt ?_)⟩,λg=>?_⟩
   ·rw[<-hI,zmr (show OT W c (k:Int)<0 from Ot g)]
   ·have g:¬OT W c (k:Int)<0:=Ou g;refine XL 12 0 rfl (λj=>j<=12/\P1 W (OT W c (k:Int)) c (12-j) j=P1 W (OT W c (k:Int)) c 12 0) ⟨Ie _,rfl⟩ λj ⟨hj,hF⟩=>⟨λRM=>?_,λbS=>?_⟩
    ·have RM:=Ot RM;have wL:j<12:=Qo;rw[show 12-j=(12-(j+1))+1 by omega] at hF;refine⟨h.t.ix QF Qo RM,_,h.t.f Qo RM (j:=2) rfl,_,λ_=>Lr h wp Qo RM c0 c1,_,λ_=>zcr h wp Qo RM,λg2=>?_,λg2=>⟨⟨Qo,Qo⟩,QI wL ⟨Qo,?_⟩⟩⟩
     ·have g2:zg0 W (OT W c (k:Int)) c j=true:=g2;rw[zr5 g2] at hF;rw[<-hI,zms g (by rw[<-hF]; omega),<-hF]
     ·have g2:zg0 W (OT W c (k:Int)) c j=false:=g2;rw[<-hF,zod g2]
    ·have bS:=Ou bS;have:j=12:=Qo;subst this;refine⟨⟨Qo,Qo⟩,QI Qo (nxt ?_)⟩;rw[<-hI,zmq (by rw[<-hF]; show (-1:Int)<0; decide)]
  ·have RN:=Ou RN;have:(z6 (W.IF.length:Int)).toNat-k=0:=Qo;rw[this] at hI;rw[<-hI]; rfl
theorem zo4(W:Q7)(c:Int) : -1<=KC W c:=by
 have hf:∀(b:Int) (f j:Nat),-1<=P1 W b c f j:=λb f=>by
  induction f with
  | zero=>intro j; exact I3 _
  | succ f ih=>
   intro j;simp only[P1];split
   ·omega
   ·exact ih _
 have hp:∀(f k:Nat),-1<=zmp W c f k:=λf=>by
  induction f with
  | zero=>intro k; exact I3 _
  | succ f ih=>
   intro k;simp only[zmp];split
   ·exact ih _
   ·split
    ·exact ih _
    ·exact hf _ _ _
 exact hp _ _
end
def zfd(W:Q7)(g:Int)(j:Nat):Int:=zb9 W g (j:Int)
theorem Mf(W:Q7)(g c:Int)(h:W.tasks.length=12):0<=zb9 W g c/\zb9 W g c<=240:=by
 have:=VZ (zb8 W g c) W.tasks.length;unfold zb9;omega
def z1h(a b:Int):Int:=if a>b then a else b
def Ms(W:Q7)(g c:Int):Int:=
 if XI (zfd W g) W.IF.length=0 then (gi W.IE g).weight else z1h 1 (Int.tdiv ((gi W.IE g).weight*zb9 W g c) (XI (zfd W g) W.IF.length))
theorem z0u{a b:Int}(ha:0<=a)(ha2:a<=100000)(hb:0<b):Qm .i64 (Int.tdiv a b):=by
 have h1:=Int.tdiv_nonneg ha (Int.le_of_lt hb);have h2:Int.tdiv a b<=a:=by rw[Int.tdiv_eq_ediv_of_nonneg ha]; exact Int.ediv_le_self _ ha
 exact⟨Qo,Qo⟩
theorem zf0{a b:Int}{w:Wo}{bs:List Nat}:PX bs YR #[I a,I b] w (I (z1h a b)):=TA
section
variable {W:Q7}{m:MW}{w:Wo}{bs:List Nat}{p:OA}
theorem zpd{g c:Int}(wp:TU W)(hu:Q6 W.IE g=true):0<=(gi W.IE g).weight*zb9 W g c/\(gi W.IE g).weight*zb9 W g c<=4800:=by
 have hw:=(wp.a.u hu).2.2;have hi:=Mf W g c wp.a.t;have w1:=hw.w1;have w2:=hw.w2;refine⟨Int.mul_nonneg Qo hi.1,?_⟩;have:=Int.mul_le_mul w2 hi.2 hi.1 (show (0:Int)<=20 by decide);omega
theorem BD{g:Int}(wp:TU W)(k:Nat):0<=XI (zfd W g) k/\XI (zfd W g) k<=(k:Int)*240:=VZ (λj=>Mf W g (j:Int) wp.a.t) k
theorem Cm{g c:Int}(h:Xg bs w W m)(wp:TU W)(hl:XM W)(hu:Q6 W.IE g=true):PX bs Og #[.agg (Qa W m).toArray,I g,I c] w (I (Ms W g c)):=
 CG _ _ _ _ _ _ _ _ _ _ g c λwr hx=>by
  have h:=(h.ext hx).less (cs:=[]) Qs;have tP:=wp.a.c2;obtain⟨u1,u2,_⟩:=Q5.1 hu;intro _ _;refine P3 W.IF.length 0 rfl (λx k=>k<=W.IF.length/\x=XI (zfd W g) k) ⟨Ie _,rfl⟩ λx k ⟨hk,R2⟩=>⟨λIU=>?_,λRN=>⟨λg2=>⟨h.g.ix u1 u2,_,(h.g.cells g u1 u2).get 3 _ rfl,?_⟩,λg2=>?_⟩⟩
  ·have IU:=Ot IU;have hr:=BD (g:=g) wp k;have hi:=Mf W g (k:Int) wp.a.t;exact⟨_,Ku h wp hl hu,⟨Qo,Qo⟩,⟨Qo,Qo⟩,QO Qo ⟨Qo,by simp only[XI]; rw[R2]; rfl⟩⟩
  ·have RN:=Ou RN;have:k=W.IF.length:=Qo;subst this;unfold Ms;rw[E' (by rw[<-R2]; simpa using g2)]
  ·have RN:=Ou RN;have:k=W.IF.length:=Qo;subst this;have hr:=BD (g:=g) wp W.IF.length;have hp:=zpd (c:=c) wp hu;have gE:x≠0:=by simpa using g2
   refine⟨h.g.ix u1 u2,_,(h.g.cells g u1 u2).get 3 _ rfl,zb9 W g c,Ku h wp hl hu,⟨Qo,Qo⟩,⟨gE,z0u hp.1 Qo Qo⟩,_,zf0,?_⟩;unfold Ms;rw[C' (by rw[<-R2]; exact gE),R2]
end
theorem zu2{gs:List ZV}(ht:Yk gs){g:Int}:∀h:Int,Q6 gs h=true->g∈Zc gs h->TQ 3 gs g h=true:=
 Mo ht (λhx=>by rw[show Zc gs 0=[] from Zr _ _] at hx; cases hx) λh hu hz ih hx=>by
  by_cases e:h=g
  ·subst e; simp[TQ]
  ·rw[zhg ht hu hz e];rw[YP ht hu hz] at hx;rcases Ij.1 hx with e2 | e2
   ·exact Is e2.symm e
   ·exact ih e2
theorem zq7(W:Q7)(g c x:Int):TM W (Lg W g c x):=by
 unfold Lg;split
 ·exact TM.refl _
 ·split
  ·exact(zd3 _ _ _ _).trans (Hl _ _)
  ·exact zd3 _ _ _ _
theorem TI.wei{W:Q7}(p:TI W){g c x:Int}(hu:Q6 W.IE g=true)(hz:g≠0)(c0:0<=c)(c1:c<(W.IF.length:Int)):TI (Lg W g c x):=by
 obtain⟨u0,u1,_⟩:=Q5.1 hu;have hl:=p.a.gl;have hsl:=p.a.sl hu;have uD:c<((gi W.IE g).IG.length:Int):=Qo;have e:∀{i j:Int},0<=i->0<=j->Qb (Us W g c x) i j=if g=i/\c=j then zeb W g c x else Qb W i j:=λhi hj=>Jw u0 u1 c0 uD hi hj
 have hT:Z1 W.IE (Us W g c x).IE:=J5 u0 u1
 have ef:∀{i j:Int},0<=i->0<=j->(Qb (Us W g c x) i j).floor=(Qb W i j).floor:=λ{i j} hi hj=>by
  rw[e hi hj]; split
  ·rename_i h; obtain⟨rfl,rfl⟩:=h; rfl
  ·rfl
 have hpu:=p.a.up hu hz;have p0:=(Q5.1 hpu).1
 have same:∀{i j:Int},Q6 W.IE i=true->i≠0->0<=j->¬(g=i/\c=j)->VY W i j->VY (Us W g c x) i j:=λ{i j} iu iz j0 hn h=>by
  unfold VY at h ⊢;rw[hT.p,ef (Q5.1 (p.a.up iu iz)).1 j0,e (Q5.1 iu).1 j0,C' hn];exact h
 have hA:PreA (Us W g c x):=by
  refine⟨p.a.Rx u0 Qo,λt t0 t1=>?_,λt t0 t1 n=>p.l t t0 t1 n,λi j iu j0 j1=>?_⟩
  ·rcases p.t t t0 t1 with h | ⟨n,h⟩
   ·exact .inl h
   ·exact .inr ⟨n,h.st,by rw[hT.fD]; exact h.g,h.n,h.m,h.m0,h.s,h.u,h.l1,h.l2,λh1=>by
     show (Qb (Us W g c x) (Q9 W t).group (Q9 W t).R3).floor<=(Q9 W t).v/\(Q9 W t).v-(Qb (Us W g c x) (Q9 W t).group (Q9 W t).R3).floor<=_;rw[ef (Q5.1 h.g).1 (p.l t t0 t1 n).1]; exact h.f h1⟩
  ·rw[hT.fD] at iu;have hs:=p.s i j iu j0 j1;have i0:=(Q5.1 iu).1
   by_cases h:g=i/\c=j
   ·obtain⟨rfl,rfl⟩:=h;refine⟨by rw[e i0 j0,E' ⟨rfl,rfl⟩]; exact hs.s,λh0=>Is h0 hz,λ_ ho=>?_⟩;rw[e i0 j0,E' ⟨rfl,rfl⟩] at ho;have ho:(Qb W g c).on=true:=ho;unfold VY;rw[hT.p,ef p0 j0,e i0 j0,E' ⟨rfl,rfl⟩];simp only[zeb];rw[E' ho];have:=ZG ((Qb W g c).v-(Qb W (gi W.IE g).parent c).floor) x;omega
   ·refine⟨by rw[e i0 j0,C' h]; exact hs.s,by rw[e i0 j0,C' h]; exact hs.root,λiz ho=>?_⟩;rw[e i0 j0,C' h] at ho;exact same iu iz j0 h (hs.st iz ho)
 have hC:∀d:Int,0<=d->d<(W.IF.length:Int)->(d=c->zk2 (Us W g c x) g c=false)->z0m (Us W g c x) d:=λd d0 d1 hd=>by
  have h:=p.c d d0 d1;refine⟨h.b,h.i,h.c1,h.c2,h.no,h.yes,λh0 h1 h2=>?_⟩;obtain⟨q1,q2⟩:=h.q h0 h1 h2
  have hcu:Q6 W.IE (Q9 W (gi W.IF d).cur).group=true:=by
   rcases p.t _ h0 h.c2 with hz | ⟨_,hx⟩
   ·have h1:(Q9 W (gi W.IF d).cur).state=1:=h1;have h3:(Q9 W (gi W.IF d).cur).state=0:=hz.1;rw[h3] at h1; cases h1
   ·exact hx.g
  refine⟨by show (Q9 W (gi W.IF d).cur).v-(Qb (Us W g c x) (Q9 W (gi W.IF d).cur).group d).floor<=_; rw[ef (Q5.1 hcu).1 d0]; exact q1,λy hy=>?_⟩;have hy:y∈Zc W.IE (Q9 W (gi W.IF d).cur).group:=by rw[<-TF hT]; exact hy
  obtain⟨yu,yz⟩:=YV p.a.tree _ hcu y hy;have y0:=(Q5.1 yu).1
  have hn:¬(g=y/\c=d):=by
   rintro⟨rfl,rfl⟩;have h3:=hd rfl;unfold zk2 at h3;have h4:=zu2 (hT.tree p.a.tree) (g:=g) (Q9 W (gi W.IF c).cur).group (by rw[hT.fD]; exact hcu) (by rw[TF hT]; exact hy);rw[show (gi (Us W g c x).IF c).cur=(gi W.IF c).cur from rfl,Ii (show (gi W.IF c).cur>=0 from h0),Bool.true_and] at h3;rw[show (Q9 (Us W g c x) (gi W.IF c).cur).group=(Q9 W (gi W.IF c).cur).group from rfl,h4] at h3;cases h3
  obtain⟨s1,s2⟩:=q2 y hy;refine⟨same yu yz d0 hn s1,?_⟩;rw[hT.p,ef (Q5.1 (p.a.up yu yz)).1 d0,e y0 d0,C' hn];exact s2
 unfold Lg;split
 ·exact p
 ·split
  ·refine⟨hA.Ry c0 c1,λd d0 d1=>?_⟩;have hlen:(YtnclplgaicdapaaGreatDoor.Ry (Us W g c x) c).IF.length=W.IF.length:=H';have mR:gi (YtnclplgaicdapaaGreatDoor.Ry (Us W g c x) c).IF d=if c=d then Ja (gi W.IF c) else gi W.IF d:=QG _ _ c0 c1 d0;rw[hlen] at d1
   by_cases ed:c=d
   ·subst ed;have h:=p.c c c0 c1;rw[E' rfl] at mR;have n1:(Ja (gi W.IF c)).cur = -1:=rfl;exact⟨by rw[mR]; exact h.b,by rw[mR]; exact h.i,by rw[mR,n1]; exact I3 _,by rw[mR,n1]; decide,λ_=>by rw[mR]; rfl,λh=>by rw[mR,n1] at h; omega,λh=>by rw[mR,n1] at h; omega⟩
   ·have h:=hC d d0 d1 λhd=>Is hd.symm ed
    rw[C' ed] at mR;exact⟨by rw[mR]; exact h.b,by rw[mR]; exact h.i,by rw[mR]; exact h.c1,by rw[mR]; exact h.c2,by rw[mR]; exact h.no,by rw[mR]; exact h.yes,by rw[mR]; exact h.q⟩
  ·rename_i he;exact⟨hA,λd d0 d1=>hC d d0 d1 λ_=>by simpa using he⟩
theorem SW.tu{K:Int}{W:Q7}(h:SW K W):TU W:=⟨h.a,λt0 t1 hs=>h.li t0 t1 hs⟩
theorem zra{f:Nat->Int}(h:∀j,0<=f j):∀m:Nat,0<=XI f m
 | 0=>I3 _
 | m+1=>by
  have ih:=zra h m;have:=h m;simp only[XI];omega
theorem zq9{f:Nat->Int}(h:∀j,0<=f j){k:Nat}:∀n:Nat,k<n->f k<=XI f n
 | 0,hk=>Is hk (Nat.not_lt_zero k)
 | n+1,hk=>by
  simp only[XI];have hn:=zra h
  by_cases e:k=n
  ·subst e; have:=hn k; omega
  ·have:=zq9 h (k:=k) n Qo;have:=h n;omega
theorem zm6{W:Q7}(wp:TU W){g c:Int}(hu:Q6 W.IE g=true)(c0:0<=c)(c1:c<(W.IF.length:Int)):1<=Ms W g c/\Ms W g c<=(gi W.IE g).weight:=by
 have hg:=(wp.a.u hu).2.2;have w1:=hg.w1;have hi:=Mf W g c wp.a.t
 have qB:zb9 W g c<=XI (zfd W g) W.IF.length:=by
  have:=zq9 (f:=zfd W g) (λj=>(Mf W g (j:Int) wp.a.t).1) (k:=c.toNat) W.IF.length Qo;unfold zfd at this
  rwa[show ((c.toNat:Nat):Int)=c by omega] at this
 unfold Ms;split
 ·omega
 ·rename_i hn
  have hp:0<XI (zfd W g) W.IF.length:=by
   have:=(BD (g:=g) wp W.IF.length).1;omega
  have hq:Int.tdiv ((gi W.IE g).weight*zb9 W g c) (XI (zfd W g) W.IF.length)<=(gi W.IE g).weight:=by
   rw[Int.tdiv_eq_ediv_of_nonneg (Int.mul_nonneg Qo hi.1)];refine Int.ediv_le_of_le_mul hp ?_;exact Int.mul_le_mul_of_nonneg_left qB Qo
  unfold z1h
  split <;> omega
theorem zm5{W:Q7}(wp:TU W){g c:Int}(hu:Q6 W.IE g=true)(c0:0<=c)(c1:c<(W.IF.length:Int)):1<=Ms W g c/\Ms W g c<=20:=by
 have h:=zm6 wp hu c0 c1;have:=(wp.a.u hu).2.2.w2;omega
def MU(W:Q7)(c:Int):Nat->Q7
 | 0=>W
 | k+1=>if k≠0/\(gi (MU W c k).IE (k:Int)).used=true then Lg (MU W c k) (k:Int) c (Ms (MU W c k) (k:Int) c) else MU W c k
def VI(W:Q7)(c:Int):Q7:=Qg (MU W c 8)
noncomputable def TO(W:Q7)(c:Int):Int:=KC (VI W c) c
noncomputable def zi5(W:Q7)(c:Int):Q7:=if TO W c<0 then VI W c else Qg (VW (VI W c) (TO W c) (Q9 (VI W c) (TO W c)).group c)
noncomputable abbrev ER(W:Q7)(c:Int):Int:=VJ W c true 0
structure zzw (W V:Q7):Prop where
 sf:SF Ql (Ql+Qj) V
 fr:Fr W V
 cu:Di V
 pre:TI V
 sta:TM W V
theorem zi4{W:Q7}(wp:Je W)(hr:Lj W){c:Int}(c0:0<=c)(c1:c<(W.IF.length:Int)):∀k:Nat,k<=8->zzw W (MU W c k)
 | 0,_=>⟨KI (PH wp hr),Fr.refl _,zp5 wp,XB wp,TM.refl _⟩
 | k+1,hk=>by
  have ih:=zi4 wp hr c0 c1 k Qo;simp only[MU];split
  ·rename_i h;have hl:=ih.sf.w.a.gl;have hu:Q6 (MU W c k).IE (k:Int)=true:=Q5.2 ⟨Qo,Qo,h.2⟩;have uD:c<((MU W c k).IF.length:Int):=by rw[ih.fr.c]; exact c1
   have hs:=zm5 ih.sf.w.tu hu c0 uD;obtain⟨a,b,d⟩:=zrh ih.sf (I3 _) ih.cu hu Qo c0 uD hs.1 hs.2;exact⟨a,ih.fr.trans b,d,ih.pre.wei hu Qo c0 uD,ih.sta.trans (zq7 _ _ _ _)⟩
  ·exact ih
theorem zi6{W:Q7}{c:Int}(hW:Qw W=true)(hb:ER W c=0):0<=c/\c<(W.IF.length:Int)/\zzw W (MU W c 8)/\Je (VI W c)/\SW (Ql+Qj+Vj) (VI W c)/\Fr W (VI W c):=by
 obtain⟨h1,_,_,h4⟩:=zjc hb;have wp:=Qh.1 hW;obtain⟨c0,c1⟩:=OD h1;have hB:=zi4 wp (Qh.1 h4) c0 c1 8 (I8 _);have hs:=UI hB.sf.w (by simp only[Qj]; decide);exact⟨c0,c1,hB,(zd0 hB.sf.w (by simp only[Qj]; decide) (by simp only[Qj,Vj]; decide) hB.pre (hB.sta.loc hB.fr.t (Vg wp))).1,hs.1,hB.fr.trans hs.2⟩
theorem zbx{W:Q7}{b c:Int}:∀f j:Nat,0<=P1 W b c f j->∃i:Nat,P1 W b c f j=(i:Int)/\j<=i/\i<j+f/\zg0 W b c i=true
 | 0,j,h=>by
  have:(0:Int)<=-1:=h;omega
 | f+1,j,h=>by
  simp only[P1] at h ⊢;split
  ·rename_i hp;exact⟨j,rfl,I8 _,Qo,hp⟩
  ·rename_i hp;rw[C' hp] at h;obtain⟨i,a,b',c',d⟩:=zbx f (j+1) h;exact⟨i,a,Qo,Qo,d⟩
theorem zhz{W:Q7}{c:Int}(h:¬KC W c<0):∃(i:Nat) (b:Int),KC W c=(i:Int)/\i<12/\zg0 W b c i=true:=by
 have key:∀f k:Nat,0<=zmp W c f k->∃(i:Nat) (b:Int),zmp W c f k=(i:Int)/\i<12/\zg0 W b c i=true:=λf=>by
  induction f with
  | zero=>intro k h; have:(0:Int)<=-1:=h; omega
  | succ f ih=>
   intro k h
   by_cases h0:OT W c (k:Int)<0
   ·rw[zmr h0] at h ⊢; exact ih _ h
   ·by_cases h1:P1 W (OT W c (k:Int)) c 12 0<0
    ·rw[zmq h1] at h ⊢; exact ih _ h
    ·rw[zms h0 h1] at h ⊢;obtain⟨i,a,_,b,d⟩:=zbx 12 0 h;exact⟨i,_,a,Qo,d⟩
 exact key _ _ (by have:=zo4 W c; unfold KC at *; omega)
theorem zze{W:Q7}{c:Int}(h:¬KC W c<0):0<=KC W c/\KC W c<12/\(Q9 W (KC W c)).state=1:=by
 obtain⟨i,b,e,hi,hp⟩:=zhz h;unfold zg0 at hp;simp only[A'] at hp;rw[e];exact⟨Qo,Qo,(NT hp.1.2).1⟩
theorem zyv{W V:Q7}(hl:XM W)(ha:WA V)(hT:Z1 W.IE V.IE):XM V:=by
 have h1:=ha.c2;have h2:=ha.t;have h3:=ha.gl;have hm:=Zl;have hn1:=ha.n1;have hn2:=ha.n2;refine⟨Qo,Qo,Qo,λi a b=>?_⟩;have hb:=Kj ha a Qo;have hg:=ha.grp i a Qo;refine⟨by rw[hT.n]; exact(hl.f i a (by rw[<-hT.len]; exact b)).nm,?_,Qo,Qo,Qo⟩
 cases hu:(gi V.IE i).used with
 | false=>rw[(hg.1 hu).ne]; exact⟨Qd,Qd⟩
 | true=>
  have hg:=hg.2 hu
  by_cases hq:(gi V.IE i).IQ.IZ=0
  ·rw[(hg.none hq).2.2]; exact⟨Qd,Qd⟩
  ·have:=hg.IQ hq;exact⟨Qo,Qo⟩
theorem zpz{W:Q7}{c:Int}(hW:Qw W=true)(hb:ER W c=0)(hp:¬TO W c<0):0<=TO W c/\TO W c<12/\(Q9 (VI W c) (TO W c)).state=1/\Q6 (VI W c).IE (Q9 (VI W c) (TO W c)).group=true/\SF (Ql+Qj+Vj) (Ql+Qj+Vj+Qj) (VI W c)/\
  SF (Ql+Qj+Vj) (Ql+Qj+Vj+Qj) (VW (VI W c) (TO W c) (Q9 (VI W c) (TO W c)).group c):=by
 obtain⟨c0,c1,_,wp,sw,fr⟩:=zi6 hW hb;obtain⟨p0,p1,ps⟩:=zze hp;have sf:SF (Ql+Qj+Vj) (Ql+Qj+Vj+Qj) (VI W c):=sw.sf.mono (I3 _) (by simp only[Qj]; omega);have hu:=(sw.t _ p0 p1 (show (Q9 (VI W c) (TO W c)).state≠0 by unfold TO; rw[ps]; decide)).1;exact⟨p0,p1,ps,hu,sf,(zab sf (I3 _) p0 p1 hu c0 (by rw[fr.c]; exact c1)).2⟩
section
variable {base pb:Nat}{W W':Q7}{m:MW}{w:Wo}
theorem Fj{c:Int}(h:Xg [] w W m)(hl:XM W) :
  Cz VN #[.agg (Qa W m).toArray,I c] w λe w'=>∃v,e=.returned v/\QU (Xi W (ER W c) (zi5 W c)) w v w':=by
 refine F0 _ _ _ _ _ _ _ _ _ _ c (R:=λv w'=>QU (Xi W (ER W c) (zi5 W c)) w v w') ?_;intro y hy y1 dG wr R2 We;have hm0:=Js;have vC:=hl.c;refine I4 (Zh (h.ext R2) hl) ?_;rintro e wv (⟨hW,he,SE⟩ | ⟨hW,m',he,hM,SE⟩)
 ·exact⟨_,_,_,_,_,_,_,_,_,_,_,he,Qe SE We,λg=>by simp at g,true,λg=>by simp at g,λ_ M' Rb=>QU.bad hW ((R2.trans SE).fresh Rb λz hm=>.inl (YW hy dG z hm)),λg=>by simp at g⟩
 have hK:=Wk.begin hy dG R2 We hM SE;have hr:=hK.rd;have wp:=Qh.1 hW;refine⟨_,_,_,_,_,_,_,_,_,_,_,he,Qe SE We,λ_=>⟨Qo,Qo⟩,XJ W c,λ_=>Qr,λg M' Rb=>?_,λg=>?_⟩
 ·have g:XJ W c=false:=by
   cases hc:XJ W c with
   | false=>rfl
   | true=>rw[hc] at g; split at g <;> simp at g
  have hb:ER W c=1:=by unfold ER VJ; rw[E' g]
  exact QU.no hW (by rw[hb]; decide) (hK.step Rb) hb
 have g:XJ W c=true:=by
  cases hc:XJ W c with
  | true=>rfl
  | false=>rw[hc] at g; simp at g
 obtain⟨c0,c1⟩:=OD g;refine⟨hr.c.ix Ym c0 c1,_,hr.c.f c0 c1 (j:=0) rfl,λg2 O' Rb=>?_,λg2=>⟨λg3 Rq Rb=>?_,λg3=>?_⟩⟩
 ·have g2:(gi W.IF c).up=false:=by simpa using g2
  have hb:ER W c=6:=by unfold ER VJ; rw[C' (by rw[g]; decide),E' (by rw[g2]; decide)]
  exact QU.no hW (by rw[hb]; decide) (hK.step Rb) hb
 ·have g2:(gi W.IF c).up=true:=by simpa using g2
  have cD:¬QM W=true:=λhr=>by rw[E' hr] at g3; simp at g3
  have hb:ER W c=10:=by unfold ER; rw[H5 g g2 rfl,E' (by simpa using cD)]
  rw[C' cD];exact QU.no hW (by rw[hb]; decide) (hK.step Rb) hb
 have g2:(gi W.IF c).up=true:=by simpa using g2
 have cD:QM W=true:=Ir λhr=>by rw[C' hr] at g3; simp at g3
 have hb:ER W c=0:=by unfold ER; rw[H5 g g2 rfl,C' (by rw[cD]; decide)]
 obtain⟨_,_,hB8,wpS,swS,frS⟩:=zi6 hW hb;refine⟨λvs w1=>∃k:Nat,vs=I (k:Int)::Qa W m'/\1<=k/\k<=8/\Wk 8 [y,y1] w w1 (MU W c k) m',Zt 8 0,λw1 wB _=>⟨1,rfl,Qd,Qd,hK.step wB⟩,?_⟩;rintro g1 l Se Sm Sv Sl Sq Su Sf Sg Sj Rr iB ⟨k,aT,hk1,hk8,hKk⟩;have hOk:=zi4 wp (Qh.1 cD) c0 c1 k hk8;have e0:Qa (MU W c k) m'=Qa W m':=UL hOk.fr;have Ww:MU W c (k+1)=if k≠0/\(gi (MU W c k).IE (k:Int)).used=true then Lg (MU W c k) (k:Int) c (Ms (MU W c k) (k:Int) c) else MU W c k:=rfl;have cP:=hOk.sf.w.a.gl;have By3:=wp.a.gl;simp only[Qa,I5,I6,Iw,true_and,and_true] at aT;obtain⟨rfl,rfl,⟨rfl,rfl,rfl⟩,⟨rfl,rfl,rfl⟩,rfl,rfl,rfl⟩:=aT;refine⟨λIU=>?_,λRN S6 AF8 pD=>?_⟩
 ·have IU:=Ot IU;have hrk:=hKk.rd;have Wl:=hrk.g.ix (i:=(k:Int)) Qo Qo;rw[cP] at Wl;rw[By3] at IU ⊢;refine⟨Wl,_,J8 ((hrk.g.cells (k:Int) Qo Qo).get 0 _ rfl),λgu=>?_,λgu=>⟨⟨Qo,Qo⟩,λWO lQ _=>⟨⟨k+1,by rw[<-By3]; rfl,Qo,Qo,?_⟩,?_⟩⟩⟩
  ·have hu:Q6 (MU W c k).IE (k:Int)=true:=Q5.2 ⟨Qo,Qo,gu⟩;have uD:c<((MU W c k).IF.length:Int):=by rw[hOk.fr.c]; exact c1
   have hsh:=zm5 hOk.sf.w.tu hu c0 uD;have A91:=Cm (c:=c) hrk hOk.sf.w.tu (zyv hl hOk.sf.w.a hOk.fr.g) hu;rw[e0] at A91;simp only[Qa] at A91;rw[By3] at A91;refine⟨_,A91,λSz kR hs7=>?_⟩;have hK7:=hKk.step kR;have RD:=Kt hK7.own hOk.sf (I3 _) (by simp only[Qj]; decide) hOk.cu (x:=Ms (MU W c k) (k:Int) c) hu Qo c0 uD;rw[e0] at RD;simp only[Qa] at RD;rw[By3] at RD;refine I4 RD ?_;rintro e1 S3 ⟨jG,jL⟩;refine⟨_,_,_,_,_,_,_,_,_,_,jG,hK7.kept jL hs7,⟨Qo,Qo⟩,λW5 oH _=>⟨⟨k+1,by rw[<-By3]; rfl,Qo,Qo,?_⟩,?_⟩⟩
   ·rw[Ww,E' ⟨Qo,gu⟩];exact(hK7.SH jL hs7).step oH
   ·simp only[Zt,Xe,ZQ,Ig]; omega
  ·rw[Ww,C' (by rintro⟨_,h⟩; rw[show (gi (MU W c k).IE (k:Int)).used=false from gu] at h; cases h)];exact hKk.step lQ
  ·simp only[Zt,Xe,ZQ,Ig]; omega
 ·have RN:=Ou RN;have:k=8:=Qo;subst this;have AK5:=hKk.step AF8;have RD:=Qx AK5.own hB8.sf.w (by simp only[Qj]; decide) (by simp only[Qj]; decide) AK5.base;rw[e0] at RD;refine I4 RD ?_;rintro e3 Wx ⟨m2,gP,hy5⟩;have BT2:Wk 8 [y,y1] w Wx (VI W c) m2:=AK5.SH hy5 pD;have CQ3:=BT2.rd;have Ch6:=zcs CQ3 wpS c0 (by rw[frS.c]; exact c1);refine⟨_,_,_,_,_,_,_,_,_,_,gP,AK5.kept hy5 pD,_,Ch6,λg5=>?_,λg5 Wm BV2=>?_⟩
  ·have g5:¬TO W c<0:=by have:=Ot g5; unfold TO; omega
   obtain⟨p0,p1,ps,hu,sf,sfP⟩:=zpz hW hb g5;have fH:=wpS.a.t;refine⟨CQ3.t.ix QF p0 (by rw[fH]; exact p1),_,CQ3.t.f p0 (by rw[fH]; exact p1) (j:=1) rfl,λS9 AF9 wP=>?_⟩;have BE6:=BT2.step AF9;refine I4 (Vo BE6.own sf (I3 _) (by simp only[Qj,Vj]; decide) (t:=TO W c) (g:=(Q9 (VI W c) (TO W c)).group) (c:=c) p0 p1 (by rw[ps]; decide) hu c0 (by rw[frS.c]; exact c1)) ?_;rintro e4 gF ⟨he4,hy6⟩;refine⟨_,_,_,_,_,_,_,_,_,_,he4,BE6.kept hy6 wP,λSr vE AW0=>?_⟩;have B93:=(BE6.SH hy6 wP).step vE
   have Cx9:Qa (VW (VI W c) (TO W c) (Q9 (VI W c) (TO W c)).group c) m2=Qa (VI W c) m2:=by
    obtain⟨q1,q2,q3,q4⟩:=zwb (VI W c) (TO W c) (Q9 (VI W c) (TO W c)).group c;simp only[Qa,q1,q2,q3,q4]
   have aW:=Qx B93.own sfP.w (by simp only[Qj,Vj]; decide) (by simp only[Qj,Vj]; decide) B93.base;rw[Cx9] at aW;refine I4 aW ?_;rintro e5 dU ⟨m3,he5,hy7⟩;refine⟨_,_,_,_,_,_,_,_,_,_,he5,B93.kept hy7 AW0,λWa B08=>?_⟩;have hE:zi5 W c=Qg (VW (VI W c) (TO W c) (Q9 (VI W c) (TO W c)).group c):=by unfold zi5; rw[C' g5]
   rw[hE];exact QU.ok hW hb ((B93.SH hy7 AW0).step B08)
  ·have g5:TO W c<0:=by have:=Ou g5; unfold TO; omega
   have hE:zi5 W c=VI W c:=by unfold zi5; rw[E' g5]
   rw[hE];exact QU.ok hW hb (BT2.step BV2)
end
theorem Gm{W:Q7}{g n x:Int}(hW:Qw W=true)(hb:Zz W g n x=0):JS (ZY W g n x):=by
 have wp:=Qh.1 hW;have h:=L1 hW hb;have p:=XB wp
 have hT:Er W (UC W g n x):=⟨.inl rfl,h.u,h.w,h.m,h.m0,by show ZU 0=true; decide,by show ZU 0=true; decide,I3 _,by show (0:Int)<=8000000; decide,λ_=>by
  have:=(ZC (Qf n)).1;show (Qb W g (PD W g x)).floor<=(Qb W g (PD W g x)).floor/\(Qb W g (PD W g x)).floor-(Qb W g (PD W g x)).floor<=ZB (Qf n);omega⟩
 exact ZE (h.sw2.Ry h.c0 h.c1) Qd Qd (z9 p h.f0 h.f1 (show (1:Int)≠0 by decide) hT rfl h.c0 h.c1) (((Vg wp).IV wp.a h.f0 h.f1 (x:=UC W g n x) λ_=>h.ch).Ry _)
theorem zyl{W:Q7}{g x:Int}(hW:Qw W=true)(hb:znl W g x=0):JS (zw9 W g x):=by
 have wp:=Qh.1 hW;obtain⟨h1,hz,hu,_,_,sf,cu,hT⟩:=zxa hW hb;have hx:=Qu.1 h1;have hu':Q6 (Rf W g (KL W g x)).IE g=true:=by rw[hT.fD]; exact hu
 have p1:TI (Rf W g (KL W g x)):=(XB wp).same sf.w.a rfl rfl hT (zpe rfl);have l1:zah (Rf W g (KL W g x)):=(Vg wp).same rfl hT (λi=>X4 (f:=ZV.IF) W.IE g (x:=KL W g x) rfl i) rfl;have hlen:(Rf W g (KL W g x)).IF.length=W.IF.length:=rfl;show JS (Qg (H1 (Rf W g (KL W g x)) g x W.IF.length));rw[<-hlen];generalize Rf W g (KL W g x)=V at sf cu hu' p1 l1
 have all:∀k:Nat,k<=V.IF.length->TI (H1 V g x k)/\TM V (H1 V g x k):=by
  intro k
  induction k with
  | zero=>exact λ_=>⟨p1,TM.refl _⟩
  | succ k ih=>
   intro hk;obtain⟨a,b⟩:=ih Qo;exact⟨a.wei (by rw[b.g.fD]; exact hu') hz Qo (by rw[b.len]; omega),b.trans (zq7 _ _ _ _)⟩
 obtain⟨a,b⟩:=all _ (I8 _);obtain⟨sf2,fr,_⟩:=zk3 sf (I3 _) cu hu' hz hx.1 hx.2 V.IF.length (I8 _);exact ZE sf2.w (by simp only[Qj]; decide) (by simp only[Qj,Vj]; decide) a (b.loc fr.t l1)
theorem zru{W:Q7}{t c:Int}(h:V7 W t c=true):Z7 (Qy W (Q9 W t).group (Q9 W t).mask) c=true:=by
 unfold V7 at h;simp only[A',ID,I0,I7] at h;exact h.1.2
theorem zyc{W:Q7}{c:Int}(hW:Qw W=true)(hb:ER W c=0):JS (zi5 W c):=by
 have wp:=Qh.1 hW;obtain⟨c0,c1,hB,wpS,swS,frS⟩:=zi6 hW hb;have iS:JS (VI W c):=ZE hB.sf.w (by simp only[Qj]; decide) (by simp only[Qj,Vj]; decide) hB.pre (hB.sta.loc hB.fr.t (Vg wp));unfold zi5;split
 ·exact iS
 ·rename_i hp;obtain⟨p0,p1,ps,pu,_,sf⟩:=zpz hW hb hp;obtain⟨i,b,e,hi,ht⟩:=zhz hp;have e:TO W c=(i:Int):=e;unfold zg0 at ht;simp only[A'] at ht;have hcd:=zru ht.1.2;rw[<-e] at hcd;have cS:c<((VI W c).IF.length:Int):=by rw[frS.c]; exact c1
  clear hp iS swS frS hB ht e;have hK0:0<=Ql+Qj+Vj+Qj:=Qd;have hK1:Ql+Qj+Vj+Qj+Vj<=100000000000000000:=Qd;have hcd:Z7 (Qy (VI W c) (Q9 (VI W c) (TO W c)).group (Q9 (VI W c) (TO W c)).mask) c=true:=hcd;generalize TO W c=q at *;generalize VI W c=V at *;refine ZE sf.w hK0 hK1 (zdq (XB wpS) p0 p1 (by rw[ps]; decide) pu c0 cS) λt t0 t1 n=>?_
  rw[(zad V _ _ _).wh];rw[zo6 wpS.a.t p0 p1 t0] at n ⊢
  split at n
  ·rename_i he;rw[E' he];exact hcd
  ·rename_i he;rw[C' he];exact Vg wpS t t0 t1 n
def zf9:KN:=⟨0,false,0,10,0⟩
def PN(n:Nat)(p:Int)(name:ByteArray):ZV:=⟨true,p,name,10,15,0,0,0,⟨0,0,0,[],[]⟩,List.replicate n zf9⟩
def zed:ZV:=⟨false,0,⟨[].toArray⟩,0,0,0,0,0,⟨0,0,0,[],[]⟩,[]⟩
def Ur(n:Nat):Q7:=⟨0,List.replicate n ⟨true,-1,0,0,0⟩,List.replicate 12 O0,(List.replicate 8 zed).set 0 (PN n (-1) ⟨[].toArray⟩)⟩
section
variable {n:Nat}
theorem E0(k:Int)(k0:0<=k)(k1:k<8):gi (Ur n).IE k=if k=0 then PN n (-1) ⟨[].toArray⟩ else zed:=by
 have:=QG (List.replicate 8 zed) (PN n (-1) ⟨[].toArray⟩) (i:=0) (j:=k) (I3 _) Qd k0;show gi ((List.replicate 8 zed).set (0:Int).toNat _) k=_;rw[this]
 by_cases h:k=0
 ·rw[E' h.symm,E' h]
 ·rw[C' λe=>h e.symm,C' h,Pl _ _ k0 Qo]
theorem zvt:(Ur n).IE.length=8:=by simp[Ur]
theorem zvs(c:Int)(c0:0<=c)(c1:c<(n:Int)):gi (Ur n).IF c=⟨true,-1,0,0,0⟩:=Pl _ _ c0 c1
theorem zvu(t:Int)(t0:0<=t)(t1:t<12):Q9 (Ur n) t=O0:=Pl 12 _ t0 Qo
theorem z1m(c:Int)(c0:0<=c)(c1:c<(n:Int)):Qb (Ur n) 0 c=zf9:=by
 unfold Qb;rw[E0 0 (I3 _) Qd,E' rfl];exact Pl _ _ c0 c1
theorem zsr:Yk (Ur n).IE:=by
 have g0:gi (Ur n).IE 0=PN n (-1) ⟨[].toArray⟩:=by rw[E0 0 (I3 _) Qd,E' rfl]
 have un:∀g:Int,1<=g->g<8->(gi (Ur n).IE g).used=true->False:=λg a b h=>by
  rw[E0 g Qo b,C' Qo] at h; cases h
 exact⟨zvt,by rw[g0]; rfl,by rw[g0]; rfl,by rw[g0]; rfl,λg a b h=>(un g a b h).elim,λg a b h=>(un g a b h).elim,λg a b h=>(un g a b h).elim,λg k a b d h=>(un g Qo d h).elim⟩
theorem zy7(n0:1<=n)(n1:n<=4):WA (Ur n):=by
 have tP:(Ur n).IF.length=n:=by simp[Ur]
 refine⟨I3 _,by show (0:Int)<=_; decide,Qo,Qo,by simp[Ur],zsr,NN (c:=0) Qo (I3 _) Qo (by rw[zvs 0 (I3 _) Qo]),λk k0 k1=>?_⟩;unfold MR;rw[E0 k k0 k1];split
 ·refine⟨λh=>(by cases h),λ_=>⟨show (1:Int)<=10 by decide,show (10:Int)<=20 by decide,show OH 15=true by decide,show (15:Int)≠0 by decide,show ZU 0=true by decide,by simp[PN,tP],λ_=>⟨rfl,rfl,rfl⟩,λ_=>⟨show Ow ⟨0,0,0,[],[]⟩=true by decide,rfl,rfl⟩,λh=>Is rfl h⟩⟩
 ·exact⟨λ_=>⟨rfl,rfl,rfl,rfl,rfl,rfl,rfl,rfl,Qd⟩,λh=>by cases h⟩
theorem zyh(n0:1<=n)(n1:n<=4):JS (Ur n):=by
 have ha:=zy7 n0 n1;have tP:(Ur n).IF.length=n:=by simp[Ur]
 have hmt:∀(k c:Int) (j:Nat),j<12->OQ (Ur n) k c j=false:=λk c j hj=>by
  unfold OQ;rw[show gi (Ur n).tasks (j:Int)=O0 from zvu (j:Int) Qo Qo];rfl
 have hmg:∀(k c:Int) (j:Nat),j<8->Jf (Ur n) k c j=false:=λk c j hj=>by
  unfold Jf;rw[E0 (j:Int) Qo Qo]
  by_cases h:(j:Int)=0
  ·rw[show decide (1<=j)=false from decide_eq_false Qo]; rfl
  ·rw[C' h];simp[zed]
 refine⟨⟨ha,λt t0 t1=>.inl ?_,λk c k0 k1 c0 c1=>?_,λc c0 c1=>?_⟩,λk c hu c0 c1 hb=>?_⟩
 ·rw[zvu t t0 t1]; exact⟨rfl,rfl⟩
 ·by_cases hk:k=0
  ·subst hk;rw[E0 0 k0 k1,E' rfl] at c1;have c1:c<(n:Int):=by simpa[PN] using c1
   have e:=z1m c c0 c1;refine⟨?_,?_,?_,?_,?_,λ_=>?_,λh=>Is rfl h,λh=>Is rfl h⟩ <;> rw[e]
   ·decide
   ·decide
   ·decide
   ·decide
   ·decide
   ·exact⟨rfl,rfl,rfl⟩
  ·rw[E0 k k0 k1,C' hk] at c1;have c1:c<0:=c1;omega
 ·rw[tP] at c1;have e:=zvs c c0 c1;refine⟨by rw[e]; decide,by rw[e]; decide,by rw[e]; decide,by rw[e]; show (-1:Int)<((Ur n).tasks.length:Int); simp[Ur],λ_=>by rw[e],λh=>?_⟩;rw[e] at h;have h:(0:Int)<=-1:=h;omega
 ·unfold Zx at hb;have hb:=Ot hb;rcases Zu (Zq (Ur n) k c) (Zn (Ur n) c) 20 with ⟨a,_⟩ | ⟨_,h2,h3,_⟩
  ·rw[a] at hb; omega
  ·exfalso
   have IU:(QZ (Zq (Ur n) k c) (Zn (Ur n) c) 20).toNat<20:=Qo;generalize (QZ (Zq (Ur n) k c) (Zn (Ur n) c) 20).toNat=j at h3 IU
   by_cases hj:j<12
   ·rw[Vh hj,hmt k c j hj] at h3; cases h3
   ·rw[show j=12+(j-12) by omega,Ua,hmg k c (j-12) Qo] at h3; cases h3
end
theorem zlh{gs:List ZV}(ht:Yk gs):∀(f:Nat) (h:Int),Q6 gs h=true->dep 3 gs h<=(f:Int)->dep f gs h=dep 3 gs h
 | 0,h,hu,hd=>by
  by_cases hz:h=0
  ·subst hz; rw[Y4,Y4]
  ·obtain⟨_,_,_,d,e,_⟩:=Yl ht hu hz;omega
 | f+1,h,hu,hd=>by
  by_cases hz:h=0
  ·subst hz; rw[Y4,Y4]
  ·obtain⟨hp,_,_,d,e,e2,_⟩:=Yl ht hu hz;have ih:=zlh ht f _ hp Qo;show (if h=0 then 0 else if dep f gs (gi gs h).parent<0 then -1 else dep f gs (gi gs h).parent+1)=_;rw[C' hz,ih,e2,C' Qo,e]
structure zeh (W:Q7) (a p:Int) (name:ByteArray):Prop where
 a1:1<=a
 a8:a<8
 fr:(gi W.IE a).used=false
 up:Q6 W.IE p=true
 nm:UG name=true
 no:∀h:Int,1<=h->h<8->(gi W.IE h).used=true->¬((gi W.IE h).parent=p/\(gi W.IE h).name=name)
 dp:dep 3 W.IE p≠3
def P9(W:Q7)(a p:Int)(name:ByteArray):Q7:=Rf W a (PN W.IF.length p name)
section
variable {W:Q7}{a p:Int}{name:ByteArray}
theorem NZ(ha:WA W)(h:zeh W a p name){i:Int}(hi:0<=i):gi (P9 W a p name).IE i=if a=i then PN W.IF.length p name else gi W.IE i:=Yz (by have:=h.a1; omega) (by have:=ha.gl; have:=h.a8; omega) hi
theorem zvq(h:zeh W a p name){k:Int}(hu:Q6 W.IE k=true):a≠k:=λe=>by
 have:=(Q5.1 hu).2.2;rw[<-e,h.fr] at this;cases this
theorem DZ(ha:WA W)(h:zeh W a p name){k:Int}(hu:Q6 W.IE k=true):gi (P9 W a p name).IE k=gi W.IE k:=by
 rw[NZ ha h (Q5.1 hu).1,C' (zvq h hu)]
theorem Gy(ha:WA W)(h:zeh W a p name):gi (P9 W a p name).IE a=PN W.IF.length p name:=by
 rw[NZ ha h (by have:=h.a1; omega),E' rfl]
theorem zj8(ha:WA W):(P9 W a p name).IE.length=8:=by
 have:=ha.gl;simp[P9,Rf]; omega
theorem FB(ha:WA W)(h:zeh W a p name){k:Int}:Q6 (P9 W a p name).IE k=true↔Q6 W.IE k=true\/k=a:=by
 have cP:=ha.gl;have a1:=h.a1;have a8:=h.a8;rw[Q5,Q5,zj8 ha,cP];constructor
 ·rintro⟨x,y,z⟩;rw[NZ ha h x] at z
  by_cases e:a=k
  ·exact .inr e.symm
  ·rw[C' e] at z;exact .inl ⟨x,y,z⟩
 ·rintro (⟨x,y,z⟩ | rfl)
  ·refine⟨x,y,?_⟩;rw[NZ ha h x,C' λe=>by rw[<-e,h.fr] at z; cases z];exact z
  ·refine⟨Qo,Qo,?_⟩;rw[Gy ha h]; rfl
theorem zou(ha:WA W)(h:zeh W a p name):∀(f:Nat) (k:Int),Q6 W.IE k=true->dep f (P9 W a p name).IE k=dep f W.IE k
 | 0,_,_=>rfl
 | f+1,k,hu=>by
  by_cases hz:k=0
  ·subst hz; rw[Y4,Y4]
  ·have ih:=zou ha h f _ (Yl ha.tree hu hz).1;simp only[dep];rw[DZ ha h hu,ih]
theorem zka(ha:WA W)(h:zeh W a p name):∀(f:Nat) (k:Int),Q6 W.IE k=true->V2 f (P9 W a p name).IE k=V2 f W.IE k
 | 0,_,_=>rfl
 | f+1,k,hu=>by
  by_cases hz:k=0
  ·subst hz; rw[Zr,Zr]
  ·have ih:=zka ha h f _ (Yl ha.tree hu hz).1;simp only[V2];rw[DZ ha h hu,ih]
theorem z2q(ha:WA W)(h:zeh W a p name):dep 3 (P9 W a p name).IE a=dep 3 W.IE p+1/\0<=dep 3 W.IE p:=by
 have hr:=G8 ha h.up;have hd:=h.dp;have e:=zlh ha.tree 2 p h.up Qo;refine⟨?_,hr.1⟩;show (if a=0 then 0 else if dep 2 (P9 W a p name).IE (gi (P9 W a p name).IE a).parent<0 then -1 else dep 2 (P9 W a p name).IE (gi (P9 W a p name).IE a).parent+1)=_;rw[C' (by have:=h.a1; omega),Gy ha h];show (if dep 2 (P9 W a p name).IE p<0 then -1 else dep 2 (P9 W a p name).IE p+1)=_;rw[zou ha h 2 p h.up,e,C' Qo]
theorem zy5(ha:WA W)(h:zeh W a p name):Yk (P9 W a p name).IE:=by
 have ht:=ha.tree;have cP:=ha.gl;have a1:=h.a1;have r:=DZ ha h ha.root
 have sp:∀{g:Int},1<=g->g<8->(gi (P9 W a p name).IE g).used=true->g=a\/(Q6 W.IE g=true/\gi (P9 W a p name).IE g=gi W.IE g):=λ{g} b d hh=>by
  rcases (FB ha h).1 (Q5.2 ⟨Qo,by rw[zj8 ha]; omega,hh⟩) with e | e
  ·exact .inr ⟨e,DZ ha h e⟩
  ·exact .inl e
 refine⟨zj8 ha,by rw[r]; exact ht.ru,by rw[r]; exact ht.rp,by rw[r]; exact ht.rn,λg b d hh=>?_,λg b d hh=>?_,λg b d hh=>?_,λg k b d e hg hk=>?_⟩
 ·rcases sp b d hh with rfl | ⟨hu,e⟩
  ·rw[Gy ha h]; exact h.nm
  ·rw[e] at hh ⊢; exact ht.nm g b d hh
 ·rcases sp b d hh with rfl | ⟨hu,e⟩
  ·rw[Gy ha h]; exact(FB ha h).2 (.inl h.up)
  ·rw[e] at hh ⊢; exact(FB ha h).2 (.inl (ht.par g b d hh))
 ·rcases sp b d hh with rfl | ⟨hu,e⟩
  ·have:=z2q ha h; omega
  ·rw[zou ha h 3 g hu]; exact ht.dp g b d (Q5.1 hu).2.2
 ·rintro⟨q1,q2⟩;rcases sp Qo e hg with hga | ⟨hu,eg⟩
  ·rcases sp b Qo hk with hka | ⟨hu2,ek⟩
   ·omega
   ·rw[hga,Gy ha h,ek] at q1 q2;exact h.no k b Qo (Q5.1 hu2).2.2 ⟨q1,q2⟩
  ·rcases sp b Qo hk with hka | ⟨hu2,ek⟩
   ·rw[hka,Gy ha h,eg] at q1 q2;exact h.no g Qo e (Q5.1 hu).2.2 ⟨q1.symm,q2.symm⟩
   ·rw[eg,ek] at q1 q2;exact ht.uniq g k b d e (Q5.1 hu).2.2 (Q5.1 hu2).2.2 ⟨q1,q2⟩
end
section
variable {W:Q7}{a p:Int}{name:ByteArray}
theorem L6(ha:WA W)(h:zeh W a p name){k c:Int}(hu:Q6 W.IE k=true):Qb (P9 W a p name) k c=Qb W k c:=by
 unfold Qb;rw[DZ ha h hu]
theorem zqm(ha:WA W)(h:zeh W a p name){c:Int}(c0:0<=c)(c1:c<(W.IF.length:Int)):Qb (P9 W a p name) a c=zf9:=by
 unfold Qb;rw[Gy ha h];exact Pl _ _ c0 c1
theorem zql(ha:WA W)(h:zeh W a p name){k c:Int}(c0:0<=c)(c1:c<(W.IF.length:Int))(j:Nat)(hj:j<8):Jf (P9 W a p name) k c j=Jf W k c j:=by
 have a1:=h.a1;unfold Jf
 by_cases e:a=(j:Int)
 ·rw[<-e,zqm ha h c0 c1,h.fr];show (_&&_&&zf9.on)=_;simp[zf9]
 ·rw[NZ ha h Qo,C' e]
  have:Qb (P9 W a p name) (j:Int) c=Qb W (j:Int) c:=by
   unfold Qb;rw[NZ ha h Qo,C' e]
  rw[this]
theorem zvp(ha:WA W)(h:zeh W a p name){k c:Int}(c0:0<=c)(c1:c<(W.IF.length:Int)):QV (P9 W a p name) k c=QV W k c:=by
 unfold QV;rw[show TN (OQ (P9 W a p name) k c) (P9 W a p name).tasks.length=TN (OQ W k c) W.tasks.length from rfl,zj8 ha,ha.gl];rw[Kh λj hj=>zql ha h c0 c1 j hj]
theorem zj9(wp:Je W)(h:zeh W a p name){c:Int}(j:Nat)(hj:j<20):Zq W a c j=false:=by
 by_cases wL:j<12
 ·rw[Vh wL];unfold OQ;rcases wp.t (j:Int) Qo Qo with hz | ⟨_,hx⟩
  ·have:(gi W.tasks (j:Int)).state=0:=hz.1;rw[this]; rfl
  ·have hg:(gi W.tasks (j:Int)).group≠a:=λe=>zvq h hx.g e.symm
   rw[show ((gi W.tasks (j:Int)).group==a)=false by simpa using hg];simp
 ·rw[show j=12+(j-12) by omega,Ua];unfold Jf
  cases hu:(gi W.IE ((j-12:Nat):Int)).used with
  | false=>simp
  | true=>
   have hl:=wp.a.gl;have huu:Q6 W.IE ((j-12:Nat):Int)=true:=Q5.2 ⟨Qo,Qo,hu⟩
   by_cases h1:1<=j-12
   ·have hpu:=(Yl wp.a.tree huu Qo).1;have hg:(gi W.IE ((j-12:Nat):Int)).parent≠a:=λe=>zvq h hpu e.symm
    rw[show ((gi W.IE ((j-12:Nat):Int)).parent==a)=false by simpa using hg];simp
   ·rw[show decide (1<=j-12)=false from decide_eq_false h1]; simp
theorem Ki{p:Nat->Bool}:∀{n:Nat},(∀j,j<n->p j=false)->TN p n=false
 | 0,_=>rfl
 | n+1,h=>by simp only[TN]; rw[Ki λj hj=>h j Qo,h n Qo]; rfl
theorem zy4(wp:Je W)(h:zeh W a p name){c:Int}:QV W a c=false:=by
 have hl:=wp.a.gl;have ht:=wp.a.t;unfold QV;rw[Ki λj hj=>by have:=zj9 wp h (c:=c) j Qo; rwa[Vh Qo] at this,Ki λj hj=>by have:=zj9 wp h (c:=c) (12+j) Qo; rwa[Ua] at this];rfl
theorem BT{α β:Type}{f g:β->α->β}:∀(l:List α) (s:β),(∀(s:β) (x:α),x∈l->f s x=g s x)->l.foldl f s=l.foldl g s
 | [],_,_=>rfl
 | y::l,s,hl=>by
  rw[List.foldl_cons,List.foldl_cons,hl s y Ia];exact BT l _ λs x hx=>hl s x (I2 _ hx)
theorem z1i(ha:WA W)(h:zeh W a p name){k:Int}(hu:Q6 W.IE k=true)(u:Int):T9 (P9 W a p name).IE k u=T9 W.IE k u:=by
 have e:Zc (P9 W a p name).IE k=Zc W.IE k:=zka ha h 3 k hu;unfold T9;rw[e];refine BT _ _ λs x hx=>?_
 have hxu:Q6 W.IE x=true:=by
  rcases Io.1 hx with hx | hx
  ·exact(YV ha.tree k hu x hx).1
  ·rw[IA.1 hx]; exact ha.root
 rw[DZ ha h hxu]
theorem zxb{W W':Q7}(e:W'.IF=W.IF){k:Int}(hp:∀u:Int,T9 W'.IE k u=T9 W.IE k u)(m:Int):Qy W' k m=Qy W k m:=by
 unfold Qy;rw[e,hp]
theorem z2r(ha:WA W)(h:zeh W a p name){k:Int}(hu:Q6 W.IE k=true)(m:Int):Qy (P9 W a p name) k m=Qy W k m:=zxb (W:=W) (W':=P9 W a p name) rfl (z1i ha h hu) m
theorem zu4(iv:JS W)(h:zeh W a p name):JS (P9 W a p name):=by
 have wp:=iv.wp;have ha:=wp.a;have a1:=h.a1;have a8:=h.a8;have cP:=ha.gl;have hpu:∀{k:Int},Q6 W.IE k=true->k≠0->Q6 W.IE (gi W.IE k).parent=true:=λhu hz=>(Yl ha.tree hu hz).1
 have hA:WA (P9 W a p name):=by
  refine⟨ha.n1,ha.n2,ha.c1,ha.c2,ha.t,zy5 ha h,ha.ups,λk k0 k1=>?_⟩;unfold MR;rw[NZ ha h k0];split
  ·refine⟨λhh=>(by cases hh),λ_=>⟨show (1:Int)<=10 by decide,show (10:Int)<=20 by decide,show OH 15=true by decide,show (15:Int)≠0 by decide,show ZU 0=true by decide,by simp[PN]; rfl,λ_=>⟨rfl,rfl,rfl⟩,λ_=>⟨show Ow ⟨0,0,0,[],[]⟩=true by decide,rfl,rfl⟩,λhh=>Is rfl hh⟩⟩
  ·have:=ha.grp k k0 k1;exact⟨this.1,λhu=>by have:=this.2 hu; exact⟨this.w1,this.w2,this.m,this.m0,this.s,this.len,this.root,this.none,this.IQ⟩⟩
 refine⟨⟨hA,λt t0 t1=>?_,λk c k0 k1 c0 c1=>?_,λc c0 c1=>?_⟩,λk c hu c0 c1 hb=>?_⟩
 ·rcases wp.t t t0 t1 with hz | ⟨n,hx⟩
  ·exact .inl hz
  ·refine .inr ⟨n,hx.st,(FB ha h).2 (.inl hx.g),hx.n,hx.m,hx.m0,hx.v,hx.s,hx.u,hx.l1,hx.l2,?_,λhs=>?_⟩
   ·rw[show (Q9 (P9 W a p name) t)=Q9 W t from rfl,z2r ha h hx.g]; exact hx.c
   ·rw[show (Q9 (P9 W a p name) t)=Q9 W t from rfl,L6 ha h hx.g]; exact hx.f hs
 ·by_cases e:a=k
  ·subst e;rw[Gy ha h] at c1;have c1:c<(W.IF.length:Int):=by simpa[PN] using c1
   have es:=zqm ha h c0 c1;refine⟨by rw[es]; decide,by rw[es]; decide,by rw[es]; decide,by rw[es]; decide,by rw[es]; decide,λhz=>by omega,λ_=>?_,λ_ ho=>?_⟩
   ·rw[es,zvp ha h c0 c1,zy4 wp h]; rfl
   ·rw[es] at ho; cases ho
  ·have hg:gi (P9 W a p name).IE k=gi W.IE k:=by rw[NZ ha h k0,C' e]
   rw[hg] at c1
   have hu:Q6 W.IE k=true:=by
    cases hh:(gi W.IE k).used with
    | true=>exact Q5.2 ⟨k0,Qo,hh⟩
    | false=>
     have:=((ha.grp k k0 k1).1 hh).l;omega
   have cl:c<(W.IF.length:Int):=by rw[<-ha.sl hu]; exact c1
   have hs:=wp.s k c k0 k1 c0 c1;have es:=L6 ha h (c:=c) hu;refine⟨by rw[es]; exact hs.f,by rw[es]; exact hs.v,by rw[es]; exact hs.s,by rw[es]; exact hs.w1,by rw[es]; exact hs.w2,λhz=>by rw[es]; exact hs.root hz,λhz=>?_,λhz ho=>?_⟩
   ·rw[es,zvp ha h c0 cl,show Uq (P9 W a p name) k c=Uq W k c by unfold Uq; rw[hg]];exact hs.on hz
   ·rw[es] at ho;rw[es,hg,L6 ha h (hpu hu hz)];exact hs.st hz ho
 ·have hc:=wp.c c c0 c1;refine⟨hc.b,hc.i,hc.c1,hc.c2,hc.no,λh0=>?_⟩;have h0:0<=(gi W.IF c).cur:=h0;obtain⟨y1,y2,y3,y4,y5,y6⟩:=hc.yes h0;have hl:=ha.t
  have mB:Q6 W.IE (Q9 W (gi W.IF c).cur).group=true:=by
   have hc2:=hc.c2;rcases wp.t _ h0 Qo with hz | ⟨_,hx⟩
   ·unfold ZL at y5;rw[hz.1] at y5;simp at y5
   ·exact hx.g
  have hpt:Zc (P9 W a p name).IE (Q9 W (gi W.IF c).cur).group=Zc W.IE (Q9 W (gi W.IF c).cur).group:=zka ha h 3 _ mB;refine⟨y1,y2,y3,y4,?_,?_⟩
  ·unfold ZL Vp at y5 ⊢;rw[show (gi (P9 W a p name).IF c).cur=(gi W.IF c).cur from rfl,show Q9 (P9 W a p name) (gi W.IF c).cur=Q9 W (gi W.IF c).cur from rfl,hpt];rw[A',List.all_eq_true] at y5 ⊢;exact⟨y5.1,λx hx=>by rw[L6 ha h (YV ha.tree _ mB x hx).1]; exact y5.2 x hx⟩
  ·unfold Mt TZ at y6 ⊢;rw[show (gi (P9 W a p name).IF c).cur=(gi W.IF c).cur from rfl,show (gi (P9 W a p name).IF c).aC=(gi W.IF c).aC from rfl,show Q9 (P9 W a p name) (gi W.IF c).cur=Q9 W (gi W.IF c).cur from rfl,hpt,L6 ha h mB];rw[A',List.all_eq_true] at y6 ⊢;refine⟨y6.1,λx hx=>?_⟩;obtain⟨xu,xz⟩:=YV ha.tree _ mB x hx;rw[L6 ha h xu,DZ ha h xu,L6 ha h (hpu xu xz)];exact y6.2 x hx
 ·have cl:c<(W.IF.length:Int):=c1
  have Al9:∀j,j<20->Zq (P9 W a p name) k c j=Zq W k c j:=λj hj=>by
   by_cases wL:j<12
   ·rw[Vh wL,Vh wL]; rfl
   ·rw[show j=12+(j-12) by omega,Ua,Ua,zql ha h c0 cl (j-12) Qo]
  rcases (FB ha h).1 hu with hk | rfl
  ·have hv:∀j,j<20->Zq (P9 W a p name) k c j=true->Zn (P9 W a p name) c j=Zn W c j:=λj hj hm=>by
    unfold Zn;split
    ·rfl
    ·rename_i wL;rw[Al9 j hj,show j=12+(j-12) by omega,Ua] at hm;unfold Jf at hm;simp only[A'] at hm;rw[L6 ha h (Q5.2 ⟨Qo,Qo,hm.1.2.1⟩)]
   have e:QZ (Zq (P9 W a p name) k c) (Zn (P9 W a p name) c) 20=QZ (Zq W k c) (Zn W c) 20:=MJ Al9 hv;have sQ:=iv.fl k c hk c0 cl (by unfold Zx at hb ⊢; rwa[e] at hb);rw[L6 ha h hk];refine IC (Int.le_of_eq ?_) sQ;unfold Zx at hb;have hb:=Ot hb;rw[e] at hb;unfold Z5;rw[e,C' Qo,C' Qo];rcases Zu (Zq W k c) (Zn W c) 20 with ⟨q,_⟩ | ⟨_,q2,q3,_⟩
   ·omega
   ·have IU:(QZ (Zq W k c) (Zn W c) 20).toNat<20:=Qo;exact hv _ IU (by rw[Al9 _ IU]; exact q3)
  ·exfalso
   unfold Zx at hb;have hb:=Ot hb;rcases Zu (Zq (P9 W k p name) k c) (Zn (P9 W k p name) c) 20 with ⟨q,_⟩ | ⟨_,q2,q3,_⟩
   ·omega
   ·rw[Al9 _ Qo,zj9 wp h _ Qo] at q3;cases q3
end
end Go.Proofs.YtnclplgaicdapaaGreatDoor
