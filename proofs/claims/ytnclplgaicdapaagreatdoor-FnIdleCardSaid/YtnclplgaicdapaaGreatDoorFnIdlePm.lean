/- Part 13 of what the law FnIdle needs. -/
import Derived.Test.YtnclplgaicdapaaGreatDoorFnIdlePl
import Derived.Shelf.Abstract
set_option linter.unusedVariables false
set_option linter.unusedSimpArgs false
set_option maxRecDepth 100000
set_option maxHeartbeats 8000000
namespace Go.Proofs.YtnclplgaicdapaaGreatDoor
open Go.RowKit
def zvw(W:Q8)(a b:Int):Bool:=decide (Uo W a>Uo W b)
def Ur(W:Q8)(c m:Int):Nat->Int
 | 0 => -1
 | k+1=>if ((QZ m (k:Int)&&Pl W (k:Int) c)&&(decide (Ur W c m k<0)||zvw W (k:Int) (Ur W c m k)))=true then (k:Int) else Ur W c m k
theorem Gw{W:Q8}{c m:Int}{k:Nat}(h:((QZ m (k:Int)&&Pl W (k:Int) c)&&(decide (Ur W c m k<0)||zvw W (k:Int) (Ur W c m k)))=true):Ur W c m (k+1)=(k:Int):=C' h
theorem K9{W:Q8}{c m:Int}{k:Nat}(h:¬((QZ m (k:Int)&&Pl W (k:Int) c)&&(decide (Ur W c m k<0)||zvw W (k:Int) (Ur W c m k)))=true):Ur W c m (k+1)=Ur W c m k:=B' h
theorem zz2{p:Nat->Bool}{n:Nat}(h:p n=false):O8 p (n+1)=O8 p n:=by simp[O8,h]
theorem Me(W:Q8)(c m:Int):∀k:Nat,-1<=Ur W c m k/\Ur W c m k<k
 | 0=>by simp[Ur]
 | k+1=>by
  have:=Me W c m k;simp only[Ur]
  split <;> omega
noncomputable def Y2(W:Q8)(c lv:Int):Int:=Ur W c (Gn (W.IE.length:Int) c lv) W.IE.length
theorem zwe{W:Q8}(wp:YI W){b c:Int}(h:Pl W b c=true):0<=b/\b<(W.IE.length:Int)/\b≠c:=by
 obtain⟨t,ht,hp⟩:=Pk.1 h;simp only[A',Is] at hp;obtain⟨h1,h2⟩:=GA hp.2;have:=wp.li (t:=(t:Int)) Qo (by have:=wp.a.t; omega) h1;rw[hp.1] at this h2;exact⟨this.2.1,this.2.2,h2⟩
def Ts(W:Q8)(c m:Int)(k:Nat):List Int:=(zmc m k).filter λx=>Pl W x c
theorem zi7{lt:Int->Int->Bool}{l r:List Int}:∀k:Nat,k<=l.length->Xv lt (l++r) k=Xv lt l k
 | 0,_=>rfl
 | k+1,hk=>by
  have e:gi (l++r) (k:Int)=gi l (k:Int):=by
   unfold gi;rw[Ig];simp[Ip (show k<l.length by omega)]
  simp only[Xv];rw[zi7 k Qo,e]
theorem zpw{lt:Int->Int->Bool}{l:List Int}{x:Int}:Xv lt (l++[x]) (l++[x]).length=if (!(Xv lt l l.length).2||lt x (Xv lt l l.length).1)=true then (x,true) else Xv lt l l.length:=by
 rw[Io,List.length_singleton];simp only[Xv];rw[zi7 l.length (I7 _),EA l [] x]
theorem zjd(W:Q8)(c m:Int):∀k:Nat,Xv (zvw W) (Ts W c m k) (Ts W c m k).length=if Ur W c m k<0 then (0,false) else (Ur W c m k,true)
 | 0=>rfl
 | k+1=>by
  have ih:=zjd W c m k;have hr:=Me W c m k
  cases hh:QZ m (k:Int) with
  | false=>
   have:Ts W c m (k+1)=Ts W c m k:=by unfold Ts; rw[zep hh]
   rw[this,ih,K9 (by rw[hh]; simp)]
  | true=>
   cases ha:Pl W (k:Int) c with
   | false=>
    have:Ts W c m (k+1)=Ts W c m k:=by unfold Ts; rw[H5 hh,List.filter_append]; simp[ha]
    rw[this,ih,K9 (by rw[hh,ha]; simp)]
   | true=>
    have:Ts W c m (k+1)=Ts W c m k++[(k:Int)]:=by unfold Ts; rw[H5 hh,List.filter_append]; simp[ha]
    rw[this,zpw,ih]
    by_cases hn:Ur W c m k<0
    ·rw[C' hn,Gw (by rw[hh,ha,Ih hn]; rfl),B' (by omega:¬(k:Int)<0),C' (by rfl)]
    ·rw[B' hn]
     cases hl:zvw W (k:Int) (Ur W c m k) with
     | true=>rw[Gw (by rw[hh,ha,hl]; simp),B' (by omega:¬(k:Int)<0),C' (by rfl)]
     | false=>rw[K9 (by rw[hh,ha,hl,decide_eq_false hn]; simp),B' hn,B' Qs]
theorem zwm{W:Q8}{c lv:Int}(h4:W.IE.length<=4):Ur W c (Gn (W.IE.length:Int) c lv) 4=Y2 W c lv:=by
 unfold Y2
 have key:∀j:Nat,W.IE.length+j<=4->Ur W c (Gn (W.IE.length:Int) c lv) (W.IE.length+j)=Ur W c (Gn (W.IE.length:Int) c lv) W.IE.length:=by
  intro j
  induction j with
  | zero=>intro _; rfl
  | succ j ih=>
   intro hj;rw[show W.IE.length+(j+1)=(W.IE.length+j)+1 from rfl];rw[K9 (by rw[zy1 Qo Qo]; simp),ih Qo]
 have:=key (4-W.IE.length) Qo
 rwa[show W.IE.length+(4-W.IE.length)=4 by omega] at this
section
variable {W:Q8}{m:MW}{w:Wo}{bs:List Nat}{p:OA}
theorem Bd{s c:Int}(h:XE bs w W m)(wp:YI W)(c0:0<=c)(c1:c<(W.IE.length:Int)):PX bs T3 #[.agg (Qb W m).toArray,I s,I c] w (I (Ur W c s W.IE.length)):=
 BA _ _ _ _ _ _ _ _ _ _ s c λwr hx=>by
  have h:=(h.ext hx).less (cs:=[]) Qs;have h4:=wp.a.c2;have eM:=wp.a.t;intro _ _;refine TX W.IE.length 0 rfl (λx k=>k<=W.IE.length/\x=Ur W c s k) ⟨Ic _,rfl⟩ λx k ⟨hk,R5⟩=>⟨λIN=>?_,λRx=>?_⟩
  ·subst R5;have IN:=Ot IN;have hr:=Me W c s k;refine⟨_,λ_=>ZS,_,λ_ _=>UH h wp,_,λ_ _=>UH h wp,λg=>?_,λg=>?_⟩
   ·refine⟨⟨Qo,Qo⟩,QH Qo ⟨Qo,?_⟩⟩;rw[K9];intro hc;simp only[A'] at hc;have bT:=(zwe wp hc.1.2).2.2;rw[beq_eq_false_iff_ne.2 bT,hc.1.1] at g;simp only[Bool.not_true,Bool.or_self,Bool.false_or,A',Ij] at g;unfold zvw at hc;simp only[Iu,Ij] at hc;omega
   ·simp only[H',I6] at g;obtain⟨⟨g1,g2⟩,g3⟩:=g
    have hb:(decide (Ur W c s k<0)||zvw W (k:Int) (Ur W c s k))=true:=by
     unfold zvw;simp only[Iu,Ij];simp only[Bool.and_eq_false_iff,decide_eq_false_iff_not] at g3;omega
    refine TX 12 0 rfl (λy j=>j<=12/\y=if O8 (λt=>((Q7 W (t:Int)).IZ==(k:Int))&&Zw W (t:Int) c) j=true then (k:Int) else Ur W c s k) ⟨Ic _,rfl⟩ λy j ⟨hj,hy⟩=>⟨λRA=>?_,λaN=>?_⟩
    ·have RA:=Ot RA;have mP:j<12:=Qo;refine⟨h.t.ix QF Qo RA,_,h.t.f Qo RA (j:=2) rfl,_,λ_=>G2 h wp Qo RA c0 c1,λg4=>?_,λg4=>?_⟩
     ·have g4:(((Q7 W (j:Int)).IZ==(k:Int))&&Zw W (j:Int) c)=true:=g4;refine⟨⟨Qo,Qo⟩,QH mP ⟨Qo,?_⟩⟩;rw[C'];simp only[O8,Iu];exact .inr g4
     ·have g4:(((Q7 W (j:Int)).IZ==(k:Int))&&Zw W (j:Int) c)=false:=g4;refine⟨⟨Qo,Qo⟩,QH mP ⟨Qo,?_⟩⟩;rw[hy,zz2 (p:=λt=>((Q7 W (t:Int)).IZ==(k:Int))&&Zw W (t:Int) c) g4]
    ·have aN:=Ou aN;have:j=12:=Qo;subst this;refine⟨⟨Qo,Qo⟩,QH Qo ⟨Qo,?_⟩⟩;rw[hy];show (if Pl W (k:Int) c=true then (k:Int) else Ur W c s k)=_
     cases ha:Pl W (k:Int) c with
     | true=>rw[Gw (by rw[g2,ha,hb]; rfl),C' rfl]
     | false=>rw[K9 (by rw[ha]; simp),B' Qd]
  ·have Rx:=Ou Rx;have:k=W.IE.length:=Qo;subst this;rw[R5]
theorem z0l{P:Int->Bool}{l:List Int}{k:Nat}(hk:k<l.length):(P (gi l (k:Int))=true->((l.take k).filter P).length<(l.filter P).length/\gi (l.filter P) (((l.take k).filter P).length:Int)=gi l (k:Int)/\(l.take (k+1)).filter P=(l.take k).filter P++[gi l (k:Int)])/\
  (P (gi l (k:Int))=false->(l.take (k+1)).filter P=(l.take k).filter P):=by
 have e1:l.take (k+1)=l.take k++[gi l (k:Int)]:=by rw[List.take_succ_eq_append_getElem hk,JX hk]
 have e2:l=l.take k++(gi l (k:Int)::l.drop (k+1)):=by
  conv=>lhs; rw[<-List.take_append_drop (k+1) l,e1,List.append_assoc]
  rfl
 refine⟨λh=>?_,λh=>?_⟩
 ·have e3:l.filter P=(l.take k).filter P++(gi l (k:Int)::(l.drop (k+1)).filter P):=by
   conv=>lhs; rw[e2,List.filter_append]
   simp[h]
  refine⟨by rw[e3]; simp,?_,by rw[e1,List.filter_append]; simp[h]⟩;rw[e3];exact EA _ _ _
 ·rw[e1,List.filter_append]; simp[h]
theorem zt1:JH Tryz.f255=zra Ya (.block 0 (.rangeFunc (.tmp 17) #[18] YR YD)):=Qk
theorem zqh{c lv:Int}{b b1:Nat}{I:Nat->Wo->Prop}(wp:YI W)(c0:0<=c)(c1:c<(W.IE.length:Int))(hp:Tj [] w p W m)(hbx:Q1 [] w (some ⟨b,0,none⟩) 0 [.pointer p,.int .i64 c])(cJ:Q1 [] w (some ⟨b1,0,none⟩) 0 [.int .i64 lv])(hI:∀k W1,I k W1->Q0 [] w W1) :
  AG Tryz.prog JL #[.pointer (some ⟨b,0,none⟩),.pointer (some ⟨b1,0,none⟩)] (Ts W c (Gn (W.IE.length:Int) c lv) 4).length (λk=>[.int .i64 (gi (Ts W c (Gn (W.IE.length:Int) c lv) 4) (k:Int))]) I w:=by
 intro l0 J Jx Wc hxc hJI hAJ hAx hY h0;obtain⟨M,hM⟩:∃M,M=zmc (Gn (W.IE.length:Int) c lv) 4:=⟨_,rfl⟩;have CN2:Ts W c (Gn (W.IE.length:Int) c lv) 4=M.filter λx=>Pl W x c:=by rw[hM]; rfl
 rw[CN2] at hY ⊢;refine FK (args:=[.func (.yield l0) #[] #[],.pointer (some ⟨b,0,none⟩),.pointer (some ⟨b1,0,none⟩)]) (n:=44) Tryz.func255 (body:=JH Tryz.f255) rfl Qk Qs λa hn ha hd=>?_
 rw[zt1];have a0:=ha 0 _ rfl;have a1:=ha 1 _ rfl;have a2:=ha 2 _ rfl;refine K0 none (.yield l0) #[] #[] (some ⟨b,0,none⟩) (some ⟨b1,0,none⟩) (R:=λe vs w1=>e=.normal/\∃bm b3:Nat,vs=[.func (.func Z5) #[] #[.pointer (some ⟨bm,0,none⟩)],.pointer (some ⟨b3,0,none⟩)]/\Q1 [] w1 (some ⟨bm,0,none⟩) 0 [.int .i64 (Gn (W.IE.length:Int) c lv)]/\Q1 [] w1 (some ⟨b3,0,none⟩) 0 [.func (.yield l0) #[] #[]]/\Wc.heap.size<=bm/\Wc.heap.size<=b3/\Q0 [] Wc w1) hn ?_ ?_ ?_ (λe vs a1 w1 bT hR _=>Ir hR.1 bT)
 ·intro q hq;simp only[Ii,List.not_mem_nil,or_false] at hq;rcases hq with rfl | rfl | rfl
  ·exact⟨Ik rfl,a0⟩
  ·exact⟨Ik rfl,a1⟩
  ·exact⟨Ik rfl,a2⟩
 ·intro b3 wb hx hb0 Ss _;have hxw:=hxc.trans hx;have hpb:=hp.ext hxw;have hbb:=hbx.ext hxw;refine⟨rfl,p,hbb.get 0 _ rfl,hpb.some,_,_,_,hpb.IE,rfl,c,hbb.get 1 _ rfl,lv,cJ.ext hxw,_,B5,λwr R5 _=>?_⟩;refine(zum (m:=Gn (W.IE.length:Int) c lv)).mono λe w2 ⟨bm,hbm,he,hcm,R6⟩=>⟨_,_,_,he,Ys,λI' SK=>⟨rfl,bm,b3,rfl,hcm.ext SK,?_,by have:=hx.size; have:=R5.size; omega,hb0,((hx.trans R5).trans R6).trans SK⟩⟩
  exact(((Md ⟨_,Ss⟩).ext R5).ext R6).ext SK
 rintro vs a3 w2 ⟨_,bm,b3,rfl,hcm,hc3,hbm,CN0,hX⟩ fo
 obtain⟨o17,o3⟩:a3.tmps.getD 17 undef=.func (.func Z5) #[] #[.pointer (some ⟨bm,0,none⟩)]/\a3.tmps.getD 3 undef=.pointer (some ⟨b3,0,none⟩):=by
  have:=fo.out;simp only[List.map_cons,List.map_nil,I4,and_true] at this;exact this
 have o1:=(fo.kept 1 (by decide +kernel)).trans a1;have A07:a3.tmps.size=44:=by rw[fo.size,hn]
 have hd3:a3.defers=[]:=by rw[fo.defers,hd]
 have hWc:=hX.size;have DI3:=FL hcm;have DH9:=FL hc3;have noR:∀w',(results Tryz.f255 a3.tmps).run Tryz.prog w'=.ok (.tuple #[]) w':=λw'=>results_none Qk _ _ _
 refine wpIn_block (zys (gf:=Z5) (lb:=#[.pointer (some ⟨bm,0,none⟩)]) o17 (enters_of Tryz.func233 Qk rfl)
  (λk W1=>J ((M.take k).filter λx=>Pl W x c).length W1/\Q1 [] W1 (some ⟨bm,0,none⟩) 0 [.int .i64 (Gn (W.IE.length:Int) c lv)]/\Q1 [] W1 (some ⟨b3,0,none⟩) 0 [.func (.yield l0) #[] #[]]) (λcd W1=>cd=.ret/\Jx () W1) M.length (λk=>[.int .i64 (gi M (k:Int))])
  (λk W1 W2 ys h hx hy=>⟨hAJ _ _ _ ys h.1 hx λy hm=>by have:=hy y hm; omega,Tc h.2.1 hx λhm=>by have:=hy _ hm; omega,Tc h.2.2 hx λhm=>by have:=hy _ hm; omega⟩)
  (λcd W1 W2 ys h hx hy=>⟨h.1,hAx _ _ _ ys h.2 hx λy hm=>by have:=hy y hm; omega⟩)
  ⟨hAJ 0 _ _ [] h0 hX Qs,hcm,hc3⟩ (λk=>rfl) (by
   have:=zqi (m:=Gn (W.IE.length:Int) c lv) (bm:=bm) (w:=w2) (I:=λk W1=>J ((M.take k).filter λx=>Pl W x c).length W1/\Q1 [] W1 (some ⟨bm,0,none⟩) 0 [.int .i64 (Gn (W.IE.length:Int) c lv)]/\Q1 [] W1 (some ⟨b3,0,none⟩) 0 [.func (.yield l0) #[] #[]]) (λk W1 h=>h.2.1);rw[<-hM] at this;exact this) ?_ ?_ ?_)
 ·intro l k W1 hk ⟨hJk,hCm,hC3⟩ hl;rw[znw];refine MZ (some l) (gi M (k:Int)) (R:=λe vs W2=>e=.normal/\vs=[.int .i64 (gi M (k:Int))]/\Q0 [] W1 W2) (by simpa using A07) (λq hq=>?_) (λwr hx=>⟨rfl,rfl,hx⟩) λe vs a4 W2 hR fo4=>?_
  ·simp only[Ii,List.not_mem_nil,or_false] at hq;subst hq;exact⟨Ik rfl,DQ (i:=18) (by rw[A07]; decide)⟩
  obtain⟨rfl,rfl,SK⟩:=hR
  have q4:a4.tmps.getD 4 undef=.int .i64 (gi M (k:Int)):=by
   have:=fo4.out
   simpa using this
  have q1:a4.tmps.getD 1 undef=.pointer (some ⟨b,0,none⟩):=((fo4.kept 1 (by decide +kernel)).trans (UG (i:=18) (j:=1) Qd)).trans o1;have q3:a4.tmps.getD 3 undef=.pointer (some ⟨b3,0,none⟩):=((fo4.kept 3 (by decide +kernel)).trans (UG (i:=18) (j:=3) Qd)).trans o3;refine⟨⟨[],SK,Qs⟩,λW3 Sm=>?_⟩;have hly:∀y∈[l],w2.heap.size<=y:=by simpa using hl
  have hJ3:J ((M.take k).filter λx=>Pl W x c).length W3:=hAJ _ _ _ [l] (hAJ _ _ _ [] hJk SK Qs) Sm λy hm=>by have:=hly y hm; omega
  have hm3:=Tc (hCm.ext SK) Sm (λhm=>by have:=hly _ hm; omega);have gH:=Tc (hC3.ext SK) Sm (λhm=>by have:=hly _ hm; omega);have DI0:=FL gH;have hW3:Q0 [] w W3:=hI _ _ (hJI _ _ hJ3);have hp3:=hp.ext hW3;have vK:=hbx.ext hW3;have eM:=wp.a.t;obtain⟨F1,F2⟩:=z0l (P:=λx=>Pl W x c) (l:=M) hk;refine MA (some l) (some ⟨b,0,none⟩) (some ⟨b3,0,none⟩) (gi M (k:Int)) (R:=λe _ W4=>(∃X,Q0 X W3 W4/\∀x∈X,x<w2.heap.size)/\((e=.normal/\J ((M.take (k+1)).filter λx=>Pl W x c).length W4/\Q1 [] W4 (some ⟨bm,0,none⟩) 0 [.int .i64 (Gn (W.IE.length:Int) c lv)]/\Q1 [] W4 (some ⟨b3,0,none⟩) 0 [.func (.yield l0) #[] #[]])\/(e=.ret/\Jx () W4))) (by rw[fo4.size]; simpa using A07) (λq hq=>?_) ?_ λe vs a5 W4 hR _=>?_
  ·simp only[Ii,List.not_mem_nil,or_false] at hq;rcases hq with rfl | rfl | rfl
   ·exact⟨Ik rfl,q1⟩
   ·exact⟨Ik rfl,q3⟩
   ·exact⟨Ik rfl,q4⟩
  ·refine⟨rfl,p,vK.get 0 _ rfl,hp3.some,_,_,_,hp3.tasks,?_⟩;refine XJ 12 0 rfl (λj w5=>j<=12/\Q0 [] W3 w5/\∀i:Nat,i<j->(((Q7 W (i:Int)).IZ==gi M (k:Int))&&Zw W (i:Int) c)=false) (λw5 WT _=>⟨Ic _,WT,λi hi=>Ir hi (Nat.not_lt_zero i)⟩) λj w5 _ ⟨hj,zX,iX⟩=>⟨λIN=>?_,λRx wr WT=>?_⟩
   ·have IN:=Ot IN;have mP:j<12:=Qo;have hp5:=hp3.ext zX;refine⟨hp5.rd.t.ix QF Qo IN,_,_,_,_,_,_,_,_,_,hp5.rd.t j Qo IN,λb' fM=>⟨p,c,λ_=>vK.ext zX,_,λ_=>LX hp5 wp Qo IN c0 c1,λg=>?_,λg=>⟨⟨Qo,Qo⟩,λwr WT _=>Qp mP ⟨Qo,zX.trans WT,λi hi=>?_⟩⟩⟩⟩
    ·have g:(((Q7 W (j:Int)).IZ==gi M (k:Int))&&Zw W (j:Int) c)=true:=g;have Bh4:Pl W (gi M (k:Int)) c=true:=Pk.2 ⟨j,mP,g⟩;obtain⟨f1,f2,f3⟩:=F1 Bh4;refine⟨.yield l0,#[],#[],gH.ext zX,λI' WT hs6=>?_⟩;have hxa:=zX.trans WT;have hc:=hY _ I' f1 (hAJ _ _ _ [] hJ3 hxa Qs)
     dsimp only at hc
     rw[f2] at hc;have DM7:=zX.size;have DM8:=WT.size;have hb6:b'<I'.heap.size:=hs6 b' Qs;refine hc.mono λe w6 ⟨⟨X,hXX,hXl⟩,hr⟩=>?_
     have hk6:Q9 [b'] I' w6:=λx hm=>by
      have:x=b':=by simpa using hm
      subst this;exact hXX.block x hb6 λhmX=>by have:=hXl x hmX; omega
     have CY5:∀M',Q0 [b'] w6 M'->∃X,Q0 X W3 M'/\∀x∈X,x<w2.heap.size:=λM' eB=>⟨X,(hxa.of_nil.trans hXX).fresh eB λx hm=>.inl (by
      have:x=b':=by simpa using hm
      omega),λx hm=>by have:=hXl x hm; omega⟩
     have hby:∀y∈[b'],Wc.heap.size<=y:=by
      intro y hm;have:y=b':=by simpa using hm
      omega
     rcases hr with ⟨he,hJn⟩ | ⟨he,hJx⟩
     ·refine⟨true,he,hk6,λg=>(by cases g),λ_ M' eB=>⟨CY5 M' eB,.inl ⟨rfl,?_,?_,?_⟩⟩⟩
      ·rw[f3,Io];exact hAJ _ _ _ [b'] hJn eB hby
      ·exact Tc (Tc (hm3.ext hxa) hXX λhm=>by have:=hXl _ hm; omega) eB λhm=>by
        have:bm=b':=by simpa using hm
        have:=FL hm3;omega
      ·exact Tc (Tc (gH.ext hxa) hXX λhm=>by have:=hXl _ hm; omega) eB λhm=>by
        have:b3=b':=by simpa using hm
        have:=FL gH;omega
     ·exact⟨false,he,hk6,λ_ M' eB=>⟨CY5 M' eB,.inr ⟨rfl,hAx _ _ _ [b'] hJx eB hby⟩⟩,λg=>(by cases g)⟩
    ·have g:(((Q7 W (j:Int)).IZ==gi M (k:Int))&&Zw W (j:Int) c)=false:=g
     by_cases hij:i<j
     ·exact iX i hij
     ·have:i=j:=Qo;subst this; exact g
   ·have Rx:=Ou Rx;have:j=12:=Qo;subst this;have Bh4:Pl W (gi M (k:Int)) c=false:=zco iX;have hxa:=zX.trans WT;refine⟨⟨[],hxa,Qs⟩,.inl ⟨rfl,?_,hm3.ext hxa,gH.ext hxa⟩⟩;rw[F2 Bh4];exact hAJ _ _ _ [] hJ3 hxa Qs
  ·obtain⟨hX4,hr⟩:=hR;rcases hr with ⟨rfl,h1⟩ | ⟨rfl,h1⟩
   ·exact⟨hX4,h1⟩
   ·exact⟨hX4,rfl,h1⟩
 ·intro D W1 hD ⟨hJn,_⟩ hdD;rw[List.take_length] at hJn
  exact(EG (R:=λe W2=>(∃v,e=Ending.returned v)/\(J (M.filter λx=>Pl W x c).length W2\/Jx () W2)) (a:={ a3 with defers:=A8 D::a3.defers }) (D:=D) (by simp[hd3]) hdD noR λw' hx=>⟨⟨_,rfl⟩,.inl (hAJ _ _ _ [D] hJn hx λy hm=>by
   have:y=D:=by simpa using hm
   omega)⟩).1
 ·intro D cd W1 hD ⟨hcd,hJx⟩ hdD;subst hcd
  exact wpIn_ret (EG (R:=λe W2=>(∃v,e=Ending.returned v)/\(J (M.filter λx=>Pl W x c).length W2\/Jx () W2)) (a:={ a3 with defers:=A8 D::a3.defers }) (D:=D) (by simp[hd3]) hdD noR λw' hx=>⟨⟨_,rfl⟩,.inr (hAx _ _ _ [D] hJx hx λy hm=>by
   have:y=D:=by simpa using hm
   omega)⟩).2
end
theorem zm4(cs:List KI){c:Int}(c0:0<=c):∀k:Nat,k<=4->c<(k:Int)->(gi cs c).up=true->QZ (Vy cs k) c=true
 | 0,_,h,_=>by omega
 | k+1,hk,h,hu=>by
  have hl:=HV cs k Qo
  have hb:XU k<=8:=by
   have:k=0\/k=1\/k=2\/k=3:=Qo;rcases this with rfl | rfl | rfl | rfl <;> decide
  have key:=zn3 ⟨k,Qo⟩ ⟨(Vy cs k).toNat,Qo⟩ ⟨c.toNat,Qo⟩;rw[show ((⟨(Vy cs k).toNat,Qo⟩:Fin 8).val:Int)=Vy cs k by show (((Vy cs k).toNat:Nat):Int)=Vy cs k; omega,show ((⟨c.toNat,Qo⟩:Fin 4).val:Int)=c by show ((c.toNat:Nat):Int)=c; omega] at key;simp only[Vy]
  by_cases e:c=(k:Int)
  ·subst e;rw[C' hu,key hl.2];simp
  ·have ih:=zm4 cs c0 k Qo Qo hu;split
   ·rw[key hl.2,ih]; simp
   ·exact ih
theorem AF{cs:List KI}(h4:cs.length<=4){c:Int}(c0:0<=c)(c1:c<(cs.length:Int))(hu:(gi cs c).up=true):U1 cs≠0:=λe=>by
 have h:=zm4 cs c0 cs.length h4 c1 hu;rw[show Vy cs cs.length=0 from e] at h;have hr:=MK h;have:c=0\/c=1\/c=2\/c=3:=Qo;rcases this with rfl | rfl | rfl | rfl <;> exact Ir h Qd
theorem zx0{m c:Int}(c0:0<=c)(c4:c<4)(h:QZ m c=true)(hn:∀j:Int,0<=j->j<4->j≠c->QZ m j=false):EH m 4=1:=by
 have h0:=hn 0 Qd Qd;have h1:=hn 1 Qd Qd;have h2:=hn 2 Qd Qd;have h3:=hn 3 Qd Qd;have i0:((0:Nat):Int)=0:=rfl;have i1:((1:Nat):Int)=1:=rfl;have i2:((2:Nat):Int)=2:=rfl;have i3:((3:Nat):Int)=3:=rfl;have:c=0\/c=1\/c=2\/c=3:=Qo;simp only[EH,i0,i1,i2,i3];rcases this with rfl | rfl | rfl | rfl
 ·have e1:=h1 Qd; have e2:=h2 Qd; have e3:=h3 Qd; simp[h,e1,e2,e3]
 ·have e1:=h0 Qd; have e2:=h2 Qd; have e3:=h3 Qd; simp[h,e1,e2,e3]
 ·have e1:=h0 Qd; have e2:=h1 Qd; have e3:=h3 Qd; simp[h,e1,e2,e3]
 ·have e1:=h0 Qd; have e2:=h1 Qd; have e3:=h2 Qd; simp[h,e1,e2,e3]
theorem zvq{cs:List KI}(h4:cs.length<=4){c:Int}(c0:0<=c)(c1:c<(cs.length:Int))(hu:(gi cs c).up=true)(hn:EH (U1 cs) 4≠1):∃j:Int,0<=j/\j<(cs.length:Int)/\j≠c/\(gi cs j).up=true:=by
 refine Classical.byContradiction λbT=>hn (zx0 c0 Qo (zm4 cs c0 cs.length h4 c1 hu) λj j0 j4 hj=>?_)
 cases h:QZ (U1 cs) j with
 | false=>rfl
 | true=>
  obtain⟨a,b⟩:=zm3 cs (c:=j) cs.length h4 h;exact Ir ⟨j,j0,a,hj,b⟩ bT
theorem SW.S9{K:Int}{W:Q8}(h:SW K W){c:Int}(c0:0<=c)(c1:c<(W.IE.length:Int)){x:KI}(hu:U1 (W.IE.set c.toNat x)≠0)(h1 : -1<=x.cur)(h2:x.cur<12):SW K (S9 W c x):=by
 have hl:(W.IE.set c.toNat x).length=W.IE.length:=E';have hg:∀d:Int,0<=d->gi (W.IE.set c.toNat x) d=if c=d then x else gi W.IE d:=λd d0=>QM _ _ c0 c1 d0
 refine⟨h.a.cp hl hu,λt a b n=>?_,h.tv,λk d u a b=>?_,λd a b=>?_⟩
 ·show _/\_/\_<(((W.IE.set c.toNat x).length:Nat):Int);rw[hl];exact h.t t a b n
 ·have b:d<(((W.IE.set c.toNat x).length:Nat):Int):=b;rw[hl] at b;exact h.s k d u a b
 ·have b:d<(((W.IE.set c.toNat x).length:Nat):Int):=b;rw[hl] at b;show _<=(gi (W.IE.set c.toNat x) d).cur/\(gi (W.IE.set c.toNat x) d).cur<12;rw[hg _ a];split
  ·exact⟨h1,h2⟩
  ·exact h.cu d a b
noncomputable def Xn(W:Q8)(c:Int)(up:Bool)(last:Int):Int:=if YK W c=false then 1 else if (gi W.IE c).up≠up then 6 else if last≠0 then last else if QT W=false then 10 else 0
theorem zbc{W:Q8}{c:Int}{up:Bool}{last:Int}(h:Xn W c up last=0):YK W c=true/\(gi W.IE c).up=up/\last=0/\QT W=true:=by
 unfold Xn at h
 split at h
 ·cases h
 ·rename_i h1
  split at h
  ·cases h
  ·rename_i h2
   split at h
   ·rename_i h3; exact Ir h h3
   ·rename_i h3
    split at h
    ·cases h
    ·rename_i h4;exact⟨by simpa using h1,by simpa using h2,Qo,by simpa using h4⟩
theorem Ka{W:Q8}{c:Int}{up:Bool}{last:Int}(h1:YK W c=true)(h2:(gi W.IE c).up=up)(h3:last=0):Xn W c up last=if QT W=false then 10 else 0:=by
 unfold Xn;rw[B' (by rw[h1]; decide),B' (by simpa using h2),B' (by simpa using h3)]
def G6(x:KI)(b:Bool):KI:={ x with up:=b }
def z40(W:Q8)(c:Int):Q8:=Qg (DB (S9 W c (G6 (gi W.IE c) true)))
def Hb(W:Q8):Int:=if EH (U1 W.IE) 4=1 then 5 else 0
def zyc(W:Q8)(c:Int):Q8:=Qg (DB (Rz (S9 W c (G6 (gi W.IE c) false)) c))
theorem z2o{W:Q8}{c:Int}(hW:QD W=true)(hb:Xn W c false 0=0):0<=c/\c<(W.IE.length:Int)/\SF Qn (Qn+Qi) W/\SF Qn (Qn+Qi) (S9 W c (G6 (gi W.IE c) true)):=by
 obtain⟨h1,h2,_,h4⟩:=zbc hb;have wp:=Qj.1 hW;have sw:=MR wp (Qj.1 h4);obtain⟨c0,c1⟩:=US h1;have hcu:=sw.cu c c0 c1;have hl:(W.IE.set c.toNat (G6 (gi W.IE c) true)).length=W.IE.length:=E';have hc2:=wp.a.c2;exact⟨c0,c1,Lh sw,Lh (sw.S9 c0 c1 (x:=G6 (gi W.IE c) true) (AF Qo c0 Qo (by rw[QM _ _ c0 c1 c0,C' rfl]; rfl)) hcu.1 hcu.2)⟩
theorem zyd{W:Q8}{c:Int}(hW:QD W=true)(hb:Xn W c true (Hb W)=0):0<=c/\c<(W.IE.length:Int)/\SF Qn (Qn+Qi) W/\SF Qn (Qn+Qi) (S9 W c (G6 (gi W.IE c) false)):=by
 obtain⟨h1,h2,h3,h4⟩:=zbc hb;have wp:=Qj.1 hW;have sw:=MR wp (Qj.1 h4);obtain⟨c0,c1⟩:=US h1;have hcu:=sw.cu c c0 c1;have hl:(W.IE.set c.toNat (G6 (gi W.IE c) false)).length=W.IE.length:=E';have hc2:=wp.a.c2;have hn:EH (U1 W.IE) 4≠1:=λe=>by unfold Hb at h3; rw[C' e] at h3; cases h3
 obtain⟨j,j0,j1,jc,hj⟩:=zvq hc2 c0 c1 h2 hn;exact⟨c0,c1,Lh sw,Lh (sw.S9 c0 c1 (x:=G6 (gi W.IE c) false) (AF Qo j0 Qo (by rw[QM _ _ c0 c1 j0,B' λe=>jc e.symm]; exact hj)) hcu.1 hcu.2)⟩
theorem zbe(W:Q8)(c:Int)(x:KI)(m:MW):Qb (S9 W c x) m=Qb W m:=by simp[Qb,S9]
section
variable {W W':Q8}{m:MW}{w:Wo}
theorem zl3{c:Int}(h:XE [] w W m)(hl:Ua W) :
  Cz Kt #[.agg (Qb W m).toArray,I c] w λe w'=>∃v,e=.returned v/\QR (YY W (Xn W c false 0) (z40 W c)) w v w':=by
 refine zlj _ _ _ _ _ _ _ _ _ _ c (R:=λv w'=>QR (YY W (Xn W c false 0) (z40 W c)) w v w') ?_;intro y hy y1 cP wr R5 SR;have hm9:=ZV;have hlc:=hl.c;refine I3 (Zh (h.ext R5) hl) ?_;rintro e wv (⟨hW,he,SI⟩ | ⟨hW,m',he,hM,SI⟩)
 ·exact⟨_,_,_,_,_,_,_,_,_,_,_,he,Qf SI SR,λg=>by simp at g,true,λg=>by simp at g,λ_ I' R6=>QR.bad hW ((R5.trans SI).fresh R6 λz hm=>.inl (Xa hy cP z hm)),λg=>by simp at g⟩
 have hK:=Wk.begin hy cP R5 SR hM SI;have hr:=hK.rd;have wp:=Qj.1 hW;have hm0:=XD;refine⟨_,_,_,_,_,_,_,_,_,_,_,he,Qf SI SR,λ_=>⟨Qo,Qo⟩,YK W c,λ_=>Qm,λg I' R6=>?_,λg=>?_⟩
 ·have g:YK W c=false:=by
   cases hc:YK W c with
   | false=>rfl
   | true=>rw[hc] at g; split at g <;> simp at g
  have hb:Xn W c false 0=1:=by unfold Xn; rw[C' g]
  exact QR.no hW (by rw[hb]; decide) (hK.step R6) hb
 have g:YK W c=true:=by
  cases hc:YK W c with
  | true=>rfl
  | false=>rw[hc] at g; simp at g
 obtain⟨c0,c1⟩:=US g;refine⟨hr.c.ix Y6 c0 c1,_,hr.c.f c0 c1 (j:=0) rfl,λg2 M' R6=>?_,λg2=>⟨λg3 Rr R6=>?_,λg3=>?_⟩⟩
 ·have hb:Xn W c false 0=6:=by unfold Xn; rw[B' (by rw[g]; decide),C' (by rw[g2]; decide)]
  exact QR.no hW (by rw[hb]; decide) (hK.step R6) hb
 ·have aZ:¬QT W=true:=λhr=>by rw[C' hr] at g3; simp at g3
  have hb:Xn W c false 0=10:=by rw[Ka g g2 rfl,C' (by simpa using aZ)]
  rw[B' aZ];exact QR.no hW (by rw[hb]; decide) (hK.step R6) hb
 have aZ:QT W=true:=Iq λhr=>by rw[B' hr] at g3; simp at g3
 have hb:Xn W c false 0=0:=by rw[Ka g g2 rfl,B' (by rw[aZ]; decide)]
 obtain⟨_,_,_,sf⟩:=z2o hW hb;have SN:Wk 8 [y,y1] w (R9 wv m'.cO (Int.toNat c*5+0) [.bool true]) (S9 W c (G6 (gi W.IE c) true)) m':=hK.R9 (hK.own.Av9 c0 c1 (j:=0) (vs:=[.bool true]) (x:=G6 (gi W.IE c) true) rfl Qs) zfy;refine⟨hr.c.ix Y6 c0 c1,zzp hK.own hK.nb c0 c1 Qd,λRu SK eZ=>?_⟩;have e5:Qb (S9 W c (G6 (gi W.IE c) true)) m'=Qb W m':=zbe _ _ _ _;have hE:z40 W c=Qg (DB (S9 W c (G6 (gi W.IE c) true))):=rfl;rw[hE];generalize S9 W c (G6 (gi W.IE c) true)=V at SN sf e5;have dY:=SN.step SK;have Rq:=JQ dY.own sf (I2 _) (by simp only[Qi]; decide);rw[e5] at Rq;refine I3 Rq ?_;rintro e1 R8 ⟨gP,gH⟩;refine⟨_,_,_,_,_,_,_,_,_,_,gP,dY.kept gH eZ,λRN Sm kK=>?_⟩;have dR:=(dY.Sn gH eZ).step Sm;have aE:=QA dR.own (HP sf (I2 _)).1.w (by simp only[Qi]; decide) (by simp only[Qi]; decide) dR.base;rw[FY sf (I2 _),e5] at aE;refine I3 aE ?_;rintro e2 RF ⟨m2,aR,iY⟩;exact⟨_,_,_,_,_,_,_,_,_,_,aR,dR.kept iY kK,λSj WT=>QR.ok hW hb ((dR.Sn iY kK).step WT)⟩
theorem zhy{c:Int}(h:XE [] w W m)(hl:Ua W) :
  Cz Ms #[.agg (Qb W m).toArray,I c] w λe w'=>∃v,e=.returned v/\QR (YY W (Xn W c true (Hb W)) (zyc W c)) w v w':=by
 refine zhh _ _ _ _ _ _ _ _ _ _ c (R:=λv w'=>QR (YY W (Xn W c true (Hb W)) (zyc W c)) w v w') ?_;intro y hy y1 cP wr R5 SR;have hm0:=XD;have hlc:=hl.c;refine I3 (Zh (h.ext R5) hl) ?_;rintro e wv (⟨hW,he,SI⟩ | ⟨hW,m',he,hM,SI⟩)
 ·exact⟨_,_,_,_,_,_,_,_,_,_,_,he,Qf SI SR,λg=>by simp at g,true,λg=>by simp at g,λ_ I' R6=>QR.bad hW ((R5.trans SI).fresh R6 λz hm=>.inl (Xa hy cP z hm)),λg=>by simp at g⟩
 have hK:=Wk.begin hy cP R5 SR hM SI;have hr:=hK.rd;have wp:=Qj.1 hW;refine⟨_,_,_,_,_,_,_,_,_,_,_,he,Qf SI SR,λ_=>⟨Qo,Qo⟩,YK W c,λ_=>Qm,λg I' R6=>?_,λg=>?_⟩
 ·have g:YK W c=false:=by
   cases hc:YK W c with
   | false=>rfl
   | true=>rw[hc] at g; split at g <;> simp at g
  have hb:Xn W c true (Hb W)=1:=by unfold Xn; rw[C' g]
  exact QR.no hW (by rw[hb]; decide) (hK.step R6) hb
 have g:YK W c=true:=by
  cases hc:YK W c with
  | true=>rfl
  | false=>rw[hc] at g; simp at g
 obtain⟨c0,c1⟩:=US g;refine⟨hr.c.ix Y6 c0 c1,_,hr.c.f c0 c1 (j:=0) rfl,λg2 M' R6=>?_,λg2=>⟨_,Lz hr wp.a.c2,_,NY,λg3 Rr R6=>?_,λg3=>⟨λg4 Ru R6=>?_,λg4=>?_⟩⟩⟩
 ·have g2:(gi W.IE c).up=false:=by simpa using g2
  have hb:Xn W c true (Hb W)=6:=by unfold Xn; rw[B' (by rw[g]; decide),C' (by rw[g2]; decide)]
  exact QR.no hW (by rw[hb]; decide) (hK.step R6) hb
 ·have g2:(gi W.IE c).up=true:=by simpa using g2
  have hL:Hb W=5:=by unfold Hb; rw[C' (by simpa using g3)]
  have hb:Xn W c true (Hb W)=5:=by unfold Xn; rw[B' (by rw[g]; decide),B' (by rw[g2]; decide),hL,C' Qd]
  exact QR.no hW (by rw[hb]; decide) (hK.step R6) hb
 ·have g2:(gi W.IE c).up=true:=by simpa using g2
  have hL:Hb W=0:=by unfold Hb; rw[B' (by simpa using g3)]
  have aZ:¬QT W=true:=λhr=>by rw[C' hr] at g4; simp at g4
  have hb:Xn W c true (Hb W)=10:=by rw[Ka g g2 hL,C' (by simpa using aZ)]
  rw[B' aZ];exact QR.no hW (by rw[hb]; decide) (hK.step R6) hb
 have g2:(gi W.IE c).up=true:=by simpa using g2
 have hL:Hb W=0:=by unfold Hb; rw[B' (by simpa using g3)]
 have aZ:QT W=true:=Iq λhr=>by rw[B' hr] at g4; simp at g4
 have hb:Xn W c true (Hb W)=0:=by rw[Ka g g2 hL,B' (by rw[aZ]; decide)]
 obtain⟨_,_,_,sf⟩:=zyd hW hb;have SN:Wk 8 [y,y1] w (R9 wv m'.cO (Int.toNat c*5+0) [.bool false]) (S9 W c (G6 (gi W.IE c) false)) m':=hK.R9 (hK.own.Av9 c0 c1 (j:=0) (vs:=[.bool false]) (x:=G6 (gi W.IE c) false) rfl Qs) zfy;refine⟨hr.c.ix Y6 c0 c1,zzp hK.own hK.nb c0 c1 Qd,λRN Sm kK=>?_⟩;have e5:Qb (S9 W c (G6 (gi W.IE c) false)) m'=Qb W m':=zbe _ _ _ _;have hlV:(S9 W c (G6 (gi W.IE c) false)).IE.length=W.IE.length:=by simp[S9]
 have hE:zyc W c=Qg (DB (Rz (S9 W c (G6 (gi W.IE c) false)) c)):=rfl;rw[hE];generalize S9 W c (G6 (gi W.IE c) false)=V at SN sf e5 hlV;have c1V:c<(V.IE.length:Int):=by rw[hlV]; exact c1
 have dY:=SN.step Sm;have Bh7:=ZG dY.own c0 c1V;rw[e5] at Bh7;refine I3 Bh7 ?_;rintro e0 wv0 ⟨he0,hy0⟩;refine⟨_,_,_,_,_,_,_,_,_,_,he0,dY.kept hy0 kK,λSj WT hs6=>?_⟩;have sfE:=sf.Rz c0 c1V;have uH:=(dY.Sn hy0 kK).step WT;generalize Rz V c=U at uH sfE;have Rq:=JQ uH.own sfE (I2 _) (by simp only[Qi]; decide);refine I3 Rq ?_;rintro e1 R8 ⟨gP,gH⟩;refine⟨_,_,_,_,_,_,_,_,_,_,gP,uH.kept gH hs6,λSM eB hs7=>?_⟩;have hK7:=(uH.Sn gH hs6).step eB;have aE:=QA hK7.own (HP sfE (I2 _)).1.w (by simp only[Qi]; decide) (by simp only[Qi]; decide) hK7.base;rw[FY sfE (I2 _)] at aE;refine I3 aE ?_;rintro e2 RF ⟨m2,aR,iY⟩;exact⟨_,_,_,_,_,_,_,_,_,_,aR,hK7.kept iY hs7,λV' oQ=>QR.ok hW hb ((hK7.Sn iY hs7).step oQ)⟩
theorem zdu{base pb:Nat}{cap cap1 Bg3 Bg4:OA}{c:Int}{up:Bool}{last:Int}{lf cf:Fn}{la lk ca ck:Array Va}(h:PW base pb w W m)(hW:QD W=true)(h0:Q1 [] w cap 0 [I c])(h1:Q1 [] w cap1 0 [.bool up])(h2:Q1 [] w Bg3 0 [.func lf la lk])(h3:Q1 [] w Bg4 0 [.func cf ca ck])(AZ8:∀w1,Q0 [] w w1->Tb Tryz.prog (.func lf la lk) [.pointer (pA pb)] w1 λe w2=>(last≠0/\e=.returned (.iface Zp (.agg #[I last]))\/last=0/\e=.returned .nilIface)/\Q0 [] w1 w2)(Rq:Xn W c up last=0->∀w1,Q0 [] w w1->Tb Tryz.prog (.func cf ca ck) [.pointer (pA pb),.agg #[.pointer (pA pb),I c]] w1 λe w2=>e=.returned (.tuple #[])/\∃m2,E4 base pb [] w1 m w2 W' m2) :
  Cz J5 #[.pointer (pA pb),.pointer cap,.pointer cap1,.pointer Bg3,.pointer Bg4] w λe w2=>(Xn W c up last≠0/\e=.returned (.iface Zp (.agg #[I (Xn W c up last)]))/\Q0 [] w w2)\/(Xn W c up last=0/\e=.returned .nilIface/\∃m2,E4 base pb [] w m w2 W' m2):=by
 have wp:=Qj.1 hW;have hp:=(Mp.start h).wpt
 refine(Di (pA pb) cap cap1 Bg3 Bg4 (R:=λv w2=>(Xn W c up last≠0/\v=.iface Zp (.agg #[I (Xn W c up last)])/\Q0 [] w w2)\/(Xn W c up last=0/\v=.nilIface/\∃m2,E4 base pb [] w m w2 W' m2)) ?_).mono λe w' ⟨v,he,h3⟩=>by
  rw[he];rcases h3 with ⟨a,b,c⟩ | ⟨a,b,c⟩
  ·exact .inl ⟨a,by rw[b],c⟩
  ·exact .inr ⟨a,by rw[b],c⟩
 have hc2:=wp.a.c2;have hm9:=ZV;refine⟨c,h0,YK W c,LY hp Qo,λg wr hx=>.inl ?_,λg=>?_⟩
 ·have hb:Xn W c up last=1:=by unfold Xn; rw[C' (by simpa using g)]
  rw[hb];exact⟨Qd,rfl,hx⟩
 have g:YK W c=true:=by simpa using g
 obtain⟨c0,c1⟩:=US g;refine⟨hp.some,_,_,_,hp.IE,c,h0,hp.rd.c.ix Y6 c0 c1,_,hp.rd.c.f c0 c1 (j:=0) rfl,up,h1,λg2 wr hx=>.inl ?_,λg2=>⟨lf,la,lk,h2,λwr hx _=>?_⟩⟩
 ·have g2:(gi W.IE c).up≠up:=by simpa using g2
  have hb:Xn W c up last=6:=by unfold Xn; rw[B' (by rw[g]; decide),C' g2]
  rw[hb];exact⟨Qd,rfl,hx⟩
 have g2:(gi W.IE c).up=up:=by simpa using g2
 refine(AZ8 wr hx).mono λe w2 ⟨hA,hy⟩=>?_
 rcases hA with ⟨a1,a2⟩ | ⟨a1,a2⟩
 ·have hb:Xn W c up last=last:=by unfold Xn; rw[B' (by rw[g]; decide),B' (by simpa using g2),C' a1]
  refine⟨_,a2,Ys,true,λwq=>by kernel_rfl,λ_ Rr R6=>.inl ?_,λg=>by cases g⟩;rw[hb];exact⟨a1,rfl,(hx.trans hy).trans R6⟩
 ·have hM:=(Mp.start h).nil (hx.trans hy);have cN:=hM.wpt;refine⟨_,a2,Ys,false,λwq=>by kernel_rfl,λg=>(by cases g),λ_=>⟨_,zl0 cN wp.a,λg3 Ru SK=>.inl ?_,λg3=>?_⟩⟩
  ·have g3:QT W=false:=by simpa using g3
   have hb:Xn W c up last=10:=by rw[Ka g g2 a1,C' g3]
   rw[hb];exact⟨Qd,rfl,(hx.trans hy).trans SK⟩
  have g3:QT W=true:=by simpa using g3
  have hb:Xn W c up last=0:=by rw[Ka g g2 a1,B' (by rw[g3]; decide)]
  refine⟨cf,ca,ck,h3.ext (hx.trans hy),c,h0.ext (hx.trans hy),pA pb,c,ZR,λRN Sm _=>?_⟩;refine(Rq hb RN ((hx.trans hy).trans Sm)).mono λe1 w3 ⟨b1,m2,b2⟩=>?_
  exact⟨b1,Ys,λSj WT=>.inr ⟨hb,rfl,m2,(b2.pre ((hx.trans hy).trans Sm)).post WT⟩⟩
theorem zly{c:Int}{up:Bool}{last:Int}{lf cf:Fn}{la lk ca ck:Array Va}(h:XE [] w W m)(hl:Ua W)(hg:K7 w)(AZ8:∀(base pb:Nat) (w1:Wo) (m1:MW),QD W=true->PW base pb w1 W m1->Tb Tryz.prog (.func lf la lk) [.pointer (pA pb)] w1 λe w2=>(last≠0/\e=.returned (.iface Zp (.agg #[I last]))\/last=0/\e=.returned .nilIface)/\Q0 [] w1 w2)(Rq:∀(base pb:Nat) (w1:Wo) (m1:MW),QD W=true->Xn W c up last=0->Q0 [] w w1->w.heap.size<=base->base<=pb->PW base pb w1 W m1->Tb Tryz.prog (.func cf ca ck) [.pointer (pA pb),.agg #[.pointer (pA pb),I c]] w1 λe w2=>e=.returned (.tuple #[])/\∃m2,E4 base pb [] w1 m1 w2 W' m2) :
  Cz VW #[.agg (Qb W m).toArray,I c,.bool up,.func lf la lk,.func cf ca ck] w λe w'=>∃v,e=.returned v/\QR (YY W (Xn W c up last) W') w v w':=by
 refine FO _ _ _ _ _ _ _ _ _ _ c up lf la lk cf ca ck (R:=λv w'=>QR (YY W (Xn W c up last) W') w v w') ?_;intro x hx b1 wb RZ cJ sS hn1 b2 vT hxb bR hc2 hn2 b3 wb2 CB2 vK hc3 hn3 b4 wb3 Bv7 hb4 hc4 hn4 b5 hb5 wr R5 hs;have hX0:Q0 [] w vT:=RZ.fresh hxb λy hy=>.inl (Bj hy hx)
 have hX1:Q0 [] w wb2:=hX0.fresh CB2 λy hy=>.inl (Bj hy hx)
 have hX3:Q0 [] w wb3:=hX1.fresh Bv7 λy hy=>.inl (Bj hy hx)
 have hX:Q0 [] w wr:=hX3.fresh R5 λy hy=>.inl (Bj hy hx)
 have c1:=QB (QB (QB (QB sS hxb hn1) CB2 hn1) Bv7 hn1) R5 hn1;have c2:=QB (QB (QB hc2 CB2 hn2) Bv7 hn2) R5 hn2;have c3:=QB (QB hc3 Bv7 hn3) R5 hn3;have c4:=QB hc4 R5 hn4;have cell:∀{b:Nat} {v:Va} {t:TypeId} {w1:Wo},wr.heap[b]? = some (Obj.cells ([v]:List Va).toArray t (0,0))->Q0 [] wr w1->Q1 [] w1 (some ⟨b,0,none⟩) 0 [v]:=λhb hx=>U2 (QB hb hx Qs) Qs (k0:=0) rfl
 refine I3 (zuk (bar:=Xn W c up last) (W':=W') (h.ext hX) hl (hg.ext hX) λw1 pb m1 hW R6 hpb hP=>.inl ⟨J5,_,rfl,zdu hP hW (cell c1 R6) (cell c2 R6) (cell c3 R6) (cell c4 R6) (λw9 gL=>AZ8 _ pb w9 m1 hW (hP.Wt gL)) λhb w9 gL=>Rq _ pb w9 m1 hW hb ((hX.trans R6).trans gL) hX.size hpb (hP.Wt gL)⟩) ?_;rintro e wv ⟨v,he,n',m',hv,hM,hy⟩;subst hv;refine⟨_,_,_,_,_,_,_,_,_,_,_,he,Qf hy hs,λI' SK=>⟨n',m',rfl,(hM.ext SK λy hy hm=>?_).mono hX.size,(hX.trans hy).fresh SK λy hm=>?_⟩⟩
 ·have:=(hM.lt y hy).1;have:=hs y hm;omega
 ·simp only[Ii,List.not_mem_nil,or_false] at hm;rcases hm with rfl | rfl
  ·exact .inl hx
  ·exact .inl (IB hX3.size hb5)
theorem zun{p:OA}{bs:List Nat}:PX bs VD #[.pointer p] w .nilIface:=zey p λ_ _=>rfl
end
noncomputable def Kk(W:Q8)(t:Int):Int:=if ZB W t=false then 2 else if (Q7 W t).state≠2 then 6 else if QT W=false then 10 else 0
def MV(W:Q8)(t:Int):Int:=if zou W (Q7 W t).IZ>0 then K2 W (Qx W (Q7 W t).group (Q7 W t).mask) else (Q7 W t).IZ
def O2(W:Q8)(t c:Int):Lm:={ T6 W t (Q7 W t).group c with state:=1 }
def AZ(W:Q8)(t:Int):Q8:=Qg (Rz (IU W t (O2 W t (MV W t))) (MV W t))
theorem Td(W:Q8)(t:Int)(x:Lm):(IU W t x).tasks.length=W.tasks.length:=by simp[IU]
theorem zs7{W:Q8}{t:Int}(h:(Q7 W t).state=2)(c:Int):XW W t (Q7 W t).group c=IU W t (T6 W t (Q7 W t).group c):=by
 unfold XW;rw[B' (by rw[h]; decide)]
theorem zm6{W:Q8}{t c:Int}(sf:SF Qn (Qn+Qi) W)(t0:0<=t)(t1:t<(W.tasks.length:Int))(n:(Q7 W t).state≠0)(c0:0<=c)(c1:c<(W.IE.length:Int)):SF Qn (Qn+Qi) (IU W t (O2 W t c)):=by
 have hl:=sf.w.a.t;have hu:=(sf.w.t t t0 Qo n).1;have hv:=zs6 sf (I2 _) (t:=t) hu c0 c1;exact sf.IU t0 Qo (x:=O2 W t c) (λ_=>⟨hu,c0,c1⟩) hv.1 hv.2
theorem ztp{W:Q8}{t:Int}(hW:QD W=true)(hb:Kk W t=0):ZB W t=true/\(Q7 W t).state=2/\QT W=true/\SF Qn (Qn+Qi) W/\0<=MV W t/\MV W t<(W.IE.length:Int):=by
 have wp:=Qj.1 hW;unfold Kk at hb
 split at hb
 ·cases hb
 ·rename_i h1
  split at hb
  ·cases hb
  ·rename_i h2
   split at hb
   ·cases hb
   ·rename_i h3;have h1:ZB W t=true:=by simpa using h1
    have h2:(Q7 W t).state=2:=by simpa using h2
    have h3:QT W=true:=by simpa using h3
    have sw:=MR wp (Qj.1 h3);obtain⟨t0,t1,n⟩:=Yv h1;have hl:=wp.a.t;have hc:=sw.t t t0 Qo n;refine⟨h1,h2,h3,Lh sw,?_⟩;unfold MV;split
    ·have:=HN wp.a (Q7 W t).group (Q7 W t).mask;exact⟨this.1,this.2.1⟩
    ·exact hc.2
section
variable {base pb:Nat}{W W':Q8}{m:MW}{w:Wo}
theorem z8{t:Int}(h:XE [] w W m)(hl:Ua W) :
  Cz Om #[.agg (Qb W m).toArray,I t] w λe w'=>∃v,e=.returned v/\QR (YY W (Kk W t) (AZ W t)) w v w':=by
 refine CT _ _ _ _ _ _ _ _ _ _ t (R:=λv w'=>QR (YY W (Kk W t) (AZ W t)) w v w') ?_;intro y hy y1 cP wr R5 SR;refine I3 (Zh (h.ext R5) hl) ?_;rintro e wv (⟨hW,he,SI⟩ | ⟨hW,m',he,hM,SI⟩)
 ·exact⟨_,_,_,_,_,_,_,_,_,_,_,he,Qf SI SR,λ_ I' R6=>QR.bad hW ((R5.trans SI).fresh R6 λz hm=>.inl (Xa hy cP z hm)),λg=>by simp at g⟩
 have hK:=Wk.begin hy cP R5 SR hM SI;have hr:=hK.rd;have wp:=Qj.1 hW;refine⟨_,_,_,_,_,_,_,_,_,_,_,he,Qf SI SR,λg=>by split at g <;> simp at g,λ_=>⟨_,Xx hr hl.t,λg M' R6=>?_,λg=>?_⟩⟩
 ·have g:ZB W t=false:=by simpa using g
  have hb:Kk W t=2:=by unfold Kk; rw[C' g]
  exact QR.no hW (by rw[hb]; decide) (hK.step R6) hb
 have g:ZB W t=true:=by simpa using g
 obtain⟨t0,t1,tn⟩:=Yv g;have eM:=wp.a.t;have Wg:=hr.t.ix QF t0 t1;refine⟨Wg,_,hr.t.f t0 t1 (j:=0) rfl,λg2 Rr R6=>?_,λg2=>⟨λg3 Ru R6=>?_,λg3=>?_⟩⟩
 ·have g2:(Q7 W t).state≠2:=by simpa[Q7] using g2
  have hb:Kk W t=6:=by unfold Kk; rw[B' (by rw[g]; decide),C' g2]
  exact QR.no hW (by rw[hb]; decide) (hK.step R6) hb
 ·have g2:¬(Q7 W t).state≠2:=by simpa[Q7] using g2
  have aZ:¬QT W=true:=λhr=>by rw[C' hr] at g3; simp at g3
  have hb:Kk W t=10:=by unfold Kk; rw[B' (by rw[g]; decide),B' g2,C' (by simpa using aZ)]
  rw[B' aZ];exact QR.no hW (by rw[hb]; decide) (hK.step R6) hb
 have g2:¬(Q7 W t).state≠2:=by simpa[Q7] using g2
 have aZ:QT W=true:=Iq λhr=>by rw[B' hr] at g3; simp at g3
 have hb:Kk W t=0:=by unfold Kk; rw[B' (by rw[g]; decide),B' g2,B' (by rw[aZ]; decide)]
 have CT3:(Q7 W t).state=2:=by simpa using g2
 obtain⟨_,_,_,sf,_,_⟩:=ztp hW hb;obtain⟨hu,c0,c1⟩:=sf.w.t t t0 Qo tn;refine⟨Wg,_,hr.t.f t0 t1 (j:=2) rfl,_,PA hr eM,λg4=>?_,λg4=>?_⟩
 ·have g4:zou W (Q7 W t).IZ>0:=Ot g4;have hC:MV W t=K2 W (Qx W (Q7 W t).group (Q7 W t).mask):=C' g4;obtain⟨d0,d1,_⟩:=HN wp.a (Q7 W t).group (Q7 W t).mask;refine⟨Wg,_,hr.t.f t0 t1 (j:=1) rfl,Wg,_,hr.t.f t0 t1 (j:=4) rfl,_,XI hr wp.a.c2 wp.a.tree hu,_,G1 hr wp.a (zxv wp),Wg,_,hr.t.f t0 t1 (j:=1) rfl,λRN Sm kK=>?_⟩;have gN:=hK.step Sm;have Rq:=Vu gN.own sf (I2 _) (by simp only[Qi]; decide) (t:=t) (g:=(Q7 W t).group) (c:=K2 W (Qx W (Q7 W t).group (Q7 W t).mask)) t0 Qo tn hu d0 d1;refine I3 Rq ?_;rintro e1 R8 ⟨gP,gH⟩;rw[zs7 CT3 (K2 W (Qx W (Q7 W t).group (Q7 W t).mask))] at gH;have dR:=gN.Sn gH kK
  have SN:Wk 8 [y,y1] w (R9 R8 m'.tO (Int.toNat t*9+0) [I 1]) (IU W t (O2 W t (K2 W (Qx W (Q7 W t).group (Q7 W t).mask)))) m':=by
   have:Wk 8 [y,y1] w (R9 R8 m'.tO (Int.toNat t*9+0) [I 1]) (IU (IU W t (T6 W t (Q7 W t).group (K2 W (Qx W (Q7 W t).group (Q7 W t).mask)))) t (O2 W t (K2 W (Qx W (Q7 W t).group (Q7 W t).mask)))) m':=dR.R9 (dR.own.AD6 t0 (by rw[Td]; exact t1) (j:=0) (vs:=[I 1]) (x:=O2 W t (K2 W (Qx W (Q7 W t).group (Q7 W t).mask))) (by rw[show gi (IU W t (T6 W t (Q7 W t).group (K2 W (Qx W (Q7 W t).group (Q7 W t).mask)))).tasks t=_ from LK t0 t1]; rfl) Qs) Hm
   rwa[set_set] at this
  have B88:Ix m'.tO W.tasks.length t:=by
   have:=dR.rd.t.ix QF t0 (by rw[Td]; exact t1)
   rwa[Td] at this
  refine⟨_,_,_,_,_,_,_,_,_,_,gP,gN.kept gH kK,B88,zts dR.own dR.nb t0 (by rw[Td]; exact t1) (j:=0) Qd,λSj WT hs6=>?_⟩;have e5:Qb (IU W t (O2 W t (K2 W (Qx W (Q7 W t).group (Q7 W t).mask)))) m'=Qb W m':=Kb _ _ _ _;have hE:AZ W t=Qg (Rz (IU W t (O2 W t (K2 W (Qx W (Q7 W t).group (Q7 W t).mask)))) (K2 W (Qx W (Q7 W t).group (Q7 W t).mask))):=by unfold AZ; rw[hC]
  have sfV:=zm6 sf t0 t1 tn d0 d1;rw[hE];have hlV:(IU W t (O2 W t (K2 W (Qx W (Q7 W t).group (Q7 W t).mask)))).IE.length=W.IE.length:=rfl;generalize IU W t (O2 W t (K2 W (Qx W (Q7 W t).group (Q7 W t).mask)))=V at SN e5 sfV hlV;have uH:=SN.step WT;have aE:=ZG uH.own d0 (by rw[hlV]; exact d1);rw[e5] at aE;refine I3 aE ?_;rintro e2 RF ⟨aR,iY⟩;refine⟨_,_,_,_,_,_,_,_,_,_,aR,uH.kept iY hs6,λSM eB hs7=>?_⟩;have hK7:=(uH.Sn iY hs6).step eB;have sU:=QA hK7.own (sfV.Rz d0 (by rw[hlV]; exact d1)).w (by simp only[Qi]; decide) (by simp only[Qi]; decide) hK7.base;refine I3 sU ?_;rintro e3 RU ⟨m2,jR,hy5⟩;exact⟨_,_,_,_,_,_,_,_,_,_,jR,hK7.kept hy5 hs7,λV' oQ=>QR.ok hW hb ((hK7.Sn hy5 hs7).step oQ)⟩
 ·have g4:¬zou W (Q7 W t).IZ>0:=Ou g4;have hC:MV W t=(Q7 W t).IZ:=B' g4;have d0:=c0;have d1:=c1;refine⟨Wg,_,hr.t.f t0 t1 (j:=1) rfl,λRN Sm kK=>?_⟩;have gN:=hK.step Sm;have Rq:=Vu gN.own sf (I2 _) (by simp only[Qi]; decide) (t:=t) (g:=(Q7 W t).group) (c:=(Q7 W t).IZ) t0 Qo tn hu d0 d1;refine I3 Rq ?_;rintro e1 R8 ⟨gP,gH⟩;rw[zs7 CT3 ((Q7 W t).IZ)] at gH;have dR:=gN.Sn gH kK
  have SN:Wk 8 [y,y1] w (R9 R8 m'.tO (Int.toNat t*9+0) [I 1]) (IU W t (O2 W t ((Q7 W t).IZ))) m':=by
   have:Wk 8 [y,y1] w (R9 R8 m'.tO (Int.toNat t*9+0) [I 1]) (IU (IU W t (T6 W t (Q7 W t).group ((Q7 W t).IZ))) t (O2 W t ((Q7 W t).IZ))) m':=dR.R9 (dR.own.AD6 t0 (by rw[Td]; exact t1) (j:=0) (vs:=[I 1]) (x:=O2 W t ((Q7 W t).IZ)) (by rw[show gi (IU W t (T6 W t (Q7 W t).group ((Q7 W t).IZ))).tasks t=_ from LK t0 t1]; rfl) Qs) Hm
   rwa[set_set] at this
  have B88:Ix m'.tO W.tasks.length t:=by
   have:=dR.rd.t.ix QF t0 (by rw[Td]; exact t1)
   rwa[Td] at this
  refine⟨_,_,_,_,_,_,_,_,_,_,gP,gN.kept gH kK,B88,zts dR.own dR.nb t0 (by rw[Td]; exact t1) (j:=0) Qd,λSj WT hs6=>?_⟩;have e5:Qb (IU W t (O2 W t ((Q7 W t).IZ))) m'=Qb W m':=Kb _ _ _ _;have hE:AZ W t=Qg (Rz (IU W t (O2 W t ((Q7 W t).IZ))) ((Q7 W t).IZ)):=by unfold AZ; rw[hC]
  have sfV:=zm6 sf t0 t1 tn d0 d1;rw[hE];have hlV:(IU W t (O2 W t ((Q7 W t).IZ))).IE.length=W.IE.length:=rfl;generalize IU W t (O2 W t ((Q7 W t).IZ))=V at SN e5 sfV hlV;have uH:=SN.step WT;have aE:=ZG uH.own d0 (by rw[hlV]; exact d1);rw[e5] at aE;refine I3 aE ?_;rintro e2 RF ⟨aR,iY⟩;refine⟨_,_,_,_,_,_,_,_,_,_,aR,uH.kept iY hs6,λSM eB hs7=>?_⟩;have hK7:=(uH.Sn iY hs6).step eB;have sU:=QA hK7.own (sfV.Rz d0 (by rw[hlV]; exact d1)).w (by simp only[Qi]; decide) (by simp only[Qi]; decide) hK7.base;refine I3 sU ?_;rintro e3 RU ⟨m2,jR,hy5⟩;exact⟨_,_,_,_,_,_,_,_,_,_,jR,hK7.kept hy5 hs7,λV' oQ=>QR.ok hW hb ((hK7.Sn hy5 hs7).step oQ)⟩
end
theorem zkq{a b w:Int}(ha:0<=a)(hb:0<=b)(h:a+b<=100000000)(w1:1<=w)(w2:w<=20):Ze (a+b) w=Ze a w+Ze b w:=by
 rw[Ph Qo h w1 w2,Ph ha Qo w1 w2,Ph hb Qo w1 w2,Int.add_mul]
theorem zup{l w:Int}(h0:0<=l)(h1:l<=ZM w):ZT l w=l:=by
 unfold ZT;rw[B' (show ¬ZM w<l by omega)]
 split <;> omega
theorem KK{p q:Nat->Bool}:∀{n:Nat},(∀j,j<n->p j=q j)->O8 p n=O8 q n
 | 0,_=>rfl
 | n+1,h=>by simp only[O8]; rw[KK λj hj=>h j Qo,h n Qo]
theorem Kg{p q:Nat->Bool}{v u:Nat->Int}:∀{n:Nat},(∀j,j<n->p j=q j)->(∀j,j<n->p j=true->v j=u j)->QY p v n=QY q u n
 | 0,_,_=>rfl
 | n+1,h,hv=>by
  have ih:=Kg (p:=p) (q:=q) (v:=v) (u:=u) (n:=n) (λj hj=>h j Qo) λj hj=>hv j Qo
  simp only[QY];rw[ih,<-h n Qo]
  cases hp:p n with
  | false=>simp
  | true=>
   rw[hv n Qo hp];rcases Zu q u n with ⟨e,_⟩ | ⟨e0,e1,e2,_⟩
   ·rw[e]; simp
   ·rw[hv _ Qo (by rw[h _ Qo]; exact e2)]
theorem YQ{gs:List ZX}(ht:Y8 gs):∀g:Int,Q6 gs g=true->∀x∈QP gs g,Q6 gs x=true/\x≠0:=
 Pf ht (λx hx=>by rw[show QP gs 0=[] from Zi _ _] at hx; cases hx) λh hu hz ih x hx=>by
  rw[Yt ht hu hz] at hx;rcases Ii.1 hx with e | e
  ·subst e; exact⟨hu,hz⟩
  ·exact ih x e
def T8(W:Q8)(k c:Int):Prop:=(Qa W (gi W.ID k).parent c).floor<=(Qa W k c).v/\(Qa W k c).v-(Qa W (gi W.ID k).parent c).floor<=ZM (Qa W k c).w
structure Fd (W:Q8) (x:Lm):Prop where
 st:x.state=1\/x.state=2
 g:Q6 W.ID x.group=true
 n:Qe x.nice≠0
 m:M1 x.mask=true
 m0:x.mask≠0
 s:ZW x.sum=true
 u:ZW x.used=true
 l1:0<=x.load
 l2:x.load<=8000000
 f:x.state=1->(Qa W x.group x.IZ).floor<=x.v/\x.v-(Qa W x.group x.IZ).floor<=ZM (Qe x.nice)
structure zpo (W:Q8) (k c:Int):Prop where
 s:ZW (Qa W k c).sum=true
 root:k=0->(Qa W k c).on=false/\(Qa W k c).v=0/\(Qa W k c).w=10
 st:k≠0->(Qa W k c).on=true->T8 W k c
structure z2t (W:Q8) (c:Int):Prop where
 b:ZW (gi W.IE c).busy=true
 i:ZW (gi W.IE c).idle=true
 c1 : -1<=(gi W.IE c).cur
 c2:(gi W.IE c).cur<12
 no:(gi W.IE c).cur<0->(gi W.IE c).WQ=0
 yes:0<=(gi W.IE c).cur->(gi W.IE c).up=true/\1<=(gi W.IE c).WQ/\(gi W.IE c).WQ<=149
 q:0<=(gi W.IE c).cur->(Q7 W (gi W.IE c).cur).state=1->(Q7 W (gi W.IE c).cur).IZ=c->
  (Q7 W (gi W.IE c).cur).v-(Qa W (Q7 W (gi W.IE c).cur).group c).floor<=Ze (gi W.IE c).WQ (Qe (Q7 W (gi W.IE c).cur).nice)/\
  ∀x∈QP W.ID (Q7 W (gi W.IE c).cur).group,T8 W x c/\(Qa W x c).v-(Qa W (gi W.ID x).parent c).floor<=Ze (gi W.IE c).WQ (Qa W x c).w
structure PreA (W:Q8):Prop where
 a:WA W
 t:∀t:Int,0<=t->t<12->(Q7 W t).state=0/\Q7 W t=Oc\/(Q7 W t).state≠0/\Fd W (Q7 W t)
 l:∀t:Int,0<=t->t<12->(Q7 W t).state≠0->0<=(Q7 W t).IZ/\(Q7 W t).IZ<(W.IE.length:Int)
 s:∀k c:Int,Q6 W.ID k=true->0<=c->c<(W.IE.length:Int)->zpo W k c
structure O4 (W:Q8):Prop extends PreA W where
 c:∀c:Int,0<=c->c<(W.IE.length:Int)->z2t W c
def zbs(W:Q8):Prop:=∀t:Int,0<=t->t<12->(Q7 W t).state≠0->QZ (Qx W (Q7 W t).group (Q7 W t).mask) (Q7 W t).IZ=true
def z5f(W:Q8):Prop:=∀k c:Int,Q6 W.ID k=true->0<=c->c<(W.IE.length:Int)->Zx W k c 20=true->Z2 W k c 20<=(Qa W k c).floor
theorem BK{v f k:Int}(hv:ZW v=true)(hf:ZW f=true):KG v f k=true↔f<=v/\v-f<=ZM k:=by
 have h1:=Xl.1 hv;have h2:=Xl.1 hf;have hw:IntKind.i64.wrap (v-f)=v-f:=Ql.wrap (k:=.i64) ⟨by show _<=v-f; omega,by show v-f<=_; omega⟩;unfold KG;rw[hw];simp
theorem Vn{W:Q8}(wp:YI W):zbs W:=λt t0 t1 n=>by
 rcases wp.t t t0 t1 with h | h
 ·exact Ir h.1 n
 ·exact h.2.c
theorem F3{W:Q8}(wp:YI W){k c:Int}(hu:Q6 W.ID k=true)(c0:0<=c)(c1:c<(W.IE.length:Int)):Ko W k c:=by
 obtain⟨u0,u1,_⟩:=wp.a.u hu;have hl:=wp.a.sl hu;exact wp.s k c u0 u1 c0 Qo
theorem XL{W:Q8}(wp:YI W):O4 W:=by
 have oH:∀k c:Int,Q6 W.ID k=true->k≠0->0<=c->c<(W.IE.length:Int)->(Qa W k c).on=true->T8 W k c:=λk c hu hz c0 c1 ho=>by
  have h1:=F3 wp hu c0 c1;have h2:=F3 wp (wp.a.up hu hz) c0 c1;exact(BK h1.v h2.f).1 (h1.st hz ho)
 refine⟨⟨wp.a,λt t0 t1=>?_,λt t0 t1 n=>?_,λk c hu c0 c1=>?_⟩,λc c0 c1=>?_⟩
 ·rcases wp.t t t0 t1 with h | ⟨n,h⟩
  ·exact .inl h
  ·refine .inr ⟨n,h.st,h.g,h.n,h.m,h.m0,h.s,h.u,h.l1,h.l2,λh1=>?_⟩;obtain⟨d0,d1⟩:=GB wp.a h.c;exact(BK h.v (F3 wp h.g d0 d1).f).1 (h.f h1)
 ·rcases wp.t t t0 t1 with h | ⟨_,h⟩
  ·exact Ir h.1 n
  ·exact GB wp.a h.c
 ·have h:=F3 wp hu c0 c1;exact⟨h.s,h.root,λhz ho=>oH k c hu hz c0 c1 ho⟩
 ·have h:=wp.c c c0 c1;have hl:=wp.a.t;refine⟨h.b,h.i,h.c1,by have:=h.c2; omega,h.no,λh0=>⟨(h.yes h0).1,(h.yes h0).2.1,(h.yes h0).2.2.1⟩,λh0 h1 h2=>?_⟩;obtain⟨_,_,_,_,mY,BM6⟩:=h.yes h0;unfold MQ at BM6;rw[A',Ij] at BM6;refine⟨BM6.1,λx hx=>?_⟩
  have hu:Q6 W.ID (Q7 W (gi W.IE c).cur).group=true:=by
   rcases wp.t _ h0 (by have:=h.c2; omega) with hz | ⟨_,hz⟩
   ·rw[hz.1] at h1; cases h1
   ·exact hz.g
  obtain⟨xu,xz⟩:=YQ wp.a.tree _ hu x hx;unfold Z3 Vb at mY;rw[A',h2,List.all_eq_true] at mY;have hs:=BM6.2;unfold Oa at hs;rw[List.all_eq_true] at hs;exact⟨oH x c xu xz c0 c1 (mY.2 x hx),Ot (hs x hx)⟩
structure BX (c:Int) (W W':Q8):Prop where
 n:W'.now=W.now
 t:W'.tasks=W.tasks
 g:Z1 W.ID W'.ID
 len:W'.IE.length=W.IE.length
 b:∀i:Int,0<=i->(gi W'.ID i).IP=(gi W.ID i).IP
 e:∀k d:Int,0<=k->0<=d->d≠c->Qa W' k d=Qa W k d
 cp:∀d:Int,0<=d->d≠c->gi W'.IE d=gi W.IE d
theorem BX.refl(c:Int)(W:Q8):BX c W W:=⟨rfl,rfl,Z1.refl _,rfl,λ_ _=>rfl,λ_ _ _ _ _=>rfl,λ_ _ _=>rfl⟩
theorem BX.trans{c:Int}{A B C:Q8}(h:BX c A B)(k:BX c B C):BX c A C:=⟨k.n.trans h.n,k.t.trans h.t,h.g.trans k.g,k.len.trans h.len,λi hi=>(k.b i hi).trans (h.b i hi),λi d hi hd hn=>(k.e i d hi hd hn).trans (h.e i d hi hd hn),λd hd hn=>(k.cp d hd hn).trans (h.cp d hd hn)⟩
theorem Ad{W:Q8}{g c:Int}{s:LR}(h0:0<=g)(h1:g<(W.ID.length:Int))(c0:0<=c)(c1:c<((gi W.ID g).IF.length:Int)):BX c W (Rv W g c s):=
 ⟨rfl,rfl,YL h0 h1,rfl,λi hi=>zja h0 h1 hi,λk d hk hd hn=>by
  rw[Jw h0 h1 c0 c1 hk hd,B' λh=>hn h.2.symm],λ_ _ _=>rfl⟩
theorem zon{W:Q8}{c:Int}(c0:0<=c)(c1:c<(W.IE.length:Int)):BX c W (Rz W c):=
 ⟨rfl,rfl,Z1.refl _,E',λ_ _=>rfl,λ_ _ _ _ _=>rfl,λd d0 hn=>by
  show gi (W.IE.set c.toNat (XT (gi W.IE c))) d=_;rw[QM _ _ c0 c1 d0,B' λh=>hn h.symm]⟩
section
variable {c d:Int}{W W':Q8}
theorem P4(ht:W'.tasks=W.tasks)(hT:Z1 W.ID W'.ID){g:Int}(h:∀j:Nat,j<W.ID.length->1<=j->(gi W.ID (j:Int)).used=true->(gi W.ID (j:Int)).parent=g->(Qa W' (j:Int) d).on=(Qa W (j:Int) d).on):QJ W' g d=QJ W g d:=by
 unfold QJ;rw[ht,hT.len]
 congr 1
 ·refine KK λj _=>?_
  unfold Od;rw[ht]
 ·refine KK λj hj=>?_
  unfold Jd;rw[hT.u,hT.p]
  by_cases h1:1<=j
  ·cases hu:(gi W.ID (j:Int)).used with
   | false=>simp
   | true=>
    by_cases hp:(gi W.ID (j:Int)).parent=g
    ·rw[h j hj h1 hu hp]
    ·rw[show ((gi W.ID (j:Int)).parent==g)=false from beq_false_of_ne hp]; simp
  ·simp[h1]
theorem zuv(ht:W'.tasks=W.tasks)(hT:Z1 W.ID W'.ID)(hl:W.ID.length=8)(h:∀k:Int,0<=k->(Qa W' k d).on=(Qa W k d).on)(g:Int){j:Nat}(hj:j<20):Zq W' g d j=Zq W g d j:=by
 unfold Zq;split
 ·unfold Od; rw[ht]
 ·unfold Jd;rw[hT.u,hT.p,h _ Qo]
theorem zjv(ht:W'.tasks=W.tasks)(h:∀k:Int,0<=k->(Qa W' k d).v=(Qa W k d).v)(j:Nat):Zm W' d j=Zm W d j:=by
 unfold Zm;split
 ·unfold Q7; rw[ht]
 ·rw[h _ Qo]
theorem Nq(ht:W'.tasks=W.tasks)(hT:Z1 W.ID W'.ID)(hl:W.ID.length=8)(h:∀k:Int,0<=k->(Qa W' k d).on=(Qa W k d).on)(hv:∀k:Int,0<=k->(Qa W' k d).v=(Qa W k d).v)(g:Int):Zx W' g d 20=Zx W g d 20/\Z2 W' g d 20=Z2 W g d 20:=by
 have e:QY (Zq W' g d) (Zm W' d) 20=QY (Zq W g d) (Zm W d) 20:=Kg (λj hj=>zuv ht hT hl h g hj) λj _ _=>zjv ht hv j
 unfold Zx Z2;rw[e];refine⟨rfl,?_⟩;split
 ·rfl
 ·exact zjv ht hv _
theorem Jf(ht:W'.tasks=W.tasks)(t:Int):Q7 W' t=Q7 W t:=by unfold Q7; rw[ht]
theorem O0(hT:Z1 W.ID W'.ID)(g:Int):QP W'.ID g=QP W.ID g:=hT.path 3 g
theorem zlg{g:Int}(hb:(gi W'.ID g).IP=(gi W.ID g).IP):Yx W' g d=Yx W g d:=by unfold Yx; rw[hb]
end
theorem zr2{W:Q8}{g c:Int}{j:Nat}(hj:j<20)(h:Zq W g c j=true):Zx W g c 20=true/\Z2 W g c 20<=Zm W c j:=by
 unfold Zx Z2;rcases Zu (Zq W g c) (Zm W c) 20 with ⟨_,h2⟩ | ⟨h1,_,_,h4,_⟩
 ·rw[h2 j hj] at h; cases h
 ·rw[B' Qo];exact⟨Ih h1,h4 j hj h⟩
theorem ztz{W:Q8}(ha:WA W){t:Int}(t0:0<=t)(t1:t<12)(hs:(Q7 W t).state=1):Zx W (Q7 W t).group (Q7 W t).IZ 20=true/\Z2 W (Q7 W t).group (Q7 W t).IZ 20<=(Q7 W t).v:=by
 have e:((t.toNat:Nat):Int)=t:=Qo
 have h:Zq W (Q7 W t).group (Q7 W t).IZ t.toNat=true:=by
  rw[Vo Qo];unfold Od;rw[e];show (((Q7 W t).state==1)&&((Q7 W t).group==_)&&((Q7 W t).IZ==_))=true;rw[hs]; simp
 have:=zr2 Qo h
 rwa[EJ Qo,e] at this
theorem zpx{W:Q8}(ha:WA W){k c:Int}(hu:Q6 W.ID k=true)(hz:k≠0)(ho:(Qa W k c).on=true):Zx W (gi W.ID k).parent c 20=true/\Z2 W (gi W.ID k).parent c 20<=(Qa W k c).v:=by
 obtain⟨k0,k1,ku⟩:=Q4.1 hu;have hl:=ha.gl;have e:((k.toNat:Nat):Int)=k:=Qo
 have h:Zq W (gi W.ID k).parent c (12+k.toNat)=true:=by
  rw[Uc];unfold Jd;rw[e,ku,ho];simp;omega
 have:=zr2 Qo h
 rwa[EI,e] at this
structure LC (c:Int) (W W':Q8):Prop where
 o:BX c W W'
 cs:W'.IE=W.IE
 f:∀k d:Int,0<=k->0<=d->(Qa W' k d).floor=(Qa W k d).floor
 w:∀k d:Int,0<=k->0<=d->(Qa W' k d).w=(Qa W k d).w
 s:∀k d:Int,0<=k->0<=d->(Qa W' k d).sum=(Qa W k d).sum
 r:∀d:Int,0<=d->Qa W' 0 d=Qa W 0 d
 v:∀k d:Int,Q6 W.ID k=true->k≠0->0<=d->T8 W k d->(Qa W' k d).v=(Qa W k d).v
theorem LC.refl(c:Int)(W:Q8):LC c W W:=⟨BX.refl _ _,rfl,λ_ _ _ _=>rfl,λ_ _ _ _=>rfl,λ_ _ _ _=>rfl,λ_ _=>rfl,λ_ _ _ _ _ _=>rfl⟩
theorem LC.st{c:Int}{W W':Q8}(ht:Y8 W.ID)(h:LC c W W'){k d:Int}(hu:Q6 W.ID k=true)(hz:k≠0)(d0:0<=d)(hs:T8 W k d):T8 W' k d:=by
 have hp:=(Q4.1 (Y3 ht hu hz).1).1;have k0:=(Q4.1 hu).1;unfold T8;rw[h.o.g.p,h.f _ d hp d0,h.v k d hu hz d0 hs,h.w k d k0 d0];exact hs
theorem LC.trans{c:Int}{A B C:Q8}(ht:Y8 A.ID)(h:LC c A B)(k:LC c B C):LC c A C:=
 ⟨h.o.trans k.o,k.cs.trans h.cs,λi d a b=>(k.f i d a b).trans (h.f i d a b),λi d a b=>(k.w i d a b).trans (h.w i d a b),λi d a b=>(k.s i d a b).trans (h.s i d a b),λd a=>(k.r d a).trans (h.r d a),λi d hu hz d0 hs=>by
  rw[k.v i d (by rw[h.o.g.cQ]; exact hu) hz d0 (h.st ht hu hz d0 hs),h.v i d hu hz d0 hs]⟩
theorem O4.lc{c:Int}{W W':Q8}(p:O4 W)(h:LC c W W')(ha:WA W')(hon:∀k d:Int,Q6 W.ID k=true->k≠0->0<=d->d<(W.IE.length:Int)->(Qa W' k d).on=true->T8 W' k d):O4 W':=by
 have et:∀t,Q7 W' t=Q7 W t:=Jf h.o.t;refine⟨⟨ha,λt t0 t1=>?_,λt t0 t1 n=>?_,λk d hu d0 d1=>?_⟩,λd d0 d1=>?_⟩
 ·rw[et];rcases p.t t t0 t1 with hz | ⟨n,hx⟩
  ·exact .inl hz
  ·refine .inr ⟨n,hx.st,by rw[h.o.g.cQ]; exact hx.g,hx.n,hx.m,hx.m0,hx.s,hx.u,hx.l1,hx.l2,λh1=>?_⟩;rw[h.f _ _ (Q4.1 hx.g).1 (p.l t t0 t1 n).1];exact hx.f h1
 ·rw[et] at n ⊢;rw[h.o.len];exact p.l t t0 t1 n
 ·rw[h.o.g.cQ] at hu;rw[h.cs] at d1;have hs:=p.s k d hu d0 d1;have k0:=(Q4.1 hu).1;refine⟨by rw[h.s k d k0 d0]; exact hs.s,λhz=>?_,λhz ho=>hon k d hu hz d0 d1 ho⟩;subst hz;rw[h.r d d0];exact hs.root rfl
 ·rw[h.cs] at d1;have hc:=p.c d d0 d1;refine⟨by rw[h.cs]; exact hc.b,by rw[h.cs]; exact hc.i,by rw[h.cs]; exact hc.c1,by rw[h.cs]; exact hc.c2,by rw[h.cs]; exact hc.no,by rw[h.cs]; exact hc.yes,?_⟩;rw[h.cs];simp only[et];intro h0 h1 h2;obtain⟨q1,q2⟩:=hc.q h0 h1 h2
  have hu:Q6 W.ID (Q7 W (gi W.IE d).cur).group=true:=by
   rcases p.t _ h0 hc.c2 with hz | ⟨_,hx⟩
   ·rw[hz.1] at h1; cases h1
   ·exact hx.g
  refine⟨by rw[h.f _ d (Q4.1 hu).1 d0]; exact q1,λx hx=>?_⟩;rw[O0 h.o.g] at hx;obtain⟨xu,xz⟩:=YQ p.a.tree _ hu x hx;obtain⟨s1,s2⟩:=q2 x hx;refine⟨h.st p.a.tree xu xz d0 s1,?_⟩;rw[h.o.g.p,h.v x d xu xz d0 s1,h.f _ d (Q4.1 (p.a.up xu xz)).1 d0,h.w x d (Q4.1 xu).1 d0];exact s2
def Vp(W:Q8)(c k:Int):Prop:=(Qa W k c).on=(QJ W k c && !Yx W k c)
theorem zxx{W:Q8}(p:O4 W){k c d:Int}(hu:Q6 W.ID k=true)(hd:dep 3 W.ID k=d)(d1:1<=d)(c0:0<=c)(c1:c<(W.IE.length:Int)) :
  LC c W (Rv W k c (Y9 W k c))/\O4 (Rv W k c (Y9 W k c))/\Vp (Rv W k c (Y9 W k c)) c k/\∀g:Int,Q6 W.ID g=true->g≠k->(gi W.ID k).parent≠g->Vp W c g->Vp (Rv W k c (Y9 W k c)) c g:=by
 have hz:k≠0:=λe=>by subst e; rw[Yj] at hd; omega
 obtain⟨u0,u1,_⟩:=Q4.1 hu;have hl:=p.a.gl;have hsl:=p.a.sl hu;have qA:c<((gi W.ID k).IF.length:Int):=Qo;have hpu:=p.a.up hu hz
 have hpk:(gi W.ID k).parent≠k:=λe=>by
  obtain⟨_,_,_,n,e1,e2,_⟩:=Y3 p.a.tree hu hz;rw[e] at e2; omega
 have e:∀{i j:Int},0<=i->0<=j->Qa (Rv W k c (Y9 W k c)) i j=if k=i/\c=j then Y9 W k c else Qa W i j:=λhi hj=>Jw u0 u1 c0 qA hi hj
 have ev:T8 W k c->(Y9 W k c).v=(Qa W k c).v:=λhs=>by
  simp only[Y9];split
  ·rw[zup (by have:=hs.1; omega) hs.2]; omega
  ·rfl
 have eq0:∀{i j:Int},k=i/\c=j->(Y9 W k c).floor=(Qa W i j).floor/\(Y9 W k c).w=(Qa W i j).w/\(Y9 W k c).sum=(Qa W i j).sum:=λh=>by
  obtain⟨rfl,rfl⟩:=h; exact⟨rfl,rfl,rfl⟩
 have hT:=YL (W:=W) (g:=k) (c:=c) (s:=Y9 W k c) u0 u1
 have lc:LC c W (Rv W k c (Y9 W k c)):=by
  refine⟨Ad u0 u1 c0 qA,rfl,λi j hi hj=>?_,λi j hi hj=>?_,λi j hi hj=>?_,λj hj=>?_,λi j iu iz hj hs=>?_⟩
  ·rw[e hi hj]; split
   ·rename_i h; exact(eq0 h).1
   ·rfl
  ·rw[e hi hj]; split
   ·rename_i h; exact(eq0 h).2.1
   ·rfl
  ·rw[e hi hj]; split
   ·rename_i h; exact(eq0 h).2.2
   ·rfl
  ·rw[e (I2 0) hj,B' λh=>hz h.1]
  ·rw[e (Q4.1 iu).1 hj]; split
   ·rename_i h;obtain⟨rfl,rfl⟩:=h;exact ev hs
   ·rfl
 have act:∀g:Int,(gi W.ID k).parent≠g->QJ (Rv W k c (Y9 W k c)) g c=QJ W g c:=λg hg=>by
  refine P4 (W:=W) (W':=Rv W k c (Y9 W k c)) rfl hT λj hj _ _ hp=>?_
  rw[e Qo c0,B'];rintro⟨h,_⟩;exact hg (by rw[h]; exact hp)
 have hoe:Vp (Rv W k c (Y9 W k c)) c k:=by
  unfold Vp;rw[e u0 c0,C' ⟨rfl,rfl⟩,act k hpk,HD u0 u1 u0];rfl
 refine⟨lc,p.lc lc (p.a.Rv u0 Qo) λi j iu iz j0 j1 ho=>?_,hoe,λg gu gk hg h=>?_⟩
 ·by_cases h:k=i/\c=j
  ·obtain⟨rfl,rfl⟩:=h
   by_cases hs:T8 W k c
   ·exact lc.st p.a.tree hu hz c0 hs
   ·have Cu3:(Qa W k c).on=false:=by
     cases hb:(Qa W k c).on with
     | false=>rfl
     | true=>exact Ir ((p.s k c hu c0 c1).st hz hb) hs
    rw[e u0 c0,C' ⟨rfl,rfl⟩] at ho;have ho:(QJ W k c && !Yx W k c)=true:=ho;unfold T8;rw[hT.p,e u0 c0,C' ⟨rfl,rfl⟩,lc.f _ c (Q4.1 hpu).1 c0];simp only[Y9];rw[C' ⟨ho,Cu3⟩];have:=ZH ((Qa W k c).v-(Qa W (gi W.ID k).parent c).floor) (Qa W k c).w;omega
  ·rw[e (Q4.1 iu).1 j0,B' h] at ho;exact lc.st p.a.tree iu iz j0 ((p.s i j iu j0 j1).st iz ho)
 ·unfold Vp;have g0:=(Q4.1 gu).1;rw[e g0 c0,B' λh=>gk h.1.symm,act g hg,HD u0 u1 g0];exact h
theorem zog{W:Q8}(p:O4 W){c d:Int}(d1:1<=d)(c0:0<=c)(c1:c<(W.IE.length:Int))(hI:∀g:Int,Q6 W.ID g=true->d<dep 3 W.ID g->Vp W c g):∀k:Nat,k<=8->
  LC c W (Zk W c d k)/\O4 (Zk W c d k)/\∀g:Int,Q6 W.ID g=true->d<dep 3 W.ID g\/dep 3 W.ID g=d/\g<(k:Int)->Vp (Zk W c d k) c g
 | 0,_=>⟨LC.refl _ _,p,λg gu h=>hI g gu (by
   rcases h with h | h
   ·exact h
   ·have:=(Q4.1 gu).1;have:=h.2;omega)⟩
 | k+1,hk=>by
  obtain⟨a,b,ih⟩:=zog p d1 c0 c1 hI k Qo;have hl:=b.a.gl;have hT:=a.o.g;simp only[Zk];split
  ·rename_i hc;have hu:Q6 (Zk W c d k).ID (k:Int)=true:=Q4.2 ⟨Qo,Qo,hc.1⟩;obtain⟨l1,l2,l3,l4⟩:=zxx b hu hc.2 d1 c0 (c:=c) (by rw[a.cs]; exact c1);refine⟨a.trans p.a.tree l1,l2,λg gu h=>?_⟩
   by_cases e:g=(k:Int)
   ·subst e; exact l3
   ·have hkz:(k:Int)≠0:=λe=>by have:=hc.2; rw[e,Yj] at this; omega
    obtain⟨_,_,_,n,e1,e2,_⟩:=Y3 b.a.tree hu hkz;refine l4 g (by rw[hT.cQ]; exact gu) e (λhp=>?_) (ih g gu ?_)
    ·rw[hp,hT.dep] at e2;have:=hc.2;omega
    ·rcases h with h | h
     ·exact .inl h
     ·exact .inr ⟨h.1,by have:=h.2; omega⟩
  ·rename_i hc;refine⟨a,b,λg gu h=>ih g gu ?_⟩;rcases h with h | h
   ·exact .inl h
   ·refine .inr ⟨h.1,?_⟩
    by_cases e:g=(k:Int)
    ·subst e;exact Ir ⟨by rw[hT.u]; exact(Q4.1 gu).2.2,by rw[hT.dep]; exact h.1⟩ hc
    ·have:=h.2;omega
theorem zjt{W:Q8}(p:O4 W){c:Int}(c0:0<=c)(c1:c<(W.IE.length:Int)):LC c W (QI W c)/\O4 (QI W c)/\∀g:Int,Q6 W.ID g=true->g≠0->Vp (QI W c) c g:=by
 have key:∀j:Nat,j<=3->LC c W (X4 W c j)/\O4 (X4 W c j)/\∀g:Int,Q6 W.ID g=true->3-(j:Int)<dep 3 W.ID g->Vp (X4 W c j) c g:=by
  intro j
  induction j with
  | zero=>exact λ_=>⟨LC.refl _ _,p,λg gu h=>by have:=(GD p.a gu).2; omega⟩
  | succ j ih=>
   intro hj;obtain⟨a,b,h⟩:=ih Qo;have hT:=a.o.g;obtain⟨a2,b2,h2⟩:=zog b (c:=c) (d:=3-(j:Int)) Qo c0 (by rw[a.cs]; exact c1) (λg gu hd=>h g (by rwa[hT.cQ] at gu) (by rwa[hT.dep] at hd)) 8 (I7 _);refine⟨a.trans p.a.tree a2,b2,λg gu hd=>h2 g (by rw[hT.cQ]; exact gu) ?_⟩;rw[hT.dep];have:=(Q4.1 gu).2.1;have:=p.a.gl
   by_cases e:dep 3 W.ID g=3-(j:Int)
   ·exact .inr ⟨e,Qo⟩
   ·exact .inl Qo
 obtain⟨a,b,h⟩:=key 3 (I7 _);refine⟨a,b,λg gu gz=>h g gu ?_⟩;obtain⟨_,_,_,n,e1,_⟩:=Y3 p.a.tree gu gz;omega
theorem zeg{W:Q8}(p:O4 W):∀c:Nat,c<=W.IE.length->O4 (ZU W c)/\(ZU W c).IE=W.IE
 | 0,_=>⟨p,rfl⟩
 | c+1,hc=>by
  obtain⟨a,e⟩:=zeg p c Qo;obtain⟨l,b,_⟩:=zjt a (c:=(c:Int)) Qo (by rw[e]; omega);exact⟨b,l.cs.trans e⟩
theorem O4.A46{W W':Q8}(p:O4 W)(ho:Tm W W')(ha:WA W'):O4 W':=by
 have et:∀t,Q7 W' t=Q7 W t:=Jf ho.t;have es:∀k d:Int,0<=k->Qa W' k d=Qa W k d:=λk d hk=>by unfold Qa; rw[ho.s k hk]
 have est:∀k d:Int,Q6 W.ID k=true->k≠0->(T8 W' k d↔T8 W k d):=λk d hu hz=>by
  unfold T8;rw[ho.g.p,es _ _ (Q4.1 (p.a.up hu hz)).1,es _ _ (Q4.1 hu).1]
 refine⟨⟨ha,λt t0 t1=>?_,λt t0 t1 n=>?_,λk d hu d0 d1=>?_⟩,λd d0 d1=>?_⟩
 ·rw[et];rcases p.t t t0 t1 with hz | ⟨n,hx⟩
  ·exact .inl hz
  ·refine .inr ⟨n,hx.st,by rw[ho.g.cQ]; exact hx.g,hx.n,hx.m,hx.m0,hx.s,hx.u,hx.l1,hx.l2,λh1=>?_⟩;rw[es _ _ (Q4.1 hx.g).1];exact hx.f h1
 ·rw[et] at n ⊢;rw[ho.c];exact p.l t t0 t1 n
 ·rw[ho.g.cQ] at hu;rw[ho.c] at d1;have hs:=p.s k d hu d0 d1;have k0:=(Q4.1 hu).1;exact⟨by rw[es k d k0]; exact hs.s,by rw[es k d k0]; exact hs.root,λhz h=>(est k d hu hz).2 (hs.st hz (by rwa[es k d k0] at h))⟩
 ·rw[ho.c] at d1;have hc:=p.c d d0 d1;refine⟨by rw[ho.c]; exact hc.b,by rw[ho.c]; exact hc.i,by rw[ho.c]; exact hc.c1,by rw[ho.c]; exact hc.c2,by rw[ho.c]; exact hc.no,by rw[ho.c]; exact hc.yes,?_⟩;rw[ho.c];simp only[et];intro h0 h1 h2;obtain⟨q1,q2⟩:=hc.q h0 h1 h2
  have hu:Q6 W.ID (Q7 W (gi W.IE d).cur).group=true:=by
   rcases p.t _ h0 hc.c2 with hz | ⟨_,hx⟩
   ·rw[hz.1] at h1; cases h1
   ·exact hx.g
  refine⟨by rw[es _ d (Q4.1 hu).1]; exact q1,λx hx=>?_⟩;rw[O0 ho.g] at hx;obtain⟨xu,xz⟩:=YQ p.a.tree _ hu x hx;obtain⟨s1,s2⟩:=q2 x hx;refine⟨(est x d xu xz).2 s1,?_⟩;rw[ho.g.p,es x d (Q4.1 xu).1,es _ d (Q4.1 (p.a.up xu xz)).1];exact s2
structure FC (c:Int) (W W':Q8):Prop where
 o:BX c W W'
 cs:W'.IE=W.IE
 on:∀k d:Int,0<=k->0<=d->(Qa W' k d).on=(Qa W k d).on
 v:∀k d:Int,0<=k->0<=d->(Qa W' k d).v=(Qa W k d).v
 w:∀k d:Int,0<=k->0<=d->(Qa W' k d).w=(Qa W k d).w
 s:∀k d:Int,0<=k->0<=d->(Qa W' k d).sum=(Qa W k d).sum
 up:∀k d:Int,0<=k->0<=d->(Qa W k d).floor<=(Qa W' k d).floor
 fl:∀k:Int,0<=k->(Qa W' k c).floor=(Qa W k c).floor\/Zx W k c 20=true/\(Qa W' k c).floor=Z2 W k c 20
theorem NK{W:Q8}(ha:WA W){c:Int}(c0:0<=c)(c1:c<(W.IE.length:Int)):∀k:Nat,k<=8->FC c W (QN W c k)/\WA (QN W c k)/\∀g:Int,Q6 W.ID g=true->g<(k:Int)->Zx W g c 20=true->Z2 W g c 20<=(Qa (QN W c k) g c).floor
 | 0,_=>⟨⟨BX.refl _ _,rfl,λ_ _ _ _=>rfl,λ_ _ _ _=>rfl,λ_ _ _ _=>rfl,λ_ _ _ _=>rfl,λ_ _ _ _=>I2 _,λ_ _=>.inl rfl⟩,ha,λg gu h=>by have:=(Q4.1 gu).1; omega⟩
 | k+1,hk=>by
  obtain⟨f,hA,ih⟩:=NK ha c0 c1 k Qo;have hl:=hA.gl;have hT:=f.o.g;have hb:=Nq f.o.t hT ha.gl (λi hi=>f.on i c hi c0) (λi hi=>f.v i c hi c0);simp only[QN];split
  ·rename_i hc;have hu:Q6 (QN W c k).ID (k:Int)=true:=Q4.2 ⟨Qo,Qo,hc.1⟩;have hsl:=hA.sl hu;have qA:c<((gi (QN W c k).ID (k:Int)).IF.length:Int):=by rw[hsl,f.cs]; exact c1
   have e:∀{i j:Int},0<=i->0<=j->Qa (Rv (QN W c k) (k:Int) c (Ey (QN W c k) (k:Int) c)) i j=if (k:Int)=i/\c=j then Ey (QN W c k) (k:Int) c else Qa (QN W c k) i j:=λhi hj=>Jw Qo Qo c0 qA hi hj
   refine⟨⟨f.o.trans (Ad Qo Qo c0 qA),f.cs,λi j hi hj=>?_,λi j hi hj=>?_,λi j hi hj=>?_,λi j hi hj=>?_,λi j hi hj=>?_,λi hi=>?_⟩,hA.Rv Qo Qo,λg gu hg hB=>?_⟩
   ·rw[e hi hj]; split
    ·rename_i h; obtain⟨rfl,rfl⟩:=h; exact f.on _ _ hi hj
    ·exact f.on i j hi hj
   ·rw[e hi hj]; split
    ·rename_i h; obtain⟨rfl,rfl⟩:=h; exact f.v _ _ hi hj
    ·exact f.v i j hi hj
   ·rw[e hi hj]; split
    ·rename_i h; obtain⟨rfl,rfl⟩:=h; exact f.w _ _ hi hj
    ·exact f.w i j hi hj
   ·rw[e hi hj]; split
    ·rename_i h; obtain⟨rfl,rfl⟩:=h; exact f.s _ _ hi hj
    ·exact f.s i j hi hj
   ·rw[e hi hj]; split
    ·rename_i h; obtain⟨rfl,rfl⟩:=h;have h1:=f.up (k:Int) c hi hj;have h2:=hc.2.2;show _<=Z2 (QN W c k) (k:Int) c 20;omega
    ·exact f.up i j hi hj
   ·rw[e hi c0]; split
    ·rename_i h; obtain⟨rfl,_⟩:=h;refine .inr ⟨(hb _).1▸hc.2.1,?_⟩;show Z2 (QN W c k) (k:Int) c 20=_;exact(hb _).2
    ·exact f.fl i hi
   ·have g0:=(Q4.1 gu).1;rw[e g0 c0];split
    ·rename_i h; obtain⟨rfl,_⟩:=h;show _<=Z2 (QN W c k) (k:Int) c 20;rw[(hb _).2]; exact I2 _
    ·rename_i h;exact ih g gu (by have:g≠(k:Int):=λe=>h ⟨e.symm,rfl⟩; omega) hB
  ·rename_i hc;refine⟨f,hA,λg gu hg hB=>?_⟩
   by_cases e:g=(k:Int)
   ·subst e;rw[hT.u,(hb _).1,(hb _).2] at hc
    by_cases h:Z2 W (k:Int) c 20>(Qa (QN W c k) (k:Int) c).floor
    ·exact Ir ⟨(Q4.1 gu).2.2,hB,h⟩ hc
    ·omega
   ·exact ih g gu Qo hB
theorem BX.SS{c d:Int}{W W':Q8}(h:BX c W W')(d0:0<=d)(hd:d≠c)(g:Int):QJ W' g d=QJ W g d:=
 P4 h.t h.g λj _ _ _ _=>by rw[h.e _ d Qo d0 hd]
theorem BX.line{c:Int}{W W':Q8}(h:BX c W W')(ht:Y8 W.ID){t:Int}(hu:Q6 W.ID (Q7 W t).group=true)(d0:0<=(Q7 W t).IZ)(hd:(Q7 W t).IZ≠c):Z3 W' t=Z3 W t:=by
 unfold Z3 Vb;rw[Jf h.t,O0 h.g]
 congr 1
 rw[Bool.eq_iff_iff,List.all_eq_true,List.all_eq_true];refine forall_congr' λx=>forall_congr' λhx=>?_
 rw[h.e x _ (Q4.1 (YQ ht _ hu x hx).1).1 d0 hd]
structure Dn (W:Q8) (c:Int):Prop where
 on:∀k:Int,Q6 W.ID k=true->k≠0->Vp W c k
 cu:0<=(gi W.IE c).cur->(Q7 W (gi W.IE c).cur).IZ=c/\Z3 W (gi W.IE c).cur=true
 fl:∀k:Int,Q6 W.ID k=true->Zx W k c 20=true->Z2 W k c 20<=(Qa W k c).floor
theorem Dn.oth{c d:Int}{W W':Q8}(h:Dn W d)(p:O4 W)(o:BX c W W')(d0:0<=d)(d1:d<(W.IE.length:Int))(hd:d≠c):Dn W' d:=by
 refine⟨λk hu hz=>?_,λh0=>?_,λk hu hB=>?_⟩
 ·rw[o.g.cQ] at hu;have k0:=(Q4.1 hu).1;have:=h.on k hu hz;unfold Vp at this ⊢;rw[o.e k d k0 d0 hd,o.SS d0 hd,zlg (o.b k k0)];exact this
 ·rw[o.cp d d0 hd] at h0 ⊢;rw[Jf o.t];obtain⟨h1,h2⟩:=h.cu h0;refine⟨h1,?_⟩
  have hs:(Q7 W (gi W.IE d).cur).state=1:=by
   unfold Z3 at h2;rw[A'] at h2;exact Iz h2.1
  have hu:Q6 W.ID (Q7 W (gi W.IE d).cur).group=true:=by
   rcases p.t _ h0 (p.c d d0 d1).c2 with hz | ⟨_,hx⟩
   ·rw[hz.1] at hs; cases hs
   ·exact hx.g
  rw[o.line p.a.tree hu (by rw[h1]; exact d0) (by rw[h1]; exact hd)];exact h2
 ·rw[o.g.cQ] at hu;have hb:=Nq (d:=d) o.t o.g p.a.gl (λi hi=>by rw[o.e i d hi d0 hd]) (λi hi=>by rw[o.e i d hi d0 hd]) k;rw[hb.1] at hB;rw[hb.2,o.e k d (Q4.1 hu).1 d0 hd];exact h.fl k hu hB
theorem Fd.cp{W:Q8}{x:Lm}(h:Fd W x)(cs:List KI):Fd { W with IE:=cs } x:=⟨h.st,h.g,h.n,h.m,h.m0,h.s,h.u,h.l1,h.l2,h.f⟩
theorem zpo.cp{W:Q8}{k c:Int}(h:zpo W k c)(cs:List KI):zpo { W with IE:=cs } k c:=⟨h.s,h.root,h.st⟩
theorem PreA.Rz{W:Q8}(p:PreA W){c:Int}(c0:0<=c)(c1:c<(W.IE.length:Int)):PreA (Rz W c):=by
 have hlen:(YtnclplgaicdapaaGreatDoor.Rz W c).IE.length=W.IE.length:=E';refine⟨?_,λt t0 t1=>?_,λt t0 t1 n=>?_,λk d hu d0 d1=>?_⟩
 ·refine p.a.cp E' ?_;rw[zm2 E' λj hj=>?_]
  ·exact p.a.ups
  ·rw[QM _ _ c0 c1 Qo];split
   ·rename_i e; rw[<-e]; rfl
   ·rfl
 ·rcases p.t t t0 t1 with h | h
  ·exact .inl h
  ·exact .inr ⟨h.1,h.2.cp _⟩
 ·rw[hlen]; exact p.l t t0 t1 n
 ·rw[hlen] at d1; exact(p.s k d hu d0 d1).cp _
theorem O4.Rz{W:Q8}(p:O4 W){c:Int}(c0:0<=c)(c1:c<(W.IE.length:Int)):O4 (Rz W c):=by
 refine⟨p.toPreA.Rz c0 c1,λd d0 d1=>?_⟩;have hlen:(YtnclplgaicdapaaGreatDoor.Rz W c).IE.length=W.IE.length:=E';have iW:gi (YtnclplgaicdapaaGreatDoor.Rz W c).IE d=if c=d then XT (gi W.IE c) else gi W.IE d:=QM _ _ c0 c1 d0;rw[hlen] at d1;have hc:=p.c d d0 d1
 by_cases e:c=d
 ·subst e;rw[C' rfl] at iW;have n1:(XT (gi W.IE c)).cur = -1:=rfl;exact⟨by rw[iW]; exact hc.b,by rw[iW]; exact hc.i,by rw[iW,n1]; exact I2 _,by rw[iW,n1]; decide,λ_=>by rw[iW]; rfl,λh=>by rw[iW,n1] at h; omega,λh=>by rw[iW,n1] at h; omega⟩
 ·rw[B' e] at iW;exact⟨by rw[iW]; exact hc.b,by rw[iW]; exact hc.i,by rw[iW]; exact hc.c1,by rw[iW]; exact hc.c2,by rw[iW]; exact hc.no,by rw[iW]; exact hc.yes,by rw[iW]; exact hc.q⟩
theorem zy7{W:Q8}(p:O4 W){c:Int}(c0:0<=c)(c1:c<(W.IE.length:Int)):O4 (UP W c)/\BX c W (UP W c)/\Dn (UP W c) c:=by
 obtain⟨l,p1,hon⟩:=zjt p c0 c1;obtain⟨f,hA,oG⟩:=NK p1.a c0 (c:=c) (by rw[l.cs]; exact c1) 8 (I7 _);have f:FC c (QI W c) (Za (QI W c) c):=f;have hA:WA (Za (QI W c) c):=hA;have oG:∀g:Int,Q6 (QI W c).ID g=true->g<((8:Nat):Int)->Zx (QI W c) g c 20=true->Z2 (QI W c) g c 20<=(Qa (Za (QI W c) c) g c).floor:=oG;have hon:∀g:Int,Q6 (QI W c).ID g=true->g≠0->Vp (QI W c) c g:=λg gu gz=>hon g (by rwa[l.o.g.cQ] at gu) gz
 have bZ:=p1.a.gl;have hlc:(QI W c).IE.length=W.IE.length:=by rw[l.cs]
 have W5:UP W c=if MC (Za (QI W c) c) c=true then Rz (Za (QI W c) c) c else Za (QI W c) c:=rfl;have hO:BX c W (Za (QI W c) c):=l.o.trans f.o;rw[W5];clear W5;have qA:c<((QI W c).IE.length:Int):=by rw[hlc]; exact c1
 generalize QI W c=V at p1 hon f hA oG bZ hlc hO qA;generalize Za V c=F at f hA oG hO;have et:∀t,Q7 F t=Q7 V t:=Jf f.o.t;have hT:=f.o.g;have aM:=Nq (d:=c) f.o.t hT bZ (λi hi=>f.on i c hi c0) (λi hi=>f.v i c hi c0)
 have low:∀k:Int,Q6 V.ID k=true->∀v:Int,(Zx V k c 20=true/\Z2 V k c 20<=v)->(Qa V k c).floor<=v->(Qa F k c).floor<=v:=λk hu v hv hf=>by
  rcases f.fl k (Q4.1 hu).1 with e | ⟨_,e⟩
  ·rw[e]; exact hf
  ·rw[e]; exact hv.2
 have st:∀k d:Int,Q6 V.ID k=true->k≠0->0<=d->(Qa V k d).on=true->T8 V k d->T8 F k d:=λk d hu hz d0 ho hs=>by
  have pu:=p1.a.up hu hz;have k0:=(Q4.1 hu).1;have q0:=(Q4.1 pu).1;unfold T8;rw[hT.p,f.v k d k0 d0,f.w k d k0 d0];have hup:=f.up _ d q0 d0;refine⟨?_,by have:=hs.2; omega⟩
  by_cases hd:d=c
  ·subst hd;exact low _ pu _ (zpx p1.a hu hz ho) hs.1
  ·rw[f.o.e _ d q0 d0 hd]; exact hs.1
 have pa:PreA F:=by
  refine⟨hA,λt t0 t1=>?_,λt t0 t1 n=>?_,λk d hu d0 d1=>?_⟩
  ·rw[et];rcases p1.t t t0 t1 with hz | ⟨n,hx⟩
   ·exact .inl hz
   ·refine .inr ⟨n,hx.st,by rw[hT.cQ]; exact hx.g,hx.n,hx.m,hx.m0,hx.s,hx.u,hx.l1,hx.l2,λh1=>?_⟩;obtain⟨d0,d1⟩:=p1.l t t0 t1 n;have g0:=(Q4.1 hx.g).1;have hup:=f.up _ _ g0 d0;have hs:=hx.f h1;refine⟨?_,Qo⟩
    by_cases hd:(Q7 V t).IZ=c
    ·have hb:=ztz p1.a t0 t1 h1;rw[hd] at hb hs ⊢;exact low _ hx.g _ hb hs.1
    ·rw[f.o.e _ _ g0 d0 hd]; exact hs.1
  ·rw[et] at n ⊢;rw[f.cs];exact p1.l t t0 t1 n
  ·rw[hT.cQ] at hu;rw[f.cs] at d1;have hs:=p1.s k d hu d0 d1;have k0:=(Q4.1 hu).1;refine⟨by rw[f.s k d k0 d0]; exact hs.s,λhz=>?_,λhz h=>?_⟩
   ·rw[f.on k d k0 d0,f.v k d k0 d0,f.w k d k0 d0]; exact hs.root hz
   ·rw[f.on k d k0 d0] at h;exact st k d hu hz d0 h (hs.st hz h)
 have ptu:∀t:Int,0<=t->t<12->(Q7 V t).state=1->Q6 V.ID (Q7 V t).group=true:=λt t0 t1 h=>by
  rcases p1.t t t0 t1 with hz | ⟨_,hx⟩
  ·rw[hz.1] at h; cases h
  ·exact hx.g
 have pc:∀d:Int,0<=d->d<(V.IE.length:Int)->(d=c->MC F c=false)->z2t F d:=λd d0 d1 hg=>by
  have hc:=p1.c d d0 d1;refine⟨by rw[f.cs]; exact hc.b,by rw[f.cs]; exact hc.i,by rw[f.cs]; exact hc.c1,by rw[f.cs]; exact hc.c2,by rw[f.cs]; exact hc.no,by rw[f.cs]; exact hc.yes,?_⟩;rw[f.cs];simp only[et];intro h0 h1 h2;obtain⟨q1,q2⟩:=hc.q h0 h1 h2;have hu:=ptu _ h0 hc.c2 h1;have hup:=f.up _ d (Q4.1 hu).1 d0;refine⟨Qo,λx hx=>?_⟩;rw[O0 hT] at hx;obtain⟨xu,xz⟩:=YQ p1.a.tree _ hu x hx;obtain⟨s1,s2⟩:=q2 x hx;have x0:=(Q4.1 xu).1;have q0:=(Q4.1 (p1.a.up xu xz)).1;have DN6:=f.up _ d q0 d0;refine⟨?_,by rw[hT.p,f.v x d x0 d0,f.w x d x0 d0]; omega⟩
  by_cases hd:d=c
  ·subst hd
   have hl:Z3 F (gi V.IE d).cur=true:=by
    have:=hg rfl;unfold MC at this;rw[f.cs,et,Ih h0,h2] at this
    simpa using this
   unfold Z3 Vb at hl;rw[et,h2,O0 hT,A',List.all_eq_true] at hl;have ho:=hl.2 x hx;rw[f.on x d x0 d0] at ho;exact st x d xu xz d0 ho s1
  ·unfold T8;rw[hT.p,f.o.e x d x0 d0 hd,f.o.e _ d q0 d0 hd];exact s1
 have BX3:∀k:Int,Q6 F.ID k=true->k≠0->Vp F c k:=λk hu hz=>by
  rw[hT.cQ] at hu;have k0:=(Q4.1 hu).1;have:=hon k hu hz;unfold Vp at this ⊢;rw[f.on k c k0 c0,P4 f.o.t hT λj _ _ _ _=>f.on _ c Qo c0,zlg (f.o.b k k0)];exact this
 have CO4:∀k:Int,Q6 F.ID k=true->Zx F k c 20=true->Z2 F k c 20<=(Qa F k c).floor:=λk hu hB=>by
  rw[hT.cQ] at hu;rw[(aM k).1] at hB;rw[(aM k).2];exact oG k hu (by have:=(Q4.1 hu).2.1; omega) hB
 split
 ·rename_i hg;have cF:c<(F.IE.length:Int):=by rw[f.cs]; exact qA
  have iW:∀d:Int,0<=d->gi (Rz F c).IE d=if c=d then XT (gi F.IE c) else gi F.IE d:=λd d0=>QM _ _ c0 cF d0
  have hlen:(Rz F c).IE.length=F.IE.length:=E';refine⟨⟨pa.Rz c0 cF,λd d0 d1=>?_⟩,hO.trans (zon c0 cF),BX3,λh0=>?_,CO4⟩
  ·rw[hlen] at d1
   by_cases e:c=d
   ·subst e;have hc:=p1.c c c0 qA;have e1:gi (Rz F c).IE c=XT (gi V.IE c):=by rw[iW c c0,C' rfl,f.cs]
    have n1:(XT (gi V.IE c)).cur = -1:=rfl;exact⟨by rw[e1]; exact hc.b,by rw[e1]; exact hc.i,by rw[e1,n1]; exact I2 _,by rw[e1,n1]; decide,λ_=>by rw[e1]; rfl,λh=>by rw[e1,n1] at h; omega,λh=>by rw[e1,n1] at h; omega⟩
   ·have hc:=pc d d0 (by rw[<-f.cs]; exact d1) λh=>Ir h.symm e
    have e1:gi (Rz F c).IE d=gi F.IE d:=by rw[iW d d0,B' e]
    exact⟨by rw[e1]; exact hc.b,by rw[e1]; exact hc.i,by rw[e1]; exact hc.c1,by rw[e1]; exact hc.c2,by rw[e1]; exact hc.no,by rw[e1]; exact hc.yes,by rw[e1]; exact hc.q⟩
  ·rw[iW c c0,C' rfl] at h0;have h0:(0:Int)<=-1:=h0;omega
 ·rename_i hg;have hg:MC F c=false:=by simpa using hg
  refine⟨⟨pa,λd d0 d1=>pc d d0 (by rw[<-f.cs]; exact d1) λ_=>hg⟩,hO,BX3,λh0=>?_,CO4⟩;unfold MC at hg;rw[Ih h0,Bool.true_and,H'] at hg;exact⟨by simpa using hg.1,by simpa using hg.2⟩
theorem zo7{W:Q8}(p:O4 W):∀c:Nat,c<=W.IE.length->O4 (XM W c)/\(XM W c).IE.length=W.IE.length/\(XM W c).tasks=W.tasks/\Z1 W.ID (XM W c).ID/\∀d:Int,0<=d->d<(c:Int)->Dn (XM W c) d
 | 0,_=>⟨p,rfl,rfl,Z1.refl _,λd a b=>by omega⟩
 | c+1,hc=>by
  obtain⟨a,e,et,eg,ih⟩:=zo7 p c Qo;obtain⟨p1,o,dn⟩:=zy7 a (c:=(c:Int)) Qo (by rw[e]; omega);refine⟨p1,o.len.trans e,o.t.trans et,eg.trans o.g,λd d0 d1=>?_⟩
  by_cases h:d=(c:Int)
  ·subst h; exact dn
  ·exact(ih d d0 Qo).oth a o d0 (by rw[e]; omega) h
theorem zvg{K:Int}{W:Q8}(sw:SW K W)(p:O4 W)(hK:0<=K):O4 (Qg W)/\Fr W (Qg W)/\∀d:Int,0<=d->d<(W.IE.length:Int)->Dn (Qg W) d:=by
 obtain⟨a,e⟩:=zeg p W.IE.length (I7 _);obtain⟨s1,_⟩:=OH (F:=K) (K:=K+Qi) (sw.sf.mono (I2 _) (by simp only[Qi]; omega)) (I2 _) W.IE.length (I7 _);obtain⟨s2,b2⟩:=TT s1 8 (I7 _);have p2:=a.A46 b2 s2.w.a;have e2:(Yd (ZU W W.IE.length) 8).IE.length=W.IE.length:=by rw[b2.c,e]
 obtain⟨p3,e3,_,_,dn⟩:=zo7 p2 W.IE.length (by rw[e2]; exact I7 _);exact⟨p3,(UN sw hK).2,dn⟩
theorem z33{K:Int}{W:Q8}(sw:SW K W)(hK:K<=100000000000000000)(p:O4 W)(hl:zbs W)(dn:∀d:Int,0<=d->d<(W.IE.length:Int)->Dn W d):YI W/\z5f W:=by
 have tm:∀k c:Int,Q6 W.ID k=true->0<=c->c<(W.IE.length:Int)->ZW (Qa W k c).floor=true/\ZW (Qa W k c).v=true:=λk c hu c0 c1=>by
  have:=sw.s k c hu c0 c1;exact⟨Xl.2 Qo,Xl.2 Qo⟩
 have tv:∀t:Int,0<=t->t<12->ZW (Q7 W t).v=true:=λt t0 t1=>by
  have:=sw.tv t t0 t1;exact Xl.2 Qo
 refine⟨⟨p.a,λt t0 t1=>?_,λk c k0 k1 c0 c1=>?_,λc c0 c1=>?_⟩,λk c hu c0 c1 hB=>(dn c c0 c1).fl k hu hB⟩
 ·rcases p.t t t0 t1 with hz | ⟨n,hx⟩
  ·exact .inl hz
  ·obtain⟨d0,d1⟩:=p.l t t0 t1 n;exact .inr ⟨n,hx.st,hx.g,hx.n,hx.m,hx.m0,tv t t0 t1,hx.s,hx.u,hx.l1,hx.l2,hl t t0 t1 n,λh1=>(BK (tv t t0 t1) (tm _ _ hx.g d0 d1).1).2 (hx.f h1)⟩
 ·have bZ:=p.a.gl
  have hu:Q6 W.ID k=true:=by
   cases hb:(gi W.ID k).used with
   | true=>exact Q4.2 ⟨k0,Qo,hb⟩
   | false=>
    have:=((p.a.grp k k0 k1).1 hb).l;omega
  have hsl:=p.a.sl hu;have c1:c<(W.IE.length:Int):=Qo;have hs:=p.s k c hu c0 c1;have ht:=tm k c hu c0 c1;have hw:=sw.s k c hu c0 c1;exact⟨ht.1,ht.2,hs.s,hw.2.2.2.2.1,hw.2.2.2.2.2,hs.root,λhz=>(dn c c0 c1).on k hu hz,λhz ho=>(BK ht.2 (tm _ c (p.a.up hu hz) c0 c1).1).2 (hs.st hz ho)⟩
 ·have hc:=p.c c c0 c1;have eM:=p.a.t;refine⟨hc.b,hc.i,hc.c1,by have:=hc.c2; omega,hc.no,λh0=>?_⟩;obtain⟨y1,y2,y3⟩:=hc.yes h0;obtain⟨z1,z2⟩:=(dn c c0 c1).cu h0
  have hs:(Q7 W (gi W.IE c).cur).state=1:=by
   unfold Z3 at z2;rw[A'] at z2;exact Iz z2.1
  obtain⟨q1,q2⟩:=hc.q h0 hs z1;refine⟨y1,y2,y3,z1,z2,?_⟩;unfold MQ Oa;rw[A',List.all_eq_true];exact⟨Ih q1,λx hx=>Ih (q2 x hx).2⟩
theorem YT{α β:Type}[Inhabited α]{f:α->β}(l:List α)(k:Int){x:α}(h:f x=f (gi l k))(i:Int):f (gi (l.set k.toNat x) i)=f (gi l i):=by
 unfold gi at *;simp only[List.getD_eq_getElem?_getD,List.getElem?_set] at *
 by_cases e:k.toNat=i.toNat
 ·rw[C' e];split
  ·rw[<-e]; simpa using h
  ·rename_i hl;have:l[i.toNat]? = none:=List.getElem?_eq_none_iff.2 Qo;rw[this]
 ·rw[B' e]
structure O5 (W W':Q8):Prop where
 g:Z1 W.ID W'.ID
 m:∀i:Int,(gi W'.ID i).IE=(gi W.ID i).IE
 w:∀i:Int,(gi W'.ID i).weight=(gi W.ID i).weight
 len:W'.IE.length=W.IE.length
 u:∀i:Int,(gi W'.IE i).up=(gi W.IE i).up
theorem O5.refl(W:Q8):O5 W W:=⟨Z1.refl _,λ_=>rfl,λ_=>rfl,rfl,λ_=>rfl⟩
theorem O5.trans{A B C:Q8}(h:O5 A B)(k:O5 B C):O5 A C:=⟨h.g.trans k.g,λi=>(k.m i).trans (h.m i),λi=>(k.w i).trans (h.w i),k.len.trans h.len,λi=>(k.u i).trans (h.u i)⟩
theorem zrg{W:Q8}{g:Int}{x:ZX}(u:x.used=(gi W.ID g).used)(p:x.parent=(gi W.ID g).parent)(n:x.name=(gi W.ID g).name)(m:x.IE=(gi W.ID g).IE)(w:x.weight=(gi W.ID g).weight):O5 W (Rn W g x):=
 ⟨⟨E',λi=>YT (f:=ZX.used) _ _ u i,λi=>YT (f:=ZX.parent) _ _ p i,λi=>YT (f:=ZX.name) _ _ n i⟩,λi=>YT (f:=ZX.IE) _ _ m i,λi=>YT (f:=ZX.weight) _ _ w i,rfl,λ_=>rfl⟩
theorem zfv(W:Q8)(g c:Int)(s:LR):O5 W (Rv W g c s):=zrg rfl rfl rfl rfl rfl
theorem zrf(W:Q8)(g:Int)(b:Ve):O5 W (RL W g b):=zrg rfl rfl rfl rfl rfl
theorem zrh(W:Q8)(t:Int)(x:Lm):O5 W (IU W t x):=⟨Z1.refl _,λ_=>rfl,λ_=>rfl,rfl,λ_=>rfl⟩
theorem zmv{W:Q8}{c:Int}{x:KI}(u:x.up=(gi W.IE c).up):O5 W (S9 W c x):=⟨Z1.refl _,λ_=>rfl,λ_=>rfl,E',λi=>YT (f:=KI.up) _ _ u i⟩
theorem HS(W:Q8)(c:Int):O5 W (Rz W c):=zmv rfl
theorem Az(W:Q8)(c d:Int):∀k:Nat,O5 W (Zk W c d k)
 | 0=>O5.refl _
 | k+1=>by
  simp only[Zk];split
  ·exact(Az W c d k).trans (zfv _ _ _ _)
  ·exact Az W c d k
theorem F5(W:Q8)(c:Int):∀j:Nat,O5 W (X4 W c j)
 | 0=>O5.refl _
 | j+1=>(F5 W c j).trans (Az _ _ _ _)
theorem zft(W:Q8):∀c:Nat,O5 W (ZU W c)
 | 0=>O5.refl _
 | c+1=>(zft W c).trans (F5 (ZU W c) (c:Int) 3)
theorem Ax(W:Q8)(k:Int):∀c:Nat,O5 W (ZJ W k c)
 | 0=>O5.refl _
 | c+1=>by
  simp only[ZJ];split
  ·exact(Ax W k c).trans (zrf _ _ _)
  ·exact Ax W k c
theorem Ay(W:Q8):∀k:Nat,O5 W (Yd W k)
 | 0=>O5.refl _
 | k+1=>by
  simp only[Yd];split
  ·exact(Ay W k).trans (Ax _ _ _)
  ·exact Ay W k
theorem F4(W:Q8)(c:Int):∀k:Nat,O5 W (QN W c k)
 | 0=>O5.refl _
 | k+1=>by
  simp only[QN];split
  ·exact(F4 W c k).trans (zfv _ _ _ _)
  ·exact F4 W c k
theorem zvj(W:Q8)(c:Int):O5 W (UP W c):=by
 have h:=(F5 W c 3).trans (F4 (QI W c) c 8);unfold UP;split
 ·exact h.trans (HS _ _)
 ·exact h
theorem zkh(W:Q8):∀c:Nat,O5 W (XM W c)
 | 0=>O5.refl _
 | c+1=>(zkh W c).trans (zvj (XM W c) (c:Int))
theorem zfu(W:Q8):O5 W (Qg W):=((zft W W.IE.length).trans (Ay (ZU W W.IE.length) 8)).trans (zkh (KT (ZU W W.IE.length)) W.IE.length)
theorem O5.ups{W W':Q8}(h:O5 W W'):U1 W'.IE=U1 W.IE:=zm2 h.len λj _=>h.u j
theorem O5.pin{W W':Q8}(h:O5 W W')(g u:Int):Ti W'.ID g u=Ti W.ID g u:=by
 unfold Ti;rw[show QP W'.ID g=QP W.ID g from h.g.path 3 g]
 congr 1
 funext s x
 rw[h.m]
theorem O5.wh{W W':Q8}(h:O5 W W')(g m:Int):Qx W' g m=Qx W g m:=by
 unfold Qx;rw[h.ups,h.pin]
theorem O5.loc{W W':Q8}(h:O5 W W')(ht:W'.tasks=W.tasks)(hl:zbs W):zbs W':=λt t0 t1 n=>by
 rw[Jf ht] at n ⊢;rw[h.wh];exact hl t t0 t1 n
theorem zfq{K:Int}{W:Q8}(sw:SW K W)(hK:0<=K)(fK:K+Ud<=100000000000000000)(p:O4 W)(hl:zbs W):YI (Qg W)/\z5f (Qg W):=by
 obtain⟨p1,hf,dn⟩:=zvg sw p hK;exact z33 (UN sw hK).1 fK p1 ((zfu W).loc hf.t hl) λd d0 d1=>dn d d0 (by rw[<-hf.c]; exact d1)
theorem zpo.Bg5{W W':Q8}{k c:Int}(h:zpo W k c)(e:Qa W' k c=Qa W k c)(ep:k≠0->(Qa W' (gi W'.ID k).parent c).floor=(Qa W (gi W.ID k).parent c).floor):zpo W' k c:=
 ⟨by rw[e]; exact h.s,by rw[e]; exact h.root,λhz ho=>by
  rw[e] at ho;have:=h.st hz ho;unfold T8 at this ⊢;rw[e,ep hz]; exact this⟩
theorem O4.IU{W:Q8}(p:O4 W){t:Int}(t0:0<=t)(t1:t<12){x:Lm}(hx:x.state=0/\x=Oc\/x.state≠0/\Fd W x/\0<=x.IZ/\x.IZ<(W.IE.length:Int))(hc:∀c:Int,0<=c->c<(W.IE.length:Int)->(gi W.IE c).cur=t->x.state=1->x.IZ=c->x.v-(Qa W x.group c).floor<=Ze (gi W.IE c).WQ (Qe x.nice)/\∀y∈QP W.ID x.group,T8 W y c/\(Qa W y c).v-(Qa W (gi W.ID y).parent c).floor<=Ze (gi W.IE c).WQ (Qa W y c).w):O4 (IU W t x):=by
 have hl:=p.a.t;have e:∀i:Int,0<=i->Q7 (YtnclplgaicdapaaGreatDoor.IU W t x) i=if t=i then x else Q7 W i:=λi i0=>QM _ _ t0 Qo i0
 refine⟨⟨p.a.tk E',λi a b=>?_,λi a b n=>?_,λk c hu c0 c1=>?_⟩,λc c0 c1=>?_⟩
 ·rw[e i a];split
  ·rcases hx with h | ⟨h1,h2,_⟩
   ·exact .inl h
   ·exact .inr ⟨h1,h2.st,h2.g,h2.n,h2.m,h2.m0,h2.s,h2.u,h2.l1,h2.l2,h2.f⟩
  ·rcases p.t i a b with h | ⟨h1,h2⟩
   ·exact .inl h
   ·exact .inr ⟨h1,h2.st,h2.g,h2.n,h2.m,h2.m0,h2.s,h2.u,h2.l1,h2.l2,h2.f⟩
 ·rw[e i a] at n ⊢;split
  ·rename_i h;rw[C' h] at n;rcases hx with h | ⟨_,_,h2⟩
   ·exact Ir h.1 n
   ·exact h2
  ·rename_i h;rw[B' h] at n;exact p.l i a b n
 ·exact(p.s k c hu c0 c1).Bg5 rfl λ_=>rfl
 ·have h:=p.c c c0 c1;refine⟨h.b,h.i,h.c1,h.c2,h.no,h.yes,λh0=>?_⟩;rw[e _ h0];split
  ·rename_i he;exact λh1 h2=>hc c c0 c1 he.symm h1 h2
  ·exact h.q h0
def Ez(p:Nat->Bool):Nat->Int
 | 0 => -1
 | k+1=>if (decide (Ez p k<0)&&p k)=true then (k:Int) else Ez p k
theorem KS(p:Nat->Bool):∀k:Nat,(Ez p k = -1/\∀j,j<k->p j=false)\/(0<=Ez p k/\Ez p k<(k:Int)/\p (Ez p k).toNat=true/\∀j:Nat,(j:Int)<Ez p k->p j=false)
 | 0=>.inl ⟨rfl,λj hj=>Ir hj (Nat.not_lt_zero j)⟩
 | k+1=>by
  simp only[Ez];rcases KS p k with ⟨h1,h2⟩ | ⟨h1,h2,h3,h4⟩
  ·cases hp:p k with
   | true=>
    rw[h1,C' (by rfl)];exact .inr ⟨Qo,Qo,by simpa using hp,λj hj=>h2 j Qo⟩
   | false=>
    rw[B' Qs,h1];refine .inl ⟨rfl,λj hj=>?_⟩
    by_cases e:j=k
    ·rw[e]; exact hp
    ·exact h2 j Qo
  ·rw[B' (by rw[decide_eq_false (by omega:¬Ez p k<0)]; simp)];exact .inr ⟨h1,Qo,h3,h4⟩
theorem zsf{p:Nat->Bool}{n:Nat}(h:∀j,j<n->p j=false):Ez p n = -1:=by
 rcases KS p n with ⟨h1,_⟩ | ⟨h1,h2,h3,_⟩
 ·exact h1
 ·rw[h _ Qo] at h3; cases h3
theorem zse{p:Nat->Bool}{n:Nat}{a:Int}(a0:0<=a)(a1:a<(n:Int))(hp:p a.toNat=true)(hn:∀j:Nat,(j:Int)<a->p j=false):Ez p n=a:=by
 rcases KS p n with ⟨_,h2⟩ | ⟨h1,h2,h3,h4⟩
 ·rw[h2 _ Qo] at hp; cases hp
 ·by_cases l:Ez p n<a
  ·rw[hn _ Qo] at h3; cases h3
  ·by_cases g:a<Ez p n
   ·rw[h4 _ Qo] at hp; cases hp
   ·omega
def MD(W:Q8)(j:Nat):Bool:=(Q7 W (j:Int)).state==0
def TR(W:Q8):Int:=Ez (MD W) 12
noncomputable def Pa(W:Q8)(g n x:Int):Int:=if Qe n=0\/M1 x=false\/x=0 then 1 else if Q6 W.ID g=false then 2 else if TR W<0 then 3 else if QT W=false then 10 else 0
def LU(W:Q8)(g x:Int):Int:=K2 W (Qx W g x)
def GK(W:Q8)(g n x:Int):Lm:=⟨1,g,LU W g x,n,x,(Qa W g (LU W g x)).floor,0,0,0⟩
def znx(W:Q8)(g n x:Int):Q8:=Qg (Rz (IU W (TR W) (GK W g n x)) (LU W g x))
noncomputable def Tq(W:Q8)(bar:Int)(W':Q8)(a:Int):Q8×Int×Int:=if QD W=false then (Ll,-1,1) else if bar≠0 then (W,-1,bar) else (W',a,0)
def OZ(r:Q8×Int×Int)(w:Wo)(v:Va)(w':Wo):Prop:=∃n m',v=.tuple #[.agg (Qb r.1 m').toArray,.int .i64 r.2.1,.int .i64 r.2.2]/\Zo n w.heap.size w' r.1 m'/\Q0 [] w w'
structure z4e (W:Q8) (g n x:Int):Prop where
 w:Qe n≠0
 m:M1 x=true
 m0:x≠0
 u:Q6 W.ID g=true
 f0:0<=TR W
 f1:TR W<12
 f2:(Q7 W (TR W)).state=0
 r:QT W=true
 sw:SW Qn W
 c0:0<=LU W g x
 c1:LU W g x<(W.IE.length:Int)
 ch:QZ (Qx W g x) (LU W g x)=true
 sw2:SW Qn (IU W (TR W) (GK W g n x))
theorem zsc{W:Q8}{g n x:Int}(hW:QD W=true)(hb:Pa W g n x=0):z4e W g n x:=by
 have wp:=Qj.1 hW;unfold Pa at hb
 split at hb
 ·cases hb
 ·rename_i h1
  split at hb
  ·cases hb
  ·rename_i h2
   split at hb
   ·cases hb
   ·rename_i h3
    split at hb
    ·cases hb
    ·rename_i h4;have h4:QT W=true:=by simpa using h4
     have h2:Q6 W.ID g=true:=by simpa using h2
     have sw:=MR wp (Qj.1 h4)
     have hf:0<=TR W/\TR W<12/\MD W (TR W).toNat=true:=by
      rcases KS (MD W) 12 with ⟨a,_⟩ | ⟨a,b,c,_⟩
      ·unfold TR at h3; omega
      ·exact⟨a,b,c⟩
     obtain⟨c0,c1,ch⟩:=HN wp.a g x;have hs:=sw.s g _ h2 c0 c1;have e:(((TR W).toNat:Nat):Int)=TR W:=Qo;refine⟨λh=>h1 (.inl h),?_,λh=>h1 (.inr (.inr h)),h2,hf.1,hf.2.1,?_,h4,sw,c0,c1,ch,sw.IU hf.1 hf.2.1 (x:=GK W g n x) (λ_=>⟨h2,c0,c1⟩) hs.1 hs.2.1⟩
     ·cases hm:M1 x with
      | true=>rfl
      | false=>exact Ir (.inr (.inl hm)) h1
     ·have:=hf.2.2;unfold MD at this;rw[e] at this;exact Iz this
section
variable {W W':Q8}{m:MW}{w:Wo}{bar a:Int}
theorem OZ.bad{w':Wo}(hW:QD W=false)(hx:Q0 [] w w'):OZ (Tq W bar W' a) w (.tuple #[.agg (Qb Ll zzt).toArray,.int .i64 (-1),.int .i64 1]) w':=by
 rw[show Tq W bar W' a=(Ll,-1,1) from C' hW];exact⟨0,zzt,rfl,Zo.zero _ _,hx⟩
theorem OZ.no{n:Nat}{bs:List Nat}{w':Wo}{m':MW}(hW:QD W=true)(hb:bar≠0)(hk:Wk n bs w w' W m'){c:Int}(hc:bar=c):OZ (Tq W bar W' a) w (.tuple #[.agg (Qb W m').toArray,.int .i64 (-1),.int .i64 c]) w':=by
 rw[show Tq W bar W' a=(W,-1,c) by unfold Tq; rw[B' (by rw[hW]; decide),C' hb,hc]];exact⟨n,m',rfl,hk.fin⟩
theorem OZ.ok{n:Nat}{bs:List Nat}{w':Wo}{m':MW}(hW:QD W=true)(hb:bar=0)(hk:Wk n bs w w' W' m'):OZ (Tq W bar W' a) w (.tuple #[.agg (Qb W' m').toArray,.int .i64 a,.int .i64 0]) w':=by
 rw[show Tq W bar W' a=(W',a,0) by unfold Tq; rw[B' (by rw[hW]; decide),B' (by simpa using hb)]];exact⟨n,m',rfl,hk.fin⟩
theorem G0{g n x:Int}(h:XE [] w W m)(hl:Ua W) :
  Cz Xz #[.agg (Qb W m).toArray,.int .i64 g,.int .i64 n,.int .i64 x] w λe w'=>∃v,e=.returned v/\OZ (Tq W (Pa W g n x) (znx W g n x) (TR W)) w v w':=by
 refine CQ W.now m.cO W.IE.length m.cC m.tO W.tasks.length m.tC m.gO W.ID.length m.gC g n x (R:=λv w'=>OZ (Tq W (Pa W g n x) (znx W g n x) (TR W)) w v w') ?_;intro y hy y1 cP wr R5 SR;refine I3 (Zh (h.ext R5) hl) ?_;rintro e wv (⟨hW,he,SI⟩ | ⟨hW,m',he,hM,SI⟩)
 ·exact⟨_,_,_,_,_,_,_,_,_,_,_,he,Qf SI SR,λ_ I' R6=>OZ.bad hW ((R5.trans SI).fresh R6 λz hm=>.inl (Xa hy cP z hm)),λg=>by simp at g⟩
 have hK:=Wk.begin hy cP R5 SR hM SI;have hr:=hK.rd;have wp:=Qj.1 hW;have eM:=wp.a.t;refine⟨_,_,_,_,_,_,_,_,_,_,_,he,Qf SI SR,λg=>by split at g <;> simp at g,λ_=>⟨_,ZZ,_,λ_=>Xw,λg1 M' R6=>?_,λg1=>⟨_,X8 hr.g,λg2 Rr R6=>?_,λg2=>⟨⟨Qo,Qo⟩,?_⟩⟩⟩⟩
 ·have hb:Pa W g n x=1:=by
   unfold Pa;rw[C'];simp only[Iu,Is,IC] at g1;rcases g1 with (g1 | g1) | g1
   ·exact .inl g1
   ·exact .inr (.inl g1)
   ·exact .inr (.inr g1)
  exact OZ.no hW (by rw[hb]; decide) (hK.step R6) hb
 ·have n1:¬(Qe n=0\/M1 x=false\/x=0):=by
   simp only[H',beq_eq_false_iff_ne,I6,ne_eq] at g1;rintro (h | h | h)
   ·exact g1.1.1 h
   ·rw[g1.1.2] at h; cases h
   ·exact g1.2 h
  have hb:Pa W g n x=2:=by unfold Pa; rw[B' n1,C' (by simpa using g2)]
  exact OZ.no hW (by rw[hb]; decide) (hK.step R6) hb
 have n1:¬(Qe n=0\/M1 x=false\/x=0):=by
  simp only[H',beq_eq_false_iff_ne,I6,ne_eq] at g1;rintro (h | h | h)
  ·exact g1.1.1 h
  ·rw[g1.1.2] at h; cases h
  ·exact g1.2 h
 have hu:Q6 W.ID g=true:=by simpa using g2
 have n2:¬Q6 W.ID g=false:=by rw[hu]; decide
 refine⟨λvs w1=>∃a t:Int,vs=[.int .i64 a,.int .i64 t]/\-1<=t/\t<12/\(a = -1/\(∀j:Nat,t<(j:Int)->j<12->MD W j=false)\/t<a/\a<12/\MD W a.toNat=true/\∀j:Nat,t<(j:Int)->(j:Int)<a->MD W j=false)/\Q0 [y,y1] wv w1,
  λvs _=>(ZE 1 vs+1).toNat,λw1 mZ _=>⟨-1,_,rfl,Qo,Qo,.inl ⟨rfl,λj h1 h2=>by omega⟩,mZ⟩,?_⟩
 rintro av tv R8 fQ ⟨a,t,aR,ht0,ht1,AP5,hxw⟩;simp only[I4,I5,true_and,and_true] at aR;obtain⟨rfl,rfl⟩:=aR;have hK1:=hK.step hxw;have uQ:=hK1.rd;refine⟨λIN=>?_,λRx=>?_⟩
 ·have IN:=Ot IN;have e:((tv.toNat:Nat):Int)=tv:=Qo;have oH:MD W tv.toNat=((Q7 W tv).state==0):=by unfold MD; rw[e]
  refine⟨uQ.t.ix QF IN Qo,_,uQ.t.f IN Qo (j:=0) rfl,λg3=>⟨⟨Qo,Qo⟩,λRN Sm _=>⟨⟨tv,tv-1,rfl,Qo,Qo,.inr ⟨Qo,ht1,by rw[oH]; exact g3,λj h1 h2=>by omega⟩,hxw.trans Sm⟩,?_⟩⟩,λg3=>⟨⟨Qo,Qo⟩,λSj WT _=>⟨⟨av,tv-1,rfl,Qo,Qo,?_,hxw.trans WT⟩,?_⟩⟩⟩
  ·simp only[ZE,Ie,List.getElem?_cons_succ]; omega
  ·have g3:MD W tv.toNat=false:=by rw[oH]; exact g3
   have one:∀j:Nat,tv-1<(j:Int)->¬tv<(j:Int)->MD W j=false:=λj h1 h2=>by
    have:j=tv.toNat:=Qo;rw[this]; exact g3
   rcases AP5 with ⟨h1,h2⟩ | ⟨h1,h2,h3,h4⟩
   ·exact .inl ⟨h1,λj j1 j2=>if h:tv<(j:Int) then h2 j h j2 else one j j1 h⟩
   ·exact .inr ⟨Qo,h2,h3,λj j1 j2=>if h:tv<(j:Int) then h4 j h j2 else one j j1 h⟩
  ·simp only[ZE,Ie,List.getElem?_cons_succ]; omega
 ·have Rx:=Ou Rx;have ht:tv = -1:=Qo;subst ht
  have sY:av=TR W:=by
   rcases AP5 with ⟨h1,h2⟩ | ⟨h1,h2,h3,h4⟩
   ·rw[h1]; exact(zsf λj hj=>h2 j Qo hj).symm
   ·exact(zse Qo h2 h3 λj hj=>h4 j Qo hj).symm
  subst sY;refine⟨λg4 SM eB=>?_,λg4=>⟨λg5 V' oQ=>?_,λg5=>?_⟩⟩
  ·have g4:=Ot g4;have hb:Pa W g n x=3:=by unfold Pa; rw[B' n1,B' n2,C' g4]
   exact OZ.no hW (by rw[hb]; decide) (hK1.step eB) hb
  ·have g4:=Ou g4;have aZ:¬QT W=true:=λhr=>by rw[C' hr] at g5; simp at g5
   have hb:Pa W g n x=10:=by unfold Pa; rw[B' n1,B' n2,B' g4,C' (by simpa using aZ)]
   rw[B' aZ];exact OZ.no hW (by rw[hb]; decide) (hK1.step oQ) hb
  have g4:=Ou g4;have aZ:QT W=true:=Iq λhr=>by rw[B' hr] at g5; simp at g5
  have hb:Pa W g n x=0:=by unfold Pa; rw[B' n1,B' n2,B' g4,B' (by rw[aZ]; decide)]
  have hf:=zsc hW hb;obtain⟨u0,u1,_⟩:=Q4.1 hu;have hsl:=wp.a.sl hu;have c0:=hf.c0;have c1:=hf.c1;have f0:=hf.f0;have f1:=hf.f1;have SN:Wk 8 [y,y1] w (R9 R8 m'.tO (Int.toNat (TR W)*9) (XS (GK W g n x))) (IU W (TR W) (GK W g n x)) m':=hK1.R9 (hK1.own.AD6 f0 (by rw[eM]; exact f1) (j:=0) (vs:=XS (GK W g n x)) (x:=GK W g n x) (by simp[XS]) (by simp[XS])) Hm;refine⟨_,XI uQ wp.a.c2 wp.a.tree hu,_,G1 uQ wp.a (zxv wp),uQ.g.ix u0 u1,_,_,_,uQ.g.R0 u0 u1,(uQ.g.IF g u0 u1).ix X0 c0 (by rw[hsl]; exact c1),(Qa W g (LU W g x)).floor,zna.f (uQ.g.IF g u0 u1) c0 (by rw[hsl]; exact c1) (j:=0) rfl,uQ.t.ix QF f0 (by rw[eM]; exact f1),zts hK1.own hK1.nb f0 (by rw[eM]; exact f1) (j:=0) (k:=9) Qd,λWS gL hs9=>?_⟩;have e5:Qb (IU W (TR W) (GK W g n x)) m'=Qb W m':=Kb _ _ _ _;have dY:=SN.step gL;have aE:=ZG dY.own c0 (show LU W g x<((IU W (TR W) (GK W g n x)).IE.length:Int) from c1);rw[e5] at aE;refine I3 aE ?_;rintro e2 RF ⟨aR,iY⟩;refine⟨_,_,_,_,_,_,_,_,_,_,aR,dY.kept iY hs9,λSi tD nQ=>?_⟩;have hK7:=(dY.Sn iY hs9).step tD;have sU:=QA hK7.own (hf.sw2.Rz c0 c1) Qd Qd hK7.base;refine I3 sU ?_;rintro e3 RU ⟨m2,jR,hy5⟩;exact⟨_,_,_,_,_,_,_,_,_,_,jR,hK7.kept hy5 nQ,λV' oQ=>OZ.ok hW hb ((hK7.Sn hy5 nQ).step oQ)⟩
end
section
variable {base pb:Nat}{W W':Q8}{m:MW}{w:Wo}
end
structure JF (W:Q8):Prop where
 wp:YI W
 fl:z5f W
theorem ZF{K:Int}{W:Q8}(sw:SW K W)(hK:0<=K)(fK:K+Ud<=100000000000000000)(p:O4 W)(hl:zbs W):JF (Qg W):=by
 obtain⟨a,b⟩:=zfq sw hK fK p hl;exact⟨a,b⟩
theorem zbs.Rz{W:Q8}(h:zbs W)(c:Int):zbs (Rz W c):=(HS W c).loc rfl h
theorem zbs.IU{W:Q8}(h:zbs W)(ha:WA W){t:Int}(t0:0<=t)(t1:t<12){x:Lm}(hx:x.state≠0->QZ (Qx W x.group x.mask) x.IZ=true):zbs (IU W t x):=λi i0 i1 n=>by
 have hl:=ha.t;have e:Q7 (YtnclplgaicdapaaGreatDoor.IU W t x) i=if t=i then x else Q7 W i:=QM _ _ t0 Qo i0;rw[e] at n ⊢;rw[(zrh W t x).wh]
 split at n
 ·rename_i he;rw[C' he]; exact hx n
 ·rename_i he;rw[B' he]; exact h i i0 i1 n
theorem z0j(W:Q8)(t c:Int)(x:Lm):Rz (IU W t x) c=IU (Rz W c) t x:=rfl
theorem OV{W:Q8}(p:O4 W){t:Int}(t0:0<=t)(t1:t<12)(n:(Q7 W t).state≠0):Fd W (Q7 W t):=by
 rcases p.t t t0 t1 with h | h
 ·exact Ir h.1 n
 ·exact h.2
theorem zug{W:Q8}{t:Int}(hW:QD W=true)(hb:Tr W t=0):JF (zk7 W t):=by
 have wp:=Qj.1 hW;obtain⟨h1,h2,sw,sw2⟩:=zne hW hb;obtain⟨t0,t1,n⟩:=Yv h1;have hl:=wp.a.t;have p:=XL wp;have h:=OV p t0 Qo n;have qG:=Vn wp;refine ZF sw2 Qd Qd (p.IU t0 Qo (.inr ⟨by show (2:Int)≠0; decide,⟨.inr rfl,h.g,h.n,h.m,h.m0,h.s,h.u,h.l1,h.l2,λh=>by cases h⟩,p.l t t0 Qo n⟩) λc c0 c1 _ hs _=>by cases hs) (qG.IU wp.a t0 Qo λ_=>qG t t0 Qo n)
theorem zxm{W:Q8}{t:Int}(hW:QD W=true)(hb:P9 W t=0):JF (AM W t):=by
 have wp:=Qj.1 hW;obtain⟨h1,_,sw,_,sw2⟩:=zlo hW hb;obtain⟨t0,t1,n⟩:=Yv h1;have hl:=wp.a.t;have p:=XL wp;obtain⟨c0,c1⟩:=p.l t t0 Qo n
 have key:O4 (Z4 W t)/\zbs (Z4 W t):=by
  unfold Z4;split
  ·exact⟨p.Rz c0 c1,(Vn wp).Rz _⟩
  ·exact⟨p,Vn wp⟩
 exact ZF sw2 Qd Qd (key.1.IU t0 Qo (.inl ⟨rfl,rfl⟩) λc c0 c1 _ hs _=>by cases hs) (key.2.IU key.1.a t0 Qo λh=>Ir rfl h)
theorem zbj{W:Q8}(p:O4 W){t c:Int}(t0:0<=t)(t1:t<12){x:Lm}(n:x.state≠0)(hx:Fd W x)(hc:x.IZ=c)(c0:0<=c)(c1:c<(W.IE.length:Int)):O4 (Rz (IU W t x) c):=by
 rw[z0j];have hl:(Rz W c).IE.length=W.IE.length:=E';refine(p.Rz c0 c1).IU t0 t1 (.inr ⟨n,⟨hx.st,hx.g,hx.n,hx.m,hx.m0,hx.s,hx.u,hx.l1,hx.l2,hx.f⟩,by rw[hl,hc]; exact⟨c0,c1⟩⟩) λd d0 d1 qE _ hd=>?_
 rw[hc] at hd;subst hd;have e1:gi (Rz W c).IE c=XT (gi W.IE c):=(QM _ _ c0 c1 c0).trans (C' rfl);rw[e1] at qE;have qE:(-1:Int)=t:=qE;omega
theorem z3k(f v w:Int):f<=f+ZT (v-f) w/\f+ZT (v-f) w-f<=ZM w:=by
 have:=ZH (v-f) w;omega
theorem zxo{W:Q8}{t n:Int}(hW:QD W=true)(hb:PP W t n=0):JF (H9 W t n):=by
 have wp:=Qj.1 hW;have hq:=zsx hW hb;obtain⟨t0,t1,tn⟩:=Yv hq.th;have hl:=wp.a.t;have p:=XL wp;have hw:Qe n≠0:=λh=>by unfold PP at hb; rw[C' h] at hb; cases hb
 have h:=OV p t0 Qo tn;obtain⟨c0,c1⟩:=p.l t t0 Qo tn;have qG:=Vn wp;have hL:zbs (IU W t (Ju W t n)):=qG.IU wp.a t0 Qo λ_=>qG t t0 Qo tn
 have hT:Fd W (Ju W t n):=⟨h.st,h.g,hw,h.m,h.m0,h.s,h.u,h.l1,h.l2,λhs=>by
  have hs:(Q7 W t).state=1:=hs;rw[zsw hs];exact z3k _ _ _⟩
 have hK:K1+Ud<=100000000000000000:=by simp only[K1,Qi,Ud]; decide
 have hK0:0<=K1:=by simp only[K1,Qi]; decide
 unfold H9;split
 ·rename_i hs
  have hlv:Z4 (IU W t (Ju W t n)) t=if (gi W.IE (Q7 W t).IZ).cur=t then Rz (IU W t (Ju W t n)) (Q7 W t).IZ else IU W t (Ju W t n):=by
   unfold Z4;rw[LK t0 t1]; rfl
  have s2:=hq.s2;rw[hlv] at s2 ⊢;split
  ·rename_i qE;rw[C' qE] at s2;exact ZF s2 hK0 hK (zbj p t0 Qo tn hT rfl c0 c1) (hL.Rz _)
  ·rename_i qE;rw[B' qE] at s2;refine ZF s2 hK0 hK (p.IU t0 Qo (.inr ⟨tn,hT,c0,c1⟩) λd d0 d1 hd _ hx=>?_) hL;have hx:(Q7 W t).IZ=d:=hx;rw[hx] at qE;exact Ir hd qE
 ·rename_i hs;exact ZF hq.s1 hK0 hK (p.IU t0 Qo (.inr ⟨tn,hT,c0,c1⟩) λd d0 d1 hd hx _=>Ir hx hs) hL
theorem zxq{W:Q8}{t:Int}(hW:QD W=true)(hb:Kk W t=0):JF (AZ W t):=by
 have wp:=Qj.1 hW;obtain⟨h1,h2,_,sf,c0,c1⟩:=ztp hW hb;obtain⟨t0,t1,tn⟩:=Yv h1;have hl:=wp.a.t;have p:=XL wp;have h:=OV p t0 Qo tn;have qG:=Vn wp
 have hT:Fd W (O2 W t (MV W t)):=⟨.inl rfl,h.g,h.n,h.m,h.m0,h.s,h.u,h.l1,h.l2,λ_=>by
  have:=ZH ((Q7 W t).v-(Qa W (Q7 W t).group (Q7 W t).IZ).floor) (Qe (Q7 W t).nice);show (Qa W (Q7 W t).group (MV W t)).floor<=(Qa W (Q7 W t).group (MV W t)).floor+Du W t/\(Qa W (Q7 W t).group (MV W t)).floor+Du W t-(Qa W (Q7 W t).group (MV W t)).floor<=ZM (Qe (Q7 W t).nice);unfold Du;exact⟨Qo,Qo⟩⟩
 have hwh:QZ (Qx W (Q7 W t).group (Q7 W t).mask) (MV W t)=true:=by
  unfold MV;split
  ·exact(HN wp.a _ _).2.2
  ·exact qG t t0 Qo tn
 exact ZF ((zm6 sf t0 t1 tn c0 c1).Rz c0 c1).w (by simp only[Qi]; decide) (by simp only[Qi,Ud]; decide) (zbj p t0 Qo (show (1:Int)≠0 by decide) hT rfl c0 c1) ((qG.IU wp.a t0 Qo (x:=O2 W t (MV W t)) λ_=>hwh).Rz _)
def FH(l u:Int):Int:=if YP l 0 8000000=true/\YP u 0 1000000=true then l-Int.tdiv l 8+u else 0
def zhc(x:Lm):Lm:={ x with used:=0,load:=ZI (FH x.load (ZI x.used 1000000)) 8000000 }
def Pm(W:Q8):Nat->Q8
 | 0=>W
 | t+1=>IU (Pm W t) (t:Int) (zhc (Q7 (Pm W t) (t:Int)))
def H8(next p now:Int):Nat->Int
 | 0=>next
 | i+1=>if H8 next p now i<=now+((i:Int)+1) then H8 next p now i+p else H8 next p now i
structure zv2 (next p now v:Int):Prop where
 gt:now<v
 oJ:∃j:Nat,v=next+p*(j:Int)/\(j=0\/v-p<=now)
theorem EM{next p now:Int}(hp:1<=p)(hn:now<next):∀i:Nat,zv2 next p (now+(i:Int)) (H8 next p now i)
 | 0=>⟨by simp only[H8]; omega,0,by simp only[H8]; omega,.inl rfl⟩
 | i+1=>by
  obtain⟨h1,j,h2,h3⟩:=EM hp hn i;simp only[H8]
  push_cast
  split
  ·refine⟨Qo,j+1,?_,.inr Qo⟩;rw[h2]; push_cast; rw[Int.mul_add,Int.mul_one,Int.add_assoc]
  ·exact⟨Qo,j,h2,h3.imp id λh=>by omega⟩
theorem z02{next p now v v':Int}(hp:1<=p)(h:zv2 next p now v)(h':zv2 next p now v'):v=v':=by
 obtain⟨h1,j,h2,h3⟩:=h;obtain⟨k1,k,k2,k3⟩:=h'
 have key:∀a b:Nat,a<b->p*(a:Int)+p<=p*(b:Int):=λa b hab=>by
  have:p*((a:Int)+1)<=p*(b:Int):=Int.mul_le_mul_of_nonneg_left Qo Qo;rw[Int.mul_add,Int.mul_one] at this;exact this
 rcases Nat.lt_trichotomy j k with h | h | h
 ·have:=key j k h; omega
 ·subst h; omega
 ·have:=key k j h; omega
def J8(now:Int)(n:Nat)(G:ZX):ZX:=if (G.used&&(G.IP.IX != 0))=true/\G.next<=now+(n:Int) then { G with next:=H8 G.next G.period now n,IP:=JB G.IP } else G
theorem zqx{now:Int}{G:ZX}(h:G.IP.IX≠0->now<G.next):J8 now 0 G=G:=by
 unfold J8;rw[B'];rintro⟨h1,h2⟩;simp only[A',It,ne_eq] at h1;have:=h h1.2;simp at h2;omega
def TZ(W:Q8)(n:Nat):Nat->Q8
 | 0=>{ W with now:=W.now+(n:Int) }
 | k+1=>Rn (TZ W n k) (k:Int) (J8 W.now n (gi W.ID (k:Int)))
def Y4(W:Q8)(n:Nat):Q8:=TZ W n 8
noncomputable def G5(W:Q8)(n:Int):Int:=if YP n 1 1000=false then 1 else if QT W=false then 10 else 0
def zkn(W:Q8)(n:Int):Q8:=Qg (Pm (Y4 W n.toNat) 12)
theorem HL(now:Int)(n:Nat)(G:ZX):(J8 now n G).used=G.used/\(J8 now n G).parent=G.parent/\(J8 now n G).name=G.name/\(J8 now n G).IF=G.IF/\(J8 now n G).weight=G.weight/\(J8 now n G).IE=G.IE/\(J8 now n G).sum=G.sum/\(J8 now n G).period=G.period/\(J8 now n G).IP.IX=G.IP.IX:=by
 unfold J8; split <;> exact⟨rfl,rfl,rfl,rfl,rfl,rfl,rfl,rfl,rfl⟩
theorem OK(W:Q8)(n:Nat):∀k:Nat,(TZ W n k).ID.length=W.ID.length/\(TZ W n k).now=W.now+(n:Int)/\(TZ W n k).IE=W.IE/\(TZ W n k).tasks=W.tasks
 | 0=>⟨rfl,rfl,rfl,rfl⟩
 | k+1=>by
  obtain⟨a,b,c,d⟩:=OK W n k;exact⟨by show (List.set _ _ _).length=_; rw[E']; exact a,b,c,d⟩
theorem L9(W:Q8)(n:Nat):∀k:Nat,k<=W.ID.length->∀i:Int,0<=i->gi (TZ W n k).ID i=if i<(k:Int) then J8 W.now n (gi W.ID i) else gi W.ID i
 | 0,_,i,i0=>by rw[B' Qo]; rfl
 | k+1,hk,i,i0=>by
  have ih:=L9 W n k Qo i i0;have hl:=(OK W n k).1;show gi (Rn (TZ W n k) (k:Int) _).ID i=_;rw[Xk Qo Qo i0]
  by_cases e:(k:Int)=i
  ·subst e;rw[C' rfl,C' Qo]
  ·rw[B' e,ih]
   by_cases h:i<(k:Int)
   ·rw[C' h,C' Qo]
   ·rw[B' h,B' Qo]
theorem zr6(W:Q8):∀k:Nat,(Pm W k).ID=W.ID/\(Pm W k).now=W.now/\(Pm W k).IE=W.IE/\(Pm W k).tasks.length=W.tasks.length
 | 0=>⟨rfl,rfl,rfl,rfl⟩
 | k+1=>by
  obtain⟨a,b,c,d⟩:=zr6 W k;exact⟨a,b,c,by show (List.set _ _ _).length=_; rw[E']; exact d⟩
theorem zr7{K:Int}{W:Q8}(h:SW K W):∀k:Nat,k<=12->SW K (Pm W k)
 | 0,_=>h
 | k+1,hk=>by
  have ih:=zr7 h k Qo;have hv:=ih.tv (k:Int) Qo Qo;exact ih.IU Qo Qo (x:=zhc (Q7 (Pm W k) (k:Int))) (λhs=>ih.t (k:Int) Qo Qo hs) hv.1 hv.2
theorem zw5{b:Ve}(h:P0 b):P0 (JB b)/\(JB b).locals.length=b.locals.length:=by
 have hd:=h.dl;refine⟨⟨h.q1,h.q2,by simp only[JB,List.length_replicate]; have:=h.l1; omega,by simp only[JB,List.length_replicate]; have:=h.l2; omega,by simp[JB],by simp only[JB]; have:=h.q1; omega,I2 _,by simp[JB],by simp only[JB]; have:=h.q1; omega,λc c0 c1=>?_,?_⟩,by simp[JB,hd]⟩
 ·simp only[JB,List.length_replicate] at c1 ⊢;rw[MB _ _ c0 c1,MB _ _ c0 c1];have:=h.q1;exact⟨I2 _,Qo,λh=>by cases h⟩
 ·simp only[JB,List.length_replicate];rw[AA _ _ (I7 _)]; omega
theorem zyh{W W':Q8}{n:Nat}{k:Int}{G:ZX}(hg:zpm W k G)(hu:G.used=true)(hn:W'.now=W.now+(n:Int))(hc:W'.IE.length=W.IE.length):zpm W' k (J8 W.now n G):=by
 obtain⟨_,_,_,u4,u5,u6,u7,u8,u9⟩:=HL W.now n G;refine⟨by rw[u5]; exact hg.w1,by rw[u5]; exact hg.w2,by rw[u6]; exact hg.m,by rw[u6]; exact hg.m0,by rw[u7]; exact hg.s,by rw[u4,hc]; exact hg.len,λh=>by rw[u5,u6,u9]; exact hg.root h,λhq=>?_,λhq=>?_⟩
 ·rw[u9] at hq
  have:J8 W.now n G=G:=by
   unfold J8;rw[B'];rintro⟨h1,_⟩;simp only[A',It,ne_eq] at h1;exact h1.2 hq
  rw[this];exact hg.none hq
 ·rw[u9] at hq;obtain⟨b1,b2,b3,b4,b5,b6⟩:=hg.IP hq;rw[hn,hc];unfold J8;split
  ·obtain⟨f1,f2⟩:=zw5 b1;have hj:=EM b3 b5 n;refine⟨f1,by show (JB G.IP).locals.length=_; rw[f2]; exact b2,b3,b4,hj.gt,?_⟩;obtain⟨h1,j,h2,h3⟩:=hj;show H8 G.next G.period W.now n-(W.now+(n:Int))<=G.period;rcases h3 with rfl | h3
   ·simp at h2; omega
   ·omega
  ·rename_i hcnd;have IN:W.now+(n:Int)<G.next:=Int.not_le.1 λhle=>hcnd ⟨by rw[hu]; simpa using hq,hle⟩
   exact⟨b1,b2,b3,b4,IN,Qo⟩
theorem EW(W:Q8)(n:Nat):∀k:Nat,k<=W.ID.length->Z1 W.ID (TZ W n k).ID
 | 0,_=>Z1.refl _
 | k+1,hk=>by
  have ih:=EW W n k Qo;have hl:=(OK W n k).1;have e:=L9 W n k Qo (k:Int) Qo;rw[B' Qo] at e;obtain⟨u1,u2,u3,_⟩:=HL W.now n (gi W.ID (k:Int));exact ih.trans (U9 (W:=TZ W n k) (g:=(k:Int)) (x:=J8 W.now n (gi W.ID (k:Int))) Qo Qo (by rw[u1,e]) (by rw[u2,e]) (by rw[u3,e]))
theorem zyi{K:Int}{W:Q8}{n:Nat}(h:SW K W)(h1:W.now+(n:Int)<=100000000000000000):SW K (Y4 W n):=by
 have hl:=h.a.gl;have hT:=EW W n 8 Qo;obtain⟨l1,l2,l3,l4⟩:=OK W n 8
 have e:∀i:Int,0<=i->i<8->gi (Y4 W n).ID i=J8 W.now n (gi W.ID i):=λi a b=>by
  have:=L9 W n 8 Qo i a
  rwa[C' (show i<((8:Nat):Int) by omega)] at this
 have n1:=h.a.n1;have et:∀t:Int,Q7 (Y4 W n) t=Q7 W t:=λt=>by unfold Q7; rw[show (Y4 W n).tasks=W.tasks from l4]
 have ec:(Y4 W n).IE=W.IE:=l3;have hT:Z1 W.ID (Y4 W n).ID:=hT;refine⟨⟨by rw[show (Y4 W n).now=_ from l2]; omega,by rw[show (Y4 W n).now=_ from l2]; exact h1,by rw[ec]; exact h.a.c1,by rw[ec]; exact h.a.c2,by rw[show (Y4 W n).tasks=W.tasks from l4]; exact h.a.t,hT.tree h.a.tree,by rw[ec]; exact h.a.ups,λk a b=>?_⟩,λt a b hs=>?_,λt a b=>?_,λk c u a b=>?_,λc a b=>?_⟩
 ·have hg:=h.a.grp k a b;obtain⟨u1,u2,u3,u4,u5,u6,u7,u8,u9⟩:=HL W.now n (gi W.ID k);unfold Kn;rw[e k a b];refine⟨λhu=>?_,λhu=>?_⟩
  ·rw[u1] at hu
   have:J8 W.now n (gi W.ID k)=gi W.ID k:=by
    unfold J8;rw[B'];rintro⟨h1,_⟩;rw[hu] at h1;cases h1
   rw[this];exact hg.1 hu
  ·rw[u1] at hu;exact zyh (hg.2 hu) hu l2 (by rw[ec])
 ·rw[et] at hs ⊢;rw[hT.cQ,ec];exact h.t t a b hs
 ·rw[et]; exact h.tv t a b
 ·rw[hT.cQ] at u;rw[ec] at b;have hk:=Q4.1 u
  have:Qa (Y4 W n) k c=Qa W k c:=by
   unfold Qa;rw[e k hk.1 Qo,(HL W.now n (gi W.ID k)).2.2.2.1]
  rw[this];exact h.s k c u a b
 ·rw[ec] at b ⊢;exact h.cu c a b
theorem z3w{W:Q8}(ha:WA W):Y4 W 0=W:=by
 have hl:=ha.gl;obtain⟨l1,l2,l3,l4⟩:=OK W 0 8
 have hg:(Y4 W 0).ID=W.ID:=zqe l1 λk hk=>by
  have hk8:k<8:=by have:(Y4 W 0).ID.length=W.ID.length:=l1; omega
  have:=L9 W 0 8 Qo (k:Int) Qo;rw[C' Qo] at this;refine this.trans (zqx λhq=>?_);have hgp:=ha.grp (k:Int) Qo Qo
  cases hu:(gi W.ID (k:Int)).used with
  | true=>exact((hgp.2 hu).IP hq).2.2.2.2.1
  | false=>
   have:=(hgp.1 hu).b;exact Ir (by unfold OJ at this; simp only[A',Is] at this; exact this.1.1.1.1) hq
 have h2:(Y4 W 0).now=W.now:=by rw[show (Y4 W 0).now=_ from l2]; simp
 have h3:(Y4 W 0).IE=W.IE:=l3;have h4:(Y4 W 0).tasks=W.tasks:=l4;generalize Y4 W 0=V at hg h2 h3 h4;cases V;cases W;simp only at hg h2 h3 h4;subst hg; subst h2; subst h3; subst h4;rfl
theorem ztl{W:Q8}{n:Int}(hW:QD W=true)(hb:G5 W n=0):YP n 1 1000=true/\QT W=true/\SW Qn W/\W.now<=Qn/\SW Qn (Y4 W n.toNat)/\SW Qn (Pm (Y4 W n.toNat) 12):=by
 have wp:=Qj.1 hW;unfold G5 at hb
 split at hb
 ·cases hb
 ·rename_i h1
  split at hb
  ·cases hb
  ·rename_i h3;have h1:YP n 1 1000=true:=by simpa using h1
   have h3:QT W=true:=by simpa using h3
   have hr:=Qj.1 h3;have sw:=MR wp hr;have hn:=hr.n;have hi:=Qv.1 h1;have hh:Qn=50000000000000000:=rfl;have s1:=zyi (n:=n.toNat) sw Qo;exact⟨h1,h3,sw,hn,s1,zr7 s1 12 (I7 _)⟩
section
variable {W W':Q8}{m:MW}{w:Wo}{bar:Int}
theorem zz7{l u:Int}(h1:YP l 0 8000000=true)(h2:YP u 0 1000000=true):0<=Int.tdiv l 8/\Int.tdiv l 8<=l:=by
 have:=Qv.1 h1;rw[Int.tdiv_eq_ediv_of_nonneg this.1];omega
theorem NV{bs:List Nat}{l u:Int}:PX bs TE #[I l,I u] w (I (FH l u)):=
 Aj l u λwr hx=>⟨_,Qm,_,λ_=>Qm,λg=>(by
  unfold FH;rw[B'];rintro⟨h1,h2⟩;rw[h1,h2] at g
  cases g),λg=>by
  have h1:YP l 0 8000000=true:=by cases h:YP l 0 8000000 <;> simp_all
  have h2:YP u 0 1000000=true:=by cases h:YP u 0 1000000 <;> simp_all
  have hb:=zz7 h1 h2;have i1:=Qv.1 h1;have i2:=Qv.1 h2;refine⟨⟨Qd,Qo,Qo⟩,⟨Qo,Qo⟩,⟨Qo,Qo⟩,?_⟩;unfold FH;rw[C' ⟨h1,h2⟩]⟩
theorem zrb{W:Q8}{k:Int}(h0:0<=k)(h1:k<(W.ID.length:Int)):Rn W k (gi W.ID k)=W:=by
 unfold Rn;rw[Le h0 h1]
theorem z9{n:Int}(h:XE [] w W m)(hl:Ua W) :
  Cz On #[.agg (Qb W m).toArray,I n] w λe w'=>∃v,e=.returned v/\QR (YY W (G5 W n) (zkn W n)) w v w':=by
 refine CU _ _ _ _ _ _ _ _ _ _ n (R:=λv w'=>QR (YY W (G5 W n) (zkn W n)) w v w') ?_;intro x hx x1 RZ wr R5 SR;refine I3 (Zh (h.ext R5) hl) ?_;rintro e wv (⟨hW,he,hy⟩ | ⟨hW,m',he,hM,hy⟩)
 ·exact⟨_,_,_,_,_,_,_,_,_,_,_,he,Qf hy SR,false,λg=>by simp at g,λ_ I' R6=>QR.bad hW ((R5.trans hy).fresh R6 λy hm=>.inl (Xa hx RZ y hm)),λg=>by simp at g⟩
 have hK:=Wk.begin hx RZ R5 SR hM hy;have sS:((if QT W=true then 0 else 10:Int)==1)=false:=by split <;> rfl
 refine⟨_,_,_,_,_,_,_,_,_,_,_,he,Qf hy SR,_,λ_=>Qm,λg I' R6=>?_,λg=>⟨λg3 M' R6=>?_,λg3=>?_⟩⟩
 ·rw[sS] at g;have g:YP n 1 1000=false:=by simpa using g
  have hb:G5 W n=1:=by unfold G5; rw[C' g]
  exact QR.no hW (by rw[hb]; decide) (hK.step R6) hb
 ·rw[sS] at g;have g:YP n 1 1000=true:=by simpa using g
  have aZ:¬QT W=true:=λhr=>by rw[C' hr] at g3; simp at g3
  have hb:G5 W n=10:=by unfold G5; rw[B' (by rw[g]; decide),C' (by simpa using aZ)]
  rw[B' aZ];exact QR.no hW (by rw[hb]; decide) (hK.step R6) hb
 rw[sS] at g;have g:YP n 1 1000=true:=by simpa using g
 have aZ:QT W=true:=Iq λhr=>by rw[B' hr] at g3; simp at g3
 have hb:G5 W n=0:=by unfold G5; rw[B' (by rw[g]; decide),B' (by rw[aZ]; decide)]
 obtain⟨_,_,sw,CR8,sp,sd⟩:=ztl hW hb;have hn:=Qv.1 g;obtain⟨N,rfl⟩:=Int.eq_ofNat_of_zero_le (show 0<=n by omega);have hE:zkn W (N:Int)=Qg (Pm (Y4 W N) 12):=by unfold zkn; rw[Ig]
 rw[Ig] at sp sd;rw[hE];have bZ:=sw.a.gl;have eM:=sw.a.t;have hn1:=sw.a.n1;have hh:Qn=50000000000000000:=rfl;refine⟨⟨Qo,Qo⟩,?_⟩;refine XJ W.ID.length 0 rfl (λk w2=>k<=8/\∃m2,Wk 8 [x,x1] w w2 (TZ W N k) m2/\m2={ m' with ms:=m2.ms }) (λw2 R6 _=>⟨Qd,m',(show Wk 8 [x,x1] w wv (TZ W N 0) m' from ⟨hK.s,⟨⟨hK.own.c,hK.own.t,hK.own.g,hK.own.len⟩,hK.nb⟩⟩).step R6,rfl⟩) λk w2 fQ ⟨hk8,m2,fK,hd2⟩=>?_
 obtain⟨l1,l2,l3,l4⟩:=OK W N k;have eG:=L9 W N k Qo (k:Int) Qo;rw[B' Qo] at eG;have W5:TZ W N (k+1)=Rn (TZ W N k) (k:Int) (J8 W.now N (gi W.ID (k:Int))):=rfl;have rL:k=8->Y4 W N=TZ W N k:=λe=>by rw[e]; rfl
 have B26:(k:Int)<(W.ID.length:Int)->Rn (TZ W N k) (k:Int) (gi W.ID (k:Int))=TZ W N k:=λIN=>by
  have:=zrb (W:=TZ W N k) (k:=(k:Int)) Qo Qo
  rwa[eG] at this
 have emg:m2.gO=m'.gO:=by rw[hd2]
 have emc:m2.gC=m'.gC:=by rw[hd2]
 refine⟨λIN=>?_,λRx=>?_⟩
 ·have IN:=Ot IN;generalize TZ W N k=V at fK l1 l2 l3 l4 eG W5 rL B26;have hr:=fK.rd;have Bu5:(k:Int)<(V.ID.length:Int):=Qo;have Wg:Ix m'.gO W.ID.length (k:Int):=by have:=hr.g.ix (i:=(k:Int)) Qo Bu5; rwa[l1,emg] at this
  have hcs:=hr.g.cells (k:Int) Qo Bu5;rw[eG,emg] at hcs;refine⟨Wg,_,_,_,_,_,_,_,_,_,_,_,_,_,_,_,_,_,_,_,_,hcs,λb2 bR=>⟨λg4=>⟨⟨Qo,Qo⟩,λw3 R6 _=>Qp Qo ⟨Qo,m2,?_,hd2⟩⟩,λg4 RN Sm kK=>?_⟩⟩
  ·have:J8 W.now N (gi W.ID (k:Int))=gi W.ID (k:Int):=by
    unfold J8;rw[B'];rintro⟨a,b⟩;simp only[Iu,IC,Is,Ij] at g4;simp only[A',It,ne_eq] at a;rcases g4 with (h1 | h1) | h1
    ·rw[a.1] at h1; cases h1
    ·exact a.2 h1
    ·omega
   rw[W5,this,B26 IN];exact fK.step R6
  ·simp only[H',I6,beq_eq_false_iff_ne,ne_eq,decide_eq_false_iff_not] at g4;obtain⟨⟨hu,hq⟩,DI9⟩:=g4;have jW:=(sw.a.grp (k:Int) Qo Qo).2 hu;obtain⟨dH,hbl,hp1,cN,hnx,hnp⟩:=jW.IP hq
   have hP:J8 W.now N (gi W.ID (k:Int))={ gi W.ID (k:Int) with next:=H8 (gi W.ID (k:Int)).next (gi W.ID (k:Int)).period W.now N,IP:=JB (gi W.ID (k:Int)).IP }:=by
    unfold J8;rw[C' ⟨by rw[hu]; simpa using hq,Qo⟩]
   have hJ:=EM hp1 hnx N;have qD:=(fK.add bR).step (Sm.mono λy hy=>Ia _ hy);have hr5:=qD.o.rd0;have hLo:=hr5.g.locals (k:Int) Qo Bu5;have hDo:=hr5.g.Ry (k:Int) Qo Bu5;rw[eG] at hLo hDo;refine I3 (Vt (op:=⟨4,0,0⟩) dH hLo hDo) ?_;rintro e RF ⟨pb,he,hO,SI⟩;have Cq1:Y1 (gi W.ID (k:Int)).IP ⟨4,0,0⟩=(JB (gi W.ID (k:Int)).IP,0):=by unfold Y1; rw[C' rfl]
   rw[Cq1] at he hO
   dsimp only at he hO
   refine⟨_,_,_,_,_,_,_,_,_,_,he,Qf SI kK,λb3 vK=>?_⟩;have dY:=(qD.R4 SI).add vK
   have hOb:∀y∈YN pb,y∉QU 8 m2/\y∉[x,x1]++[b2]++[b3]:=λy hy=>by
    have:=hO.lt y hy;refine⟨λhm=>by have:=(qD.own.lt y hm).2; omega,λhm=>?_⟩;rcases Im.1 hm with h1 | h1
    ·have:=kK y h1; omega
    ·have:y=b3:=by simpa using h1
     omega
   have hO4:Zs w.heap.size RF (JB (gi W.ID (k:Int)).IP) pb:=hO.mono qD.base;refine⟨λvs w'=>∃v:Int,vs=YJ { gi W.ID (k:Int) with next:=v,IP:=JB (gi W.ID (k:Int)).IP } (KE (m2.ms k) pb)/\(∃j:Nat,v=(gi W.ID (k:Int)).next+(gi W.ID (k:Int)).period*(j:Int)/\(j=0\/v-(gi W.ID (k:Int)).period<=W.now+(N:Int)))/\0<=v/\Wk 8 ([x,x1]++[b2]++[b3]) w w' V m2/\Zs w.heap.size w' (JB (gi W.ID (k:Int)).IP) pb,λvs _=>(W.now+(N:Int)+1-ZE 6 vs).toNat,λSM eB hs7=>⟨(gi W.ID (k:Int)).next,by simp[YJ,KE],⟨0,Qs,.inl rfl⟩,Qo,dY.step (eB.mono λy hy=>Ia _ hy),hO4.ext eB λy hy hm=>(hOb y hy).2 (Ia _ hm)⟩,?_⟩;rintro l0 a1 a2 a3 a4 a5 a6 a7 a8 a9 a10 CI3 CI2 CI1 CI6 CI5 CI4 B57 BV2 Cj6 aX eZ ⟨v,hv,hj,hv0,dR,hO5⟩;simp only[YJ,Zy,List.cons_append,List.nil_append,I4,Value.bool.injEq,I5,Value.string.injEq,Iv,true_and,and_true] at hv;obtain⟨rfl,rfl,rfl,rfl,rfl,rfl,rfl,rfl,rfl,rfl,rfl,⟨rfl,rfl,rfl⟩,⟨rfl,rfl,rfl⟩,rfl,rfl,rfl⟩:=hv;refine⟨λhle=>?_,λhgt=>?_⟩
   ·have hle:=Ot hle;refine⟨⟨Qo,Qo⟩,λV' oQ hs8=>⟨⟨a6+(gi W.ID (k:Int)).period,rfl,?_,Qo,dR.step oQ,hO5.ext oQ λy hy=>(hOb y hy).2⟩,?_⟩⟩
    ·obtain⟨j,h1,_⟩:=hj;exact⟨j+1,by rw[h1]; push_cast; rw[Int.mul_add,Int.mul_one,Int.add_assoc],.inr Qo⟩
    ·show (_-(a6+(gi W.ID (k:Int)).period)).toNat<(_-a6).toNat;omega
   ·have hgt:=Ou hgt;have hv6:a6=H8 (gi W.ID (k:Int)).next (gi W.ID (k:Int)).period W.now N:=z02 hp1 ⟨Qo,hj⟩ hJ;have uK:=ztr dR.own dR.nb (i:=(k:Int)) Qo Qo (j:=0) (k:=14) Qd;rw[emg] at uK;refine⟨Wg,uK,⟨Qo,Qo⟩,λWS gL hs9=>Qp Qo ⟨Qo,Gl m2 k (KE (m2.ms k) pb),?_,by rw[hd2]; rfl⟩⟩;rw[W5];have uH:=dR.gr (g:=(k:Int)) Qo Qo (G:=J8 W.now N (gi W.ID (k:Int))) (p:=pb) (j:=0) (vs:=YJ (J8 W.now N (gi W.ID (k:Int))) (KE (m2.ms k) pb)) (by rw[hP]; exact hO5) hOb (by rw[eG]; exact(HL _ _ _).2.2.2.1) (by simp[YJ]) (by simp[YJ]);refine(uH.step (w':=WS) ?_).sub λy hy=>Ia _ (Ia _ hy)
    rw[hP,<-hv6,emg];exact gL
 ·have Rx:=Ou Rx;rw[<-rL Qo] at fK l1 l2 l3 l4;have emt:m2.tO=m'.tO:=by rw[hd2]
  refine XJ W.tasks.length 0 rfl (λt w2=>t<=12/\Wk 8 [x,x1] w w2 (Pm (Y4 W N) t) m2) (λw2 R6 _=>⟨Qd,fK.step R6⟩) λt w2 eZ ⟨CA6,qD⟩=>?_
  obtain⟨q1,q2,q3,q4⟩:=zr6 (Y4 W N) t;have AJ9:Pm (Y4 W N) (t+1)=IU (Pm (Y4 W N) t) (t:Int) (zhc (Q7 (Pm (Y4 W N) t) (t:Int))):=rfl;have AP7:t=12->Pm (Y4 W N) 12=Pm (Y4 W N) t:=λe=>by rw[e]
  generalize hU:Pm (Y4 W N) t=U at qD q1 q2 q3 q4 AJ9 AP7;have hr:=qD.rd;refine⟨λIN=>?_,λaN SJ vM AQ4=>?_⟩
  ·have IN:=Ot IN;have t1:(t:Int)<(U.tasks.length:Int):=by rw[q4,l4]; exact IN
   have Wg:Ix m'.tO W.tasks.length (t:Int):=by have:=hr.t.ix QF (i:=(t:Int)) Qo t1; rwa[q4,l4,emt] at this
   have hcs:=hr.t (t:Int) Qo t1;rw[emt] at hcs;have uK:=zts qD.own qD.nb (i:=(t:Int)) Qo t1 (j:=0) (k:=9) Qd;rw[emt] at uK;refine⟨Wg,_,_,_,_,_,_,_,_,_,hcs,λb4 hb4=>⟨_,JR,_,NV,_,JR,Wg,uK,⟨Qo,Qo⟩,λSk AF8 AA9=>Qp Qo ⟨Qo,?_⟩⟩⟩;rw[AJ9];have SN:=qD.own.AD6 (i:=(t:Int)) Qo t1 (j:=0) (vs:=XS (zhc (Q7 U (t:Int)))) (x:=zhc (Q7 U (t:Int))) (by simp[XS]) (by simp[XS]);have dY:=qD.R9 SN Hm;rw[emt] at dY;exact dY.step AF8
  ·have aN:=Ou aN;rw[AP7 Qo] at sd ⊢;have dY:=qD.step vM;have Rq:=QA dY.own sd Qd Qd dY.base
   have e5:Qb U m2=[I (W.now+(N:Int)),.slice m'.cO W.IE.length m'.cC,.slice m'.tO W.tasks.length m'.tC,.slice m'.gO W.ID.length m'.gC]:=by
    unfold Qb;rw[q2,q3,q4,q1,l1,l2,l3,l4,hd2]
   rw[e5] at Rq;refine I3 Rq ?_;rintro e2 RF ⟨m3,aR,SI⟩;exact⟨_,_,_,_,_,_,_,_,_,_,aR,dY.kept SI AQ4,λWs Bj5=>QR.ok hW hb ((dY.Sn SI AQ4).step Bj5)⟩
structure Mn (base pb:Nat) (w0:Wo) (m0:MW) (w:Wo) (W:Q8) (m:MW):Prop where
 own:Zo 8 base w W m
 pt:w.heap[pb]? = some (.cells (Qb W m).toArray Q5 (0,0))
 pn:pb∉QU 8 m
 ext:Q0 (pb::QU 8 m0) w0 w
 sub:∀x∈QU 8 m,x∈QU 8 m0\/w0.heap.size<=x
section
variable {base pb:Nat}{w0 w':Wo}{m0 m':MW}
theorem Mn.start(h:PW base pb w W m):Mn base pb w m w W m:=⟨h.own,h.pt,h.pn,Q0.refl _ _,λ_ hx=>.inl hx⟩
end
end
theorem O4.same{W W':Q8}(p:O4 W)(ha:WA W')(ht:W'.tasks=W.tasks)(hc:W'.IE=W.IE)(hT:Z1 W.ID W'.ID)(hs:∀k c:Int,Qa W' k c=Qa W k c):O4 W':=by
 have est:∀k c:Int,T8 W' k c↔T8 W k c:=λk c=>by
  unfold T8;rw[hT.p,hs,hs]
 refine⟨⟨ha,λt t0 t1=>?_,λt t0 t1 n=>by rw[Jf ht] at n ⊢; rw[hc]; exact p.l t t0 t1 n,λk c hk c0 c1=>?_⟩,λc c0 c1=>?_⟩
 ·rw[Jf ht];rcases p.t t t0 t1 with h | ⟨h1,h2⟩
  ·exact .inl h
  ·exact .inr ⟨h1,h2.st,by rw[hT.cQ]; exact h2.g,h2.n,h2.m,h2.m0,h2.s,h2.u,h2.l1,h2.l2,λh=>by rw[hs]; exact h2.f h⟩
 ·rw[hT.cQ] at hk;rw[hc] at c1;exact(p.s k c hk c0 c1).Bg5 (hs _ _) λ_=>by rw[hT.p,hs]
 ·rw[hc] at c1;have h:=p.c c c0 c1;refine⟨by rw[hc]; exact h.b,by rw[hc]; exact h.i,by rw[hc]; exact h.c1,by rw[hc]; exact h.c2,by rw[hc]; exact h.no,by rw[hc]; exact h.yes,λh0 h1 h2=>?_⟩;rw[hc,Jf ht] at *;obtain⟨q1,q2⟩:=h.q h0 h1 h2;refine⟨by rw[hs]; exact q1,λy hy=>?_⟩;rw[O0 hT] at hy;rw[est,hT.p,hs,hs];exact q2 y hy
theorem z15{W W':Q8}(hT:Z1 W.ID W'.ID)(hm:∀i:Int,(gi W'.ID i).IE=(gi W.ID i).IE)(hu:U1 W'.IE=U1 W.IE)(g m:Int):Qx W' g m=Qx W g m:=by
 unfold Qx
 have hp:Ti W'.ID g (U1 W.IE)=Ti W.ID g (U1 W.IE):=by
  unfold Ti;rw[show QP W'.ID g=QP W.ID g from hT.path 3 g]
  congr 1
  funext s x
  rw[hm]
 rw[hu,hp]
theorem zbs.same{W W':Q8}(h:zbs W)(ht:W'.tasks=W.tasks)(hT:Z1 W.ID W'.ID)(hm:∀i:Int,(gi W'.ID i).IE=(gi W.ID i).IE)(hu:U1 W'.IE=U1 W.IE):zbs W':=λt t0 t1 n=>by
 rw[Jf ht] at n ⊢;rw[z15 hT hm hu];exact h t t0 t1 n
theorem zrd{W:Q8}{g:Int}{x:ZX}(s:x.IF=(gi W.ID g).IF)(k c:Int):Qa (Rn W g x) k c=Qa W k c:=by
 unfold Qa;rw[show (gi (Rn W g x).ID k).IF=(gi W.ID k).IF from YT (f:=ZX.IF) _ _ s k]
theorem z0v{W:Q8}{g q p:Int}(hW:QD W=true)(hb:zoe W g q p=0):JF (z1a W g q p):=by
 have wp:=Qj.1 hW;obtain⟨hu,hz,_,_,sw,sw2⟩:=zxw hW hb;obtain⟨u0,u1,_⟩:=Q4.1 hu;have h:=zl6 (W:=W) (g:=g) (q:=q) (p:=p);have hT:=U9 (W:=W) (x:=KC W g q p) u0 u1 h.1 h.2.1 h.2.2.1;exact ZF sw2 Qd Qd ((XL wp).same sw2.a rfl rfl hT (zrd h.2.2.2.1)) ((Vn wp).same rfl hT (λi=>YT (f:=ZX.IE) _ _ h.2.2.2.2.2.1 i) rfl)
theorem zxp{W:Q8}{n:Int}(hW:QD W=true)(hb:G5 W n=0):JF (zkn W n):=by
 have wp:=Qj.1 hW;obtain⟨_,_,sw,_,sp,sd⟩:=ztl hW hb;have bZ:=wp.a.gl;obtain⟨l1,l2,l3,l4⟩:=OK W n.toNat 8;have hT:Z1 W.ID (Y4 W n.toNat).ID:=EW W n.toNat 8 Qo
 have key:∀i:Int,(gi (Y4 W n.toNat).ID i).IF=(gi W.ID i).IF/\(gi (Y4 W n.toNat).ID i).IE=(gi W.ID i).IE:=λi=>by
  have hu:=HL W.now n.toNat (gi W.ID ((i.toNat:Nat):Int));have e:=L9 W n.toNat 8 Qo ((i.toNat:Nat):Int) Qo;rw[zdm (Y4 W n.toNat).ID i,zdm W.ID i];unfold Y4;rw[e];split
  ·exact⟨hu.2.2.2.1,hu.2.2.2.2.2.1⟩
  ·exact⟨rfl,rfl⟩
 have p1:O4 (Y4 W n.toNat):=(XL wp).same sp.a l4 l3 hT λk c=>by unfold Qa; rw[(key k).1]
 have q1:zbs (Y4 W n.toNat):=(Vn wp).same l4 hT (λi=>(key i).2) (by rw[show (Y4 W n.toNat).IE=W.IE from l3])
 have all:∀k:Nat,k<=12->O4 (Pm (Y4 W n.toNat) k)/\zbs (Pm (Y4 W n.toNat) k):=by
  intro k
  induction k with
  | zero=>exact λ_=>⟨p1,q1⟩
  | succ k ih=>
   intro hk;obtain⟨a,b⟩:=ih Qo;show O4 (IU (Pm (Y4 W n.toNat) k) (k:Int) (zhc (Q7 (Pm (Y4 W n.toNat) k) (k:Int))))/\zbs (IU (Pm (Y4 W n.toNat) k) (k:Int) (zhc (Q7 (Pm (Y4 W n.toNat) k) (k:Int))));generalize Pm (Y4 W n.toNat) k=V at a b
   by_cases hs:(Q7 V (k:Int)).state=0
   ·have hz:Q7 V (k:Int)=Oc:=by
     rcases a.t (k:Int) Qo Qo with h | h
     ·exact h.2
     ·exact Ir hs h.1
    rw[hz];have hd:zhc Oc=Oc:=Qd;rw[hd];exact⟨a.IU Qo Qo (.inl ⟨rfl,rfl⟩) λc _ _ _ h _=>(by cases h),b.IU a.a Qo Qo λh=>Ir rfl h⟩
   ·have h:=OV a (t:=(k:Int)) Qo Qo hs;have hlo:=a.l (k:Int) Qo Qo hs
    have hld:0<=(zhc (Q7 V (k:Int))).load/\(zhc (Q7 V (k:Int))).load<=8000000:=by
     have h1:=h.l1;have h2:=h.l2;have h3:=Xl.1 h.u
     have ht:0<=Int.tdiv (Q7 V (k:Int)).load 8/\Int.tdiv (Q7 V (k:Int)).load 8<=(Q7 V (k:Int)).load:=by
      rw[Int.tdiv_eq_ediv_of_nonneg h1];omega
     show 0<=ZI (FH (Q7 V (k:Int)).load (ZI (Q7 V (k:Int)).used 1000000)) 8000000/\ZI (FH (Q7 V (k:Int)).load (ZI (Q7 V (k:Int)).used 1000000)) 8000000<=8000000;have hm:0<=ZI (Q7 V (k:Int)).used 1000000:=by unfold ZI; split <;> omega
     have hbt:0<=FH (Q7 V (k:Int)).load (ZI (Q7 V (k:Int)).used 1000000):=by unfold FH; split <;> omega
     generalize FH (Q7 V (k:Int)).load (ZI (Q7 V (k:Int)).used 1000000)=y at hbt;unfold ZI
     split <;> omega
    refine⟨a.IU Qo Qo (.inr ⟨hs,⟨h.st,h.g,h.n,h.m,h.m0,h.s,by show ZW 0=true; decide,hld.1,hld.2,h.f⟩,hlo⟩) λc c0 c1 qE h1 h2=>?_,b.IU a.a Qo Qo λ_=>b (k:Int) Qo Qo hs⟩;have hc:=(a.c c c0 c1).q (by rw[qE]; omega);rw[qE] at hc;exact hc h1 h2
 obtain⟨p2,q2⟩:=all 12 (I7 _);exact ZF sd Qd Qd p2 q2
theorem zfi{W:Q8}(p:O4 W){t g c:Int}(t0:0<=t)(t1:t<12)(n:(Q7 W t).state≠0)(hg:Q6 W.ID g=true)(c0:0<=c)(c1:c<(W.IE.length:Int)):O4 (XW W t g c):=by
 have h:=OV p t0 t1 n
 have hT:Fd W (T6 W t g c):=⟨h.st,hg,h.n,h.m,h.m0,h.s,h.u,h.l1,h.l2,λ_=>by
  have:=ZH ((Q7 W t).v-(Qa W (Q7 W t).group (Q7 W t).IZ).floor) (Qe (Q7 W t).nice);show (Qa W g c).floor<=(Qa W g c).floor+Du W t/\(Qa W g c).floor+Du W t-(Qa W g c).floor<=ZM (Qe (Q7 W t).nice);unfold Du;exact⟨Qo,Qo⟩⟩
 unfold XW;split
 ·exact zbj p t0 t1 n hT rfl c0 c1
 ·rename_i hs;exact p.IU t0 t1 (.inr ⟨n,hT,c0,c1⟩) λd _ _ _ h _=>Ir h hs
theorem zbn(W:Q8)(t g c:Int):O5 W (XW W t g c):=by
 unfold XW;split
 ·exact(zrh _ _ _).trans (HS _ _)
 ·exact zrh _ _ _
theorem zq5{W:Q8}(hl:W.tasks.length=12){t g c:Int}(t0:0<=t)(t1:t<12){i:Int}(i0:0<=i):Q7 (XW W t g c) i=if t=i then T6 W t g c else Q7 W i:=by
 have e:Q7 (IU W t (T6 W t g c)) i=if t=i then T6 W t g c else Q7 W i:=QM _ _ t0 Qo i0;unfold XW;split
 ·exact e
 ·exact e
theorem zs8{W:Q8}(p:O4 W):∀k:Nat,k<=12->O4 (UM W k)/\O5 W (UM W k)/\(∀t:Int,0<=t->t<(k:Int)->(Q7 (UM W k) t).state≠0->QZ (Qx (UM W k) (Q7 (UM W k) t).group (Q7 (UM W k) t).mask) (Q7 (UM W k) t).IZ=true)
 | 0,_=>⟨p,O5.refl _,λt a b=>by omega⟩
 | k+1,hk=>by
  obtain⟨a,b,d⟩:=zs8 p k Qo;simp only[UM];generalize UM W k=V at a b d;have hl:=a.a.t;split
  ·rename_i hm;unfold H6 at hm;simp only[A',It,ne_eq] at hm;have h:=OV a (t:=(k:Int)) Qo Qo hm.1;have hf:=HY a.a (Q7 V (k:Int)).group (Q7 V (k:Int)).mask;have hw:=Hx a.a (Q7 V (k:Int)).group (Q7 V (k:Int)).mask;refine⟨zfi a Qo Qo hm.1 h.g hf.1 hf.2,b.trans (zbn _ _ _ _),λt t0 t1 n=>?_⟩;rw[(zbn V _ _ _).wh];rw[zq5 hl Qo Qo t0] at n ⊢
   split at n
   ·rename_i he;rw[C' he];exact Bn hw.1 hw.2
   ·rename_i he;rw[B' he];exact d t t0 Qo n
  ·rename_i hm;refine⟨a,b,λt t0 t1 n=>?_⟩
   by_cases he:t=(k:Int)
   ·subst he;have hm:H6 V (k:Int)=false:=by simpa using hm
    unfold H6 at hm;rw[show ((Q7 V (k:Int)).state != 0)=true by simpa using n,Bool.true_and] at hm
    simpa using hm
   ·exact d t t0 Qo n
theorem zbm{W:Q8}(sf:SF Qn (Qn+Qi) W)(p:O4 W):JF (Qg (DB W)):=by
 obtain⟨a,b,d⟩:=zs8 p 12 (I7 _);exact ZF (HP sf (I2 _)).1.w (by simp only[Qi]; decide) (by simp only[Qi,Ud]; decide) a d
theorem z0z{W:Q8}{t x:Int}(hW:QD W=true)(hb:EY W t x=0):JF (zyn W t x):=by
 have wp:=Qj.1 hW;obtain⟨h1,_,sf⟩:=zyo hW hb;obtain⟨t0,t1,tn⟩:=Yv h1;have hl:=wp.a.t;have p:=XL wp;have h:=OV p t0 Qo tn
 have hx:M1 x=true/\x≠0:=by
  unfold EY at hb
  split at hb
  ·cases hb
  ·rename_i hn;exact⟨by cases hm:M1 x with | true=>rfl | false=>exact Ir (.inl hm) hn,λe=>hn (.inr e)⟩
 refine zbm sf (p.IU t0 Qo (.inr ⟨tn,⟨h.st,h.g,h.n,hx.1,hx.2,h.s,h.u,h.l1,h.l2,h.f⟩,p.l t t0 Qo tn⟩) λc c0 c1 qE h1 h2=>?_);have hc:=(p.c c c0 c1).q (by rw[qE]; omega);rw[qE] at hc;exact hc h1 h2
theorem z0u{W:Q8}{g x:Int}(hW:QD W=true)(hb:zn2 W g x=0):JF (zxd W g x):=by
 have wp:=Qj.1 hW;obtain⟨hu,_,_,sf,hT⟩:=zxe hW hb;exact zbm sf ((XL wp).same sf.w.a rfl rfl hT (zrd rfl))
theorem Fd.gr{W W':Q8}{x:Lm}(h:Fd W x)(e:W'.ID=W.ID):Fd W' x:=
 ⟨h.st,by rw[e]; exact h.g,h.n,h.m,h.m0,h.s,h.u,h.l1,h.l2,λhs=>by unfold Qa; rw[e]; exact h.f hs⟩
theorem z3e{W:Q8}{c:Int}(hW:QD W=true)(hb:Xn W c false 0=0):JF (z40 W c):=by
 have wp:=Qj.1 hW;obtain⟨c0,c1,_,sf⟩:=z2o hW hb;have p:=XL wp;refine zbm sf ⟨⟨sf.w.a,λt t0 t1=>(p.t t t0 t1).imp id λh=>⟨h.1,h.2.gr rfl⟩,λt t0 t1 n=>?_,λk d hk d0 d1=>?_⟩,λd d0 d1=>?_⟩
 ·have:=p.l t t0 t1 n;show _/\_<(((W.IE.set c.toNat _).length:Nat):Int);rw[E']; exact this
 ·have d1:d<(((W.IE.set c.toNat (G6 (gi W.IE c) true)).length:Nat):Int):=d1;rw[E'] at d1;exact(p.s k d hk d0 d1).Bg5 rfl λ_=>rfl
 ·have d1:d<(((W.IE.set c.toNat (G6 (gi W.IE c) true)).length:Nat):Int):=d1;rw[E'] at d1;have h:=p.c d d0 d1;have e:gi (S9 W c (G6 (gi W.IE c) true)).IE d=if c=d then G6 (gi W.IE c) true else gi W.IE d:=QM _ _ c0 c1 d0
  have eb:(gi (S9 W c (G6 (gi W.IE c) true)).IE d).cur=(gi W.IE d).cur/\(gi (S9 W c (G6 (gi W.IE c) true)).IE d).WQ=(gi W.IE d).WQ/\(gi (S9 W c (G6 (gi W.IE c) true)).IE d).busy=(gi W.IE d).busy/\(gi (S9 W c (G6 (gi W.IE c) true)).IE d).idle=(gi W.IE d).idle/\((gi W.IE d).up=true->(gi (S9 W c (G6 (gi W.IE c) true)).IE d).up=true):=by
   rw[e];split
   ·rename_i he; subst he; exact⟨rfl,rfl,rfl,rfl,λ_=>rfl⟩
   ·exact⟨rfl,rfl,rfl,rfl,id⟩
  obtain⟨e1,e2,e3,e4,e5⟩:=eb;refine⟨by rw[e3]; exact h.b,by rw[e4]; exact h.i,by rw[e1]; exact h.c1,by rw[e1]; exact h.c2,by rw[e1,e2]; exact h.no,λh0=>?_,?_⟩
  ·rw[e1] at h0;have:=h.yes h0;exact⟨e5 this.1,by rw[e2]; exact this.2⟩
  ·rw[e1,e2]; exact h.q
theorem z0y{W:Q8}{c:Int}(hW:QD W=true)(hb:Xn W c true (Hb W)=0):JF (zyc W c):=by
 have wp:=Qj.1 hW;obtain⟨c0,c1,_,sf⟩:=zyd hW hb;have p:=XL wp;have hl:(S9 W c (G6 (gi W.IE c) false)).IE.length=W.IE.length:=E';have sfE:=sf.Rz c0 (by rw[hl]; exact c1)
 have hcs:Rz (S9 W c (G6 (gi W.IE c) false)) c=S9 W c (XT (G6 (gi W.IE c) false)):=by
  have e:gi (S9 W c (G6 (gi W.IE c) false)).IE c=G6 (gi W.IE c) false:=(QM _ _ c0 c1 c0).trans (C' rfl);unfold Rz;rw[e];simp[S9,List.set_set]
 show JF (Qg (DB (Rz (S9 W c (G6 (gi W.IE c) false)) c)));rw[hcs] at sfE ⊢;refine zbm sfE ⟨⟨sfE.w.a,λt t0 t1=>(p.t t t0 t1).imp id λh=>⟨h.1,h.2.gr rfl⟩,λt t0 t1 n=>?_,λk d hk d0 d1=>?_⟩,λd d0 d1=>?_⟩
 ·have:=p.l t t0 t1 n;show _/\_<(((W.IE.set c.toNat _).length:Nat):Int);rw[E']; exact this
 ·have d1:d<(((W.IE.set c.toNat (XT (G6 (gi W.IE c) false))).length:Nat):Int):=d1;rw[E'] at d1;exact(p.s k d hk d0 d1).Bg5 rfl λ_=>rfl
 ·have d1:d<(((W.IE.set c.toNat (XT (G6 (gi W.IE c) false))).length:Nat):Int):=d1;rw[E'] at d1;have h:=p.c d d0 d1;have e:gi (S9 W c (XT (G6 (gi W.IE c) false))).IE d=if c=d then XT (G6 (gi W.IE c) false) else gi W.IE d:=QM _ _ c0 c1 d0
  by_cases he:c=d
  ·subst he;have e:=e.trans (C' rfl);refine⟨by rw[e]; exact h.b,by rw[e]; exact h.i,by rw[e]; show (-1:Int)<=-1; decide,by rw[e]; show (-1:Int)<12; decide,λ_=>by rw[e]; rfl,λh0=>?_,λh0=>?_⟩
   ·rw[e] at h0;have h0:(0:Int)<=-1:=h0;omega
   ·rw[e] at h0;have h0:(0:Int)<=-1:=h0;omega
  ·have e:=e.trans (B' he);exact⟨by rw[e]; exact h.b,by rw[e]; exact h.i,by rw[e]; exact h.c1,by rw[e]; exact h.c2,by rw[e]; exact h.no,by rw[e]; exact h.yes,by rw[e]; exact h.q⟩
def Hw(W:Q8)(g c x:Int):LR:={ Qa W g c with v:=if (Qa W g c).on=true then (Qa W (gi W.ID g).parent c).floor+ZT ((Qa W g c).v-(Qa W (gi W.ID g).parent c).floor) x else (Qa W g c).v,w:=x }
def Hu(W:Q8)(g c:Int):Bool:=decide ((gi W.IE c).cur>=0)&&JP 3 W.ID g (Q7 W (gi W.IE c).cur).group
def Xb(W:Q8)(g c x:Int):Q8:=Rv W g c (Hw W g c x)
def O3(W:Q8)(g c x:Int):Q8:=if (Qa W g c).w=x then W else if Hu (Xb W g c x) g c=true then Rz (Xb W g c x) c else Xb W g c x
def D0(W:Q8):Prop:=∀c:Int,0<=c->c<(W.IE.length:Int)->(gi W.IE c).cur>=0->Q6 W.ID (Q7 W (gi W.IE c).cur).group=true
theorem zr5{W:Q8}(wp:YI W):D0 W:=λc c0 c1 h=>by
 have hc:=wp.c c c0 c1;have hy:=hc.yes h;have hl:=hy.2.2.2.2.1;have c2:=hc.c2;have ht:=wp.a.t;unfold Z3 at hl;simp only[A',Is] at hl;rcases wp.t (gi W.IE c).cur h Qo with h1 | h1
 ·rw[h1.1] at hl; exact Ir hl.1 Qd
 ·exact h1.2.g
theorem D0.Rv{W:Q8}(h:D0 W){g c:Int}{s:LR}(u0:0<=g)(u1:g<(W.ID.length:Int)):D0 (Rv W g c s):=λd d0 d1 hc=>by
 rw[(YL u0 u1).cQ];exact h d d0 d1 hc
theorem D0.Rz{W:Q8}(h:D0 W){c:Int}(c0:0<=c)(c1:c<(W.IE.length:Int)):D0 (Rz W c):=λd d0 d1 hc=>by
 have d1:d<(((W.IE.set c.toNat (XT (gi W.IE c))).length:Nat):Int):=d1;rw[E'] at d1;have hg:gi (YtnclplgaicdapaaGreatDoor.Rz W c).IE d=if c=d then XT (gi W.IE c) else gi W.IE d:=QM _ _ c0 c1 d0;rw[hg] at hc ⊢
 split at hc
 ·exact Ir hc (by show ¬(-1:Int)>=0; decide)
 ·rename_i hn;rw[B' hn];exact h d d0 d1 hc
theorem z14{F K:Int}{W:Q8}(h:SF F K W)(hk:F+Qi<=K){g c x:Int}(hu:Q6 W.ID g=true)(hz:g≠0)(c0:0<=c)(c1:c<(W.IE.length:Int))(x1:1<=x)(x2:x<=20):SF F K (Xb W g c x):=by
 have hp:=h.w.a.up hu hz;have s1:=h.w.s g c hu c0 c1;have s2:=h.w.s _ c hp c0 c1;have f1:=h.f g c hu c0 c1;have f2:=h.f _ c hp c0 c1;have lc:=ZH ((Qa W g c).v-(Qa W (gi W.ID g).parent c).floor) x;have lm:=Y0 x;refine h.Rv hu c0 c1 s1.1 f1 (by show (Qa W g c).floor<=K; omega) ?_ ?_ x1 x2
 ·simp only[Hw]; split <;> omega
 ·simp only[Hw]; simp only[Qi] at hk; split <;> omega
theorem ztq{F K:Int}{W:Q8}(h:SF F K W)(hk:F+Qi<=K)(hc:D0 W){g c x:Int}(hu:Q6 W.ID g=true)(hz:g≠0)(c0:0<=c)(c1:c<(W.IE.length:Int))(x1:1<=x)(x2:x<=20):SF F K (O3 W g c x)/\Fr W (O3 W g c x)/\D0 (O3 W g c x):=by
 obtain⟨u0,u1,_⟩:=Q4.1 hu;have hv:=z14 h hk hu hz c0 c1 x1 x2;have hf:Fr W (Xb W g c x):=(U6 u0 u1).fr;have hc2:D0 (Xb W g c x):=hc.Rv u0 u1;unfold O3;split
 ·exact⟨h,Fr.refl _,hc⟩
 ·split
  ·exact⟨hv.Rz c0 c1,hf.trans (zdl _ _),hc2.Rz c0 c1⟩
  ·exact⟨hv,hf,hc2⟩
def Hv(W:Q8)(g x:Int):Nat->Q8
 | 0=>W
 | c+1=>O3 (Hv W g x c) g (c:Int) x
theorem zm7{F K:Int}{W:Q8}(h:SF F K W)(hk:F+Qi<=K)(hc:D0 W){g x:Int}(hu:Q6 W.ID g=true)(hz:g≠0)(x1:1<=x)(x2:x<=20):∀c:Nat,c<=W.IE.length->SF F K (Hv W g x c)/\Fr W (Hv W g x c)/\D0 (Hv W g x c)
 | 0,_=>⟨h,Fr.refl _,hc⟩
 | c+1,hn=>by
  obtain⟨a,b,d⟩:=zm7 h hk hc hu hz x1 x2 c Qo;obtain⟨a2,b2,d2⟩:=ztq a hk d (g:=g) (c:=(c:Int)) (x:=x) (by rw[b.g.cQ]; exact hu) hz Qo (by rw[b.c]; omega) x1 x2;exact⟨a2,b.trans b2,d2⟩
def Lk(W:Q8)(g x:Int):ZX:={ gi W.ID g with weight:=x }
noncomputable def zph(W:Q8)(g x:Int):Int:=Ku W g (YP x 1 20)
def zzm(W:Q8)(g x:Int):Q8:=Qg (Hv (Rn W g (Lk W g x)) g x W.IE.length)
theorem zzn{W:Q8}{g x:Int}(hW:QD W=true)(hb:zph W g x=0):YP x 1 20=true/\g≠0/\Q6 W.ID g=true/\QT W=true/\SF Qn (Qn+Qi) W/\SF Qn (Qn+Qi) (Rn W g (Lk W g x))/\D0 (Rn W g (Lk W g x))/\Z1 W.ID (Rn W g (Lk W g x)).ID:=by
 obtain⟨h1,h2,h3,h4⟩:=zlu hb;have wp:=Qj.1 hW;have sw:=MR wp (Qj.1 h4);obtain⟨u0,u1,hg⟩:=wp.a.u h3;have hx:=Qv.1 h1;have hl:=wp.a.gl;have s1:=sw.Rn (x:=Lk W g x) h3 rfl rfl rfl rfl ⟨hx.1,hx.2,hg.m,hg.m0,hg.s,hg.len,λh=>Ir h h2,hg.none,hg.IP⟩;have hT:Z1 W.ID (Rn W g (Lk W g x)).ID:=U9 u0 Qo rfl rfl rfl;refine⟨h1,h2,h3,h4,sw.sf.mono (I2 _) (by simp only[Qi]; decide),s1.sf.mono (I2 _) (by simp only[Qi]; decide),λd d0 d1 hc=>?_,hT⟩;rw[hT.cQ];exact zr5 wp d d0 d1 hc
theorem zzk{gs:List ZX}(ht:Y8 gs){g h:Int}(u1:Q6 gs g=true)(u2:Q6 gs h=true):PE gs g h=JP 3 gs g h:=by
 unfold PE;rw[u1,u2,show Ki gs=true from @Ih _ (Classical.propDecidable _) ht];rfl
section
variable {base:Nat}{W W':Q8}{m:MW}{w:Wo}{bar:Int}
theorem KZ{F K:Int}(h:Zo 8 base w W m)(dI:SF F K W)(hk:F+Qi<=K)(hK:K<=1000000000000000000)(hcu:D0 W){g c x:Int}(hu:Q6 W.ID g=true)(hz:g≠0)(c0:0<=c)(c1:c<(W.IE.length:Int)) :
  Cz Uj #[.agg (Qb W m).toArray,I g,I c,I x] w λe w'=>e=.returned (.agg (Qb W m).toArray)/\Mv 8 base [] w m w' (O3 W g c x) m:=by
 refine(NF _ _ _ _ _ _ _ _ _ _ g c x (R:=λv w'=>v=.agg (Qb W m).toArray/\Mv 8 base [] w m w' (O3 W g c x) m) ?_).mono λe w' ⟨v,he,hv,h3⟩=>⟨by rw[he,hv],h3⟩
 intro y hy y1 cP;obtain⟨u0,u1,_⟩:=Q4.1 hu;have bZ:=dI.w.a.gl;have eM:=dI.w.a.t;have hsl:=dI.w.a.sl hu;have hp:=dI.w.a.up hu hz;obtain⟨p0,p1,_⟩:=Q4.1 hp;have hpl:=dI.w.a.sl hp;have s1:=dI.w.s g c hu c0 c1;have s2:=dI.w.s _ c hp c0 c1;have lc:=ZH ((Qa W g c).v-(Qa W (gi W.ID g).parent c).floor) x;have lm:=Y0 x;have hM:=Mv.two h hy cP;have hr:=(Mv.start h).rd;have Wg:=hr.g.ix (i:=g) u0 u1;have AL3:=(hr.g.IF g u0 u1).ix X0 c0 Qo;have hcx:=hr.c.ix Y6 c0 c1;have uK:=z5c h Qs (i:=g) (bs:=[]) u0 Qo c0 Qo (j:=0) (k:=5) Qd;have hcr:=dI.w.cu c c0 c1;have eD:decide ((gi W.IE c).cur>=0)=true->(gi W.IE c).cur<(W.tasks.length:Int):=λ_=>by omega
 have hT:Z1 W.ID (Xb W g c x).ID:=YL u0 u1
 have hE:(decide ((gi W.IE c).cur>=0)&&PE (Xb W g c x).ID g (gi W.tasks (gi W.IE c).cur).group)=Hu (Xb W g c x) g c:=by
  unfold Hu;show _=(decide ((gi W.IE c).cur>=0)&&JP 3 (Xb W g c x).ID g (Q7 W (gi W.IE c).cur).group)
  by_cases hc:(gi W.IE c).cur>=0
  ·rw[zzk (hT.tree dI.w.a.tree) (by rw[hT.cQ]; exact hu) (by rw[hT.cQ]; exact hcu c c0 c1 hc)]; rfl
  ·rw[decide_eq_false hc]; rfl
 have hlen:(Xb W g c x).ID.length=W.ID.length:=hT.len;have sX:Fr W (Xb W g c x):=(U6 u0 u1).fr;have eW:Qb (Xb W g c x) m=Qb W m:=J0 sX;have eE:Qb (Rz (Xb W g c x) c) m=Qb W m:=J0 (sX.trans (zdl _ _));refine⟨Wg,_,_,_,hr.g.R0 u0 u1,AL3,_,_,_,_,_,(hr.g.IF g u0 u1) c c0 Qo,λb2 bR=>⟨λg1 wr hx=>⟨rfl,?_⟩,λg1=>⟨λg2=>?_,λg2=>?_⟩⟩⟩
 ·have g1:(Qa W g c).w=x:=Iz g1;unfold O3;rw[C' g1];exact(Mv.start h).R4 hx
 ·have tA:Hw W g c x=⟨(Qa W g c).floor,(Qa W g c).on,(Qa W (gi W.ID g).parent c).floor+ZT ((Qa W g c).v-(Qa W (gi W.ID g).parent c).floor) x,x,(Qa W g c).sum⟩:=by
   unfold Hw;rw[C' (show (Qa W g c).on=true from g2)]
  have SN:=zef dI h hk hu rfl c0 c1 (Hw W g c x);rw[tA] at SN;have Wz:=((hM.add bR).Sn SN (zmx Qo));have hV:Rv W g c ⟨(Qa W g c).floor,(Qa W g c).on,(Qa W (gi W.ID g).parent c).floor+ZT ((Qa W g c).v-(Qa W (gi W.ID g).parent c).floor) x,x,(Qa W g c).sum⟩=Xb W g c x:=by unfold Xb; rw[tA]
  rw[hV] at Wz;have tZ:=Wz.rd;have B73:=Wz.close;have aZ:=B73.rd;refine⟨Wg,_,hr.g.parent u0 u1,hr.g.ix p0 p1,_,_,_,hr.g.R0 p0 p1,(hr.g.IF _ p0 p1).ix X0 c0 Qo,_,zna.f (hr.g.IF _ p0 p1) c0 Qo (j:=0) rfl,⟨by show _<=(Qa W g c).v-(Qa W (gi W.ID g).parent c).floor; omega,by show (Qa W g c).v-(Qa W (gi W.ID g).parent c).floor<=_; omega⟩,_,KB,⟨by show _<=(Qa W (gi W.ID g).parent c).floor+ZT ((Qa W g c).v-(Qa W (gi W.ID g).parent c).floor) x; omega,by show (Qa W (gi W.ID g).parent c).floor+ZT ((Qa W g c).v-(Qa W (gi W.ID g).parent c).floor) x<=_; omega⟩,Wg,_,_,_,hr.g.R0 u0 u1,AL3,uK,hcx,(gi W.IE c).cur,?_⟩;refine⟨z4i.f aZ.c c0 c1 (j:=1) rfl,λgc=>aZ.t.ix QF (Ot gc) (eD gc),_,λgc=>zrw.f aZ.t (Ot gc) (eD gc) (j:=1) rfl,_,λgc=>by rw[<-hlen]; exact OG aZ.g (by have:=ZV; omega),λgc I' R6 fQ=>?_,λgc Rr R6=>?_⟩
  ·have he:Hu (Xb W g c x) g c=true:=by rw[<-hE]; exact gc
   have iV:=Wz.step (R6.of_nil);have Rq:=ZG iV.own c0 c1;rw[eW,eE] at Rq;refine I3 Rq ?_;rintro e wv ⟨gP,SI⟩;refine⟨_,_,_,_,_,_,_,_,_,_,gP,iV.kept SI fQ,λM' SK=>⟨rfl,?_⟩⟩;unfold O3;rw[B' (show ¬(Qa W g c).w=x from ne_of_beq_false g1),C' he];exact((iV.call SI fQ).step SK).close
  ·have he:Hu (Xb W g c x) g c=false:=by rw[<-hE]; exact gc
   refine⟨rfl,?_⟩;unfold O3;rw[B' (show ¬(Qa W g c).w=x from ne_of_beq_false g1),B' (by rw[he]; decide)];exact(Wz.step R6.of_nil).close
 ·have tA:Hw W g c x=⟨(Qa W g c).floor,(Qa W g c).on,(Qa W g c).v,x,(Qa W g c).sum⟩:=by
   unfold Hw;rw[B' (by rw[show (Qa W g c).on=false from g2]; decide)]
  have SN:=zef dI h hk hu rfl c0 c1 (Hw W g c x);rw[tA] at SN;have Wz:=((hM.add bR).Sn SN (zmx Qo));have hV:Rv W g c ⟨(Qa W g c).floor,(Qa W g c).on,(Qa W g c).v,x,(Qa W g c).sum⟩=Xb W g c x:=by unfold Xb; rw[tA]
  rw[hV] at Wz;have tZ:=Wz.rd;have B73:=Wz.close;have aZ:=B73.rd;refine⟨Wg,_,_,_,hr.g.R0 u0 u1,AL3,uK,hcx,(gi W.IE c).cur,?_⟩;refine⟨z4i.f aZ.c c0 c1 (j:=1) rfl,λgc=>aZ.t.ix QF (Ot gc) (eD gc),_,λgc=>zrw.f aZ.t (Ot gc) (eD gc) (j:=1) rfl,_,λgc=>by rw[<-hlen]; exact OG aZ.g (by have:=ZV; omega),λgc I' R6 fQ=>?_,λgc Rr R6=>?_⟩
  ·have he:Hu (Xb W g c x) g c=true:=by rw[<-hE]; exact gc
   have iV:=Wz.step (R6.of_nil);have Rq:=ZG iV.own c0 c1;rw[eW,eE] at Rq;refine I3 Rq ?_;rintro e wv ⟨gP,SI⟩;refine⟨_,_,_,_,_,_,_,_,_,_,gP,iV.kept SI fQ,λM' SK=>⟨rfl,?_⟩⟩;unfold O3;rw[B' (show ¬(Qa W g c).w=x from ne_of_beq_false g1),C' he];exact((iV.call SI fQ).step SK).close
  ·have he:Hu (Xb W g c x) g c=false:=by rw[<-hE]; exact gc
   refine⟨rfl,?_⟩;unfold O3;rw[B' (show ¬(Qa W g c).w=x from ne_of_beq_false g1),B' (by rw[he]; decide)];exact(Wz.step R6.of_nil).close
theorem Ba{g x:Int}(h:XE [] w W m)(hl:Ua W) :
  Cz T1 #[.agg (Qb W m).toArray,I g,I x] w λe w'=>∃v,e=.returned v/\QR (YY W (zph W g x) (zzm W g x)) w v w':=by
 refine FSx _ _ _ _ _ _ _ _ _ _ g x (R:=λv w'=>QR (YY W (zph W g x) (zzm W g x)) w v w') ?_;intro y hy y1 cP;refine⟨_,JY,λwr R5 SR=>?_⟩;refine I3 (VM (g:=g) (ok:=YP x 1 20) (h.ext R5) hl) ?_;rintro e wv (⟨hW,he,SI⟩ | ⟨hW,m',he,hM,SI⟩)
 ·exact⟨_,_,_,_,_,_,_,_,_,_,_,he,Qf SI SR,λ_ I' R6=>QR.bad hW ((R5.trans SI).fresh R6 λz hm=>.inl (Xa hy cP z hm)),λg=>by simp at g⟩
 have hK:=Wk.begin hy cP R5 SR hM SI;refine⟨_,_,_,_,_,_,_,_,_,_,_,he,Qf SI SR,λg1 I' R6=>QR.no hW (by simpa[zph] using g1) (hK.step R6) rfl,λg1=>?_⟩;have hb:zph W g x=0:=by simpa[zph] using g1
 have hr:=hK.rd;obtain⟨Cs6,hz,hu,AA8,_,sf,hcu,hT⟩:=zzn hW hb;have hxr:=Qv.1 Cs6;obtain⟨u0,u1,_⟩:=Q4.1 hu;have bZ:W.ID.length=8:=by have:=sf.w.a.gl; rwa[hT.len] at this
 have Wg:=hr.g.ix (i:=g) u0 u1;have SN:Wk 8 [y,y1] w (R9 wv m'.gO (Int.toNat g*14+3) [I x]) (Rn W g (Lk W g x)) m':=hK.R9 (hK.own.A48 u0 Qo (g:=Lk W g x) rfl rfl rfl (j:=3) (vs:=[I x]) rfl Qs) za3;have uK:=ztr hK.own hK.nb (i:=g) u0 Qo (j:=3) (k:=1) Qd;have e0:Qb (Rn W g (Lk W g x)) m'=Qb W m':=by simp[Qb,Rn]
 have huV:Q6 (Rn W g (Lk W g x)).ID g=true:=by rw[hT.cQ]; exact hu
 have rV:(Rn W g (Lk W g x)).IE.length=W.IE.length:=rfl;have hE:zzm W g x=Qg (Hv (Rn W g (Lk W g x)) g x W.IE.length):=rfl;rw[hE];have hc4:=sf.w.a.c2;generalize Rn W g (Lk W g x)=V at SN sf hcu hT e0 huV rV hc4;refine⟨Wg,uK,λvs w1=>∃(k:Nat),vs=I (k:Int)::Qb W m'/\k<=W.IE.length/\Wk 8 [y,y1] w w1 (Hv V g x k) m',Zt W.IE.length 0,λw1 mZ _=>⟨0,rfl,Ic _,SN.step mZ⟩,?_⟩;rintro c1 l S5 Sb Sh S6 Se Sg S7 S8 Sa RF fQ ⟨k,aR,hk,fK⟩;obtain⟨hS,hf,hc2⟩:=zm7 sf (I2 _) hcu huV hz hxr.1 hxr.2 k Qo;have W5:Hv V g x (k+1)=O3 (Hv V g x k) g (k:Int) x:=rfl;have rL:k=W.IE.length->Hv V g x W.IE.length=Hv V g x k:=λe=>by rw[e]
 have eU:Qb (Hv V g x k) m'=Qb W m':=(J0 hf).trans e0;have hcU:=hf.c;have huU:Q6 (Hv V g x k).ID g=true:=by rw[hf.g.cQ]; exact huV
 simp only[Qb,I4,I5,Iv,true_and,and_true] at aR;obtain⟨rfl,rfl,⟨rfl,rfl,rfl⟩,⟨rfl,rfl,rfl⟩,rfl,rfl,rfl⟩:=aR;generalize Hv V g x k=U at fK hS hf hc2 W5 rL eU hcU huU;refine⟨λIN Rr R6 eZ=>?_,λRx RN Sm kK=>?_⟩
 ·have IN:=Ot IN;have qD:=fK.step R6;have Rq:=KZ qD.own hS (I2 _) (by simp only[Qi]; decide) hc2 (g:=g) (c:=(k:Int)) (x:=x) huU hz Qo Qo;rw[eU] at Rq;refine I3 Rq ?_;rintro e RU ⟨jR,gH⟩;refine⟨_,_,_,_,_,_,_,_,_,_,jR,qD.kept gH eZ,⟨Qo,Qo⟩,λRu SK _=>⟨⟨k+1,rfl,Qo,?_⟩,?_⟩⟩
  ·rw[W5];exact(qD.Sn gH eZ).step SK
  ·simp only[Zt,Xy,ZE,Ie]; omega
 ·have Rx:=Ou Rx;rw[rL Qo];have dR:=fK.step Sm;have Rq:=QA dR.own hS.w (by simp only[Qi]; decide) (by simp only[Qi]; decide) dR.base;rw[eU] at Rq;refine I3 Rq ?_;rintro e2 RF ⟨m2,aR,SI⟩;exact⟨_,_,_,_,_,_,_,_,_,_,aR,dR.kept SI kK,λRu Sm=>QR.ok hW hb ((dR.Sn SI kK).step Sm)⟩
section
variable {pb:Nat}
theorem zhu{F K:Int}(h:PW base pb w W m)(dI:SF F K W)(hk:F+Qi<=K)(hK:K<=1000000000000000000)(hcu:D0 W){g c x:Int}(hu:Q6 W.ID g=true)(hz:g≠0)(c0:0<=c)(c1:c<(W.IE.length:Int)) :
  Cz Vk #[.agg #[.pointer (pA pb),I c],I g,I x] w λe w'=>e=.returned (.tuple #[])/\Mp base pb [] w m w' (O3 W g c x) m:=by
 refine(Er (pA pb) c g x (R:=λv w'=>v=.tuple #[]/\Mp base pb [] w m w' (O3 W g c x) m) ?_).mono λe w' ⟨v,he,hv,h3⟩=>⟨by rw[he,hv],h3⟩
 intro b hb;obtain⟨u0,u1,_⟩:=Q4.1 hu;have bZ:=dI.w.a.gl;have eM:=dI.w.a.t;have hsl:=dI.w.a.sl hu;have hp:=dI.w.a.up hu hz;obtain⟨p0,p1,_⟩:=Q4.1 hp;have hpl:=dI.w.a.sl hp;have s1:=dI.w.s g c hu c0 c1;have s2:=dI.w.s _ c hp c0 c1;have lc:=ZH ((Qa W g c).v-(Qa W (gi W.ID g).parent c).floor) x;have lm:=Y0 x;have hM:=Mp.start h;have hpt:=hM.wpt;have hcr:=dI.w.cu c c0 c1;have AK0:=(hpt.sh u0 u1 c0 (c:=c) Qo).1;have Ss:=λ{j:Nat} {v:Va} hj=>(hpt.sh u0 u1 c0 (c:=c) Qo).2 (j:=j) (v:=v) hj
 have sX:Fr W (Rv W g c { Qa W g c with w:=x }):=(U6 u0 u1).fr;have BM4:=hM.own.Ab4 (k:=g) (c:=c) u0 Qo c0 Qo (j:=3) (vs:=[I x]) (s:={ Qa W g c with w:=x }) rfl Qs;have hM1:=hM.Sn BM4 (AU u0 Qo) (J0 sX);have hT1:Z1 W.ID (Rv W g c { Qa W g c with w:=x }).ID:=YL u0 u1;refine⟨_,Zj hpt u0 u1 c0 Qo,AK0,_,Ss (j:=3) rfl,λg1 wr hx=>⟨rfl,?_⟩,λg1=>⟨AK0,hM.own.BY3 Qs u0 Qo c0 Qo Qd,AK0,?_⟩⟩
 ·have g1:(Qa W g c).w=x:=Iz g1;unfold O3;rw[C' g1];exact hM.nil hx
 have hp1:=hM1.wpt;have CL6:=(hM.add hb).Sn BM4 (AU u0 Qo) (J0 sX);have mX:(Rv W g c { Qa W g c with w:=x }).ID.length=W.ID.length:=hT1.len;have e1:Qa (Rv W g c { Qa W g c with w:=x }) g c={ Qa W g c with w:=x }:=by rw[Jw u0 u1 c0 Qo u0 c0,C' ⟨rfl,rfl⟩]
 have bX:(gi (Rv W g c { Qa W g c with w:=x }).ID g).IF.length=(gi W.ID g).IF.length:=HR u0 u1 u0;have sW:=λ{j:Nat} {v:Va} hj=>(hp1.sh u0 Qo c0 (c:=c) Qo).2 (j:=j) (v:=v) hj
 rw[e1] at sW;refine⟨_,sW (j:=1) rfl,λg2=>?_,λg2=>?_⟩
 ·have tA:Hw W g c x={ Qa W g c with v:=(Qa W (gi W.ID g).parent c).floor+ZT ((Qa W g c).v-(Qa W (gi W.ID g).parent c).floor) x,w:=x }:=by
   unfold Hw;rw[C' (show (Qa W g c).on=true from g2)]
  have ep:(gi (Rv W g c { Qa W g c with w:=x }).ID g).parent=(gi W.ID g).parent:=hT1.p g;have hsp:(gi (Rv W g c { Qa W g c with w:=x }).ID (gi W.ID g).parent).IF.length=(gi W.ID (gi W.ID g).parent).IF.length:=HR u0 u1 p0
  have e2:(Qa (Rv W g c { Qa W g c with w:=x }) (gi W.ID g).parent c).floor=(Qa W (gi W.ID g).parent c).floor:=by
   rw[Jw u0 u1 c0 Qo p0 c0];split
   ·rename_i h;rw[<-h.1]
   ·rfl
  have mQ:=hp1.rd.g.parent (i:=g) u0 Qo;rw[ep] at mQ;have CT6:=hp1.sh (g:=(gi W.ID g).parent) (c:=c) p0 Qo c0 Qo;have oG:=CT6.2 (j:=0) rfl;rw[e2] at oG;have BM5:=hM1.own.Ab4 (k:=g) (c:=c) u0 Qo c0 Qo (j:=2) (vs:=[I ((Qa W (gi W.ID g).parent c).floor+ZT ((Qa W g c).v-(Qa W (gi W.ID g).parent c).floor) x)]) (s:=Hw W g c x) (by rw[e1,tA]; rfl) Qs;have CO6:Fr (Rv W g c { Qa W g c with w:=x }) (Rv (Rv W g c { Qa W g c with w:=x }) g c (Hw W g c x)):=(U6 u0 Qo).fr;have Wz:=hM1.Sn BM5 (AU u0 Qo) (J0 CO6);have BW1:=CL6.Sn BM5 (AU u0 Qo) (J0 CO6);rw[zke u0 u1] at Wz BW1;refine⟨hpt.some,_,_,_,hp1.ID,hp1.rd.g.ix u0 Qo,_,mQ,_,Zj hp1 p0 Qo c0 Qo,CT6.1,_,oG,AK0,_,sW (j:=2) rfl,⟨by show _<=(Qa W g c).v-(Qa W (gi W.ID g).parent c).floor; omega,by show (Qa W g c).v-(Qa W (gi W.ID g).parent c).floor<=_; omega⟩,_,Kw,⟨by show _<=(Qa W (gi W.ID g).parent c).floor+ZT ((Qa W g c).v-(Qa W (gi W.ID g).parent c).floor) x; omega,by show (Qa W (gi W.ID g).parent c).floor+ZT ((Qa W g c).v-(Qa W (gi W.ID g).parent c).floor) x<=_; omega⟩,AK0,hM1.own.BY3 Qs u0 Qo c0 Qo Qd,?_⟩;have Wz:Mp base pb [] w m _ (Xb W g c x) m:=Wz;have BW1:Mp base pb ([]++[b]) w m _ (Xb W g c x) m:=BW1;have cN:=Wz.wpt;have hT2:Z1 W.ID (Xb W g c x).ID:=YL u0 u1;have hc2:=cN.rd.c c c0 c1
  have hEq:((gi W.IE c).cur != -1&&JP 3 (Xb W g c x).ID g (gi W.tasks (gi W.IE c).cur).group)=Hu (Xb W g c x) g c:=by
   unfold Hu;show _=(decide ((gi W.IE c).cur>=0)&&JP 3 (Xb W g c x).ID g (Q7 W (gi W.IE c).cur).group);rw[show ((gi W.IE c).cur != -1)=decide ((gi W.IE c).cur>=0) by rw[Bool.eq_iff_iff]; simp; omega];rfl
  have c0':((gi W.IE c).cur != -1)=true->0<=(gi W.IE c).cur/\(gi W.IE c).cur<(W.tasks.length:Int):=λgc=>by
   have:(gi W.IE c).cur≠-1:=by simpa using gc
   omega
  refine⟨_,OF cN c0 c1,Lf hc2,_,KN hc2 (j:=1) rfl,λ_=>cN.some,_,_,_,λ_=>cN.ID,λ_=>cN.some,_,_,_,λ_=>cN.tasks,λgc=>cN.rd.t.ix QF (c0' gc).1 (c0' gc).2,_,λgc=>zrw.f cN.rd.t (c0' gc).1 (c0' gc).2 (j:=1) rfl,_,λgc=>Kz cN.rd.g (hT2.tree dI.w.a.tree) (by rw[hT2.cQ]; exact hcu c c0 c1 (c0' gc).1),λgc I' RZ bX=>?_,λgc Rr R6=>⟨rfl,?_⟩⟩
  ·have he:Hu (Xb W g c x) g c=true:=by rw[<-hEq]; exact gc
   have iV:=BW1.R4 RZ;refine I3 (V1 iV.pw c0 c1) ?_;rintro e wv ⟨gP,hy⟩;refine⟨gP,iV.kept hy bX,λM' R5=>⟨rfl,?_⟩⟩;unfold O3;rw[B' (show ¬(Qa W g c).w=x from ne_of_beq_false g1),C' he];exact((iV.call hy bX).step R5).close
  ·have he:Hu (Xb W g c x) g c=false:=by rw[<-hEq]; exact gc
   unfold O3;rw[B' (show ¬(Qa W g c).w=x from ne_of_beq_false g1),B' (by rw[he]; decide)];exact Wz.nil R6
 ·have tA:Hw W g c x={ Qa W g c with w:=x }:=by
   unfold Hw;rw[B' (by rw[show (Qa W g c).on=false from g2]; decide)]
  have Wz:Mp base pb [] w m (R9 w (zvy m g c) (0+3) [I x]) (Xb W g c x) m:=by unfold Xb; rw[tA]; exact hM1
  have BW1:Mp base pb ([]++[b]) w m (R9 w (zvy m g c) (0+3) [I x]) (Xb W g c x) m:=by unfold Xb; rw[tA]; exact CL6
  have cN:=Wz.wpt;have hT2:Z1 W.ID (Xb W g c x).ID:=YL u0 u1;have hc2:=cN.rd.c c c0 c1
  have hEq:((gi W.IE c).cur != -1&&JP 3 (Xb W g c x).ID g (gi W.tasks (gi W.IE c).cur).group)=Hu (Xb W g c x) g c:=by
   unfold Hu;show _=(decide ((gi W.IE c).cur>=0)&&JP 3 (Xb W g c x).ID g (Q7 W (gi W.IE c).cur).group);rw[show ((gi W.IE c).cur != -1)=decide ((gi W.IE c).cur>=0) by rw[Bool.eq_iff_iff]; simp; omega];rfl
  have c0':((gi W.IE c).cur != -1)=true->0<=(gi W.IE c).cur/\(gi W.IE c).cur<(W.tasks.length:Int):=λgc=>by
   have:(gi W.IE c).cur≠-1:=by simpa using gc
   omega
  refine⟨_,OF cN c0 c1,Lf hc2,_,KN hc2 (j:=1) rfl,λ_=>cN.some,_,_,_,λ_=>cN.ID,λ_=>cN.some,_,_,_,λ_=>cN.tasks,λgc=>cN.rd.t.ix QF (c0' gc).1 (c0' gc).2,_,λgc=>zrw.f cN.rd.t (c0' gc).1 (c0' gc).2 (j:=1) rfl,_,λgc=>Kz cN.rd.g (hT2.tree dI.w.a.tree) (by rw[hT2.cQ]; exact hcu c c0 c1 (c0' gc).1),λgc I' RZ bX=>?_,λgc Rr R6=>⟨rfl,?_⟩⟩
  ·have he:Hu (Xb W g c x) g c=true:=by rw[<-hEq]; exact gc
   have iV:=BW1.R4 RZ;refine I3 (V1 iV.pw c0 c1) ?_;rintro e wv ⟨gP,hy⟩;refine⟨gP,iV.kept hy bX,λM' R5=>⟨rfl,?_⟩⟩;unfold O3;rw[B' (show ¬(Qa W g c).w=x from ne_of_beq_false g1),C' he];exact((iV.call hy bX).step R5).close
  ·have he:Hu (Xb W g c x) g c=false:=by rw[<-hEq]; exact gc
   unfold O3;rw[B' (show ¬(Qa W g c).w=x from ne_of_beq_false g1),B' (by rw[he]; decide)];exact Wz.nil R6
end
end
def zw7(W:Q8)(t b c:Int):Bool:=(Uo W c==0)||decide (Uo W c+Qe (Q7 W t).nice<=Uo W b-Qe (Q7 W t).nice)
def Gm(W:Q8)(b c:Int)(t:Nat):Bool:=(((Q7 W (t:Int)).IZ==b)&&Zw W (t:Int) c)&&zw7 W (t:Int) b c
def JT(W:Q8)(b c:Int):Nat->Nat->Int
 | 0,_ => -1
 | f+1,j=>if Gm W b c j=true then (j:Int) else JT W b c f (j+1)
theorem zjm{W:Q8}{b c:Int}{f j:Nat}(h:Gm W b c j=true):JT W b c (f+1) j=(j:Int):=C' h
theorem zdf{W:Q8}{b c:Int}{f j:Nat}(h:Gm W b c j=false):JT W b c (f+1) j=JT W b c f (j+1):=B' (by rw[h]; decide)
noncomputable def zi1(W:Q8)(c:Int):Nat->Nat->Int
 | 0,_ => -1
 | f+1,k=>if Y2 W c (k:Int)<0 then zi1 W c f (k+1) else if JT W (Y2 W c (k:Int)) c 12 0<0 then zi1 W c f (k+1) else JT W (Y2 W c (k:Int)) c 12 0
noncomputable def U0(W:Q8)(c:Int):Int:=zi1 W c (L3 (W.IE.length:Int)).toNat 0
theorem BC{W:Q8}{c:Int}{f k:Nat}(h:Y2 W c (k:Int)<0):zi1 W c (f+1) k=zi1 W c f (k+1):=C' h
theorem zfg{W:Q8}{c:Int}{f k:Nat}(h:JT W (Y2 W c (k:Int)) c 12 0<0):zi1 W c (f+1) k=zi1 W c f (k+1):=by
 simp only[zi1]
 by_cases h0:Y2 W c (k:Int)<0
 ·rw[C' h0]
 ·rw[B' h0,C' h]
theorem BD{W:Q8}{c:Int}{f k:Nat}(h0:¬Y2 W c (k:Int)<0)(h:¬JT W (Y2 W c (k:Int)) c 12 0<0):zi1 W c (f+1) k=JT W (Y2 W c (k:Int)) c 12 0:=by
 simp only[zi1];rw[B' h0,B' h]
theorem MJ{W:Q8}(wp:YI W)(c:Int):0<=Uo W c/\Uo W c<=240:=by
 have:=T9 (H2 W c) W.tasks.length;have ht:=wp.a.t;unfold Uo;omega
section
variable {W:Q8}{m:MW}{w:Wo}{bs:List Nat}{p:OA}
theorem zpz{W:Q8}(wp:YI W){c lv:Int}(h:¬Y2 W c lv<0):0<=Y2 W c lv/\Y2 W c lv<(W.IE.length:Int):=by
 have:=Me W c (Gn (W.IE.length:Int) c lv) W.IE.length;unfold Y2 at h ⊢;omega
theorem AG.ext{P:Program}{gf:FuncId}{lb:Array Va}{N:Nat}{Aw2:Nat->List Va}{I:Nat->Wo->Prop}{w w':Wo}(h:AG P gf lb N Aw2 I w)(hx:Q0 [] w w'):AG P gf lb N Aw2 I w':=
 λl J Jx W hW=>h l J Jx W (hx.trans hW)
theorem zea{t b c:Int}(h:XE bs w W m)(wp:YI W)(t0:0<=t)(t1:t<(W.tasks.length:Int)):PX bs Pv #[.agg (Qb W m).toArray,I t,I b,I c] w (.bool (zw7 W t b c)):=
 ze5 _ _ _ _ _ _ _ _ _ _ t b c λwr hx=>by
  have h:=(h.ext hx).less (cs:=[]) Qs;have r1:=MJ wp c;have r2:=MJ wp b;have r3:0<=Qe (gi W.tasks t).nice/\Qe (gi W.tasks t).nice<=20:=Ym _;exact λ_ _=>⟨_,UH h wp,h.t.ix QF t0 t1,_,h.t.f t0 t1 (j:=3) rfl,_,ZZ,λ_=>⟨Qo,Qo⟩,_,λ_=>UH h wp,λ_=>⟨Qo,Qo⟩,rfl⟩
theorem zeb{c:Int}(h:XE bs w W m)(wp:YI W)(c0:0<=c)(c1:c<(W.IE.length:Int)):PX bs Pw #[.agg (Qb W m).toArray,I c] w (I (U0 W c)):=
 ze7 _ _ _ _ _ _ _ _ _ _ c λwr hx=>by
  have h:=(h.ext hx).less (cs:=[]) Qs;have hlv:=zeh (W.IE.length:Int);have eM:=wp.a.t;intro _ _;refine YV 2 0 rfl (λk=>(k:Int)<=L3 (W.IE.length:Int)/\zi1 W c ((L3 (W.IE.length:Int)).toNat-k) k=U0 W c) ⟨hlv.1,rfl⟩ λk ⟨hk,hI⟩=>⟨_,PO,λIN=>?_,λRx=>?_⟩
  ·have IN:=Ot IN;have ek:(L3 (W.IE.length:Int)).toNat-k=((L3 (W.IE.length:Int)).toNat-(k+1))+1:=Qo;rw[ek] at hI;have nxt:zi1 W c ((L3 (W.IE.length:Int)).toNat-(k+1)) (k+1)=U0 W c->((k+1:Nat):Int)<=L3 (W.IE.length:Int)/\zi1 W c ((L3 (W.IE.length:Int)).toNat-(k+1)) (k+1)=U0 W c:=λhp=>⟨Qo,hp⟩
   refine⟨_,B8,_,Bd h wp c0 c1,λg=>⟨⟨Qo,Qo⟩,Qu Qo (nxt ?_)⟩,λg=>?_⟩
   ·rw[<-hI,BC (show Y2 W c (k:Int)<0 from Ot g)]
   ·have g:¬Y2 W c (k:Int)<0:=Ou g;refine YV 12 0 rfl (λj=>j<=12/\JT W (Y2 W c (k:Int)) c (12-j) j=JT W (Y2 W c (k:Int)) c 12 0) ⟨Ic _,rfl⟩ λj ⟨hj,hF⟩=>⟨λRA=>?_,λaN=>?_⟩
    ·have RA:=Ot RA;have mP:j<12:=Qo;rw[show 12-j=(12-(j+1))+1 by omega] at hF;refine⟨h.t.ix QF Qo RA,_,h.t.f Qo RA (j:=2) rfl,_,λ_=>G2 h wp Qo RA c0 c1,_,λ_=>zea h wp Qo RA,λg2=>?_,λg2=>⟨⟨Qo,Qo⟩,Qu mP ⟨Qo,?_⟩⟩⟩
     ·have g2:Gm W (Y2 W c (k:Int)) c j=true:=g2;rw[zjm g2] at hF;rw[<-hI,BD g (by rw[<-hF]; omega),<-hF]
     ·have g2:Gm W (Y2 W c (k:Int)) c j=false:=g2;rw[<-hF,zdf g2]
    ·have aN:=Ou aN;have:j=12:=Qo;subst this;refine⟨⟨Qo,Qo⟩,Qu Qo (nxt ?_)⟩;rw[<-hI,zfg (by rw[<-hF]; show (-1:Int)<0; decide)]
  ·have Rx:=Ou Rx;have:(L3 (W.IE.length:Int)).toNat-k=0:=Qo;rw[this] at hI;rw[<-hI]; rfl
theorem zq2(W:Q8)(c:Int) : -1<=U0 W c:=by
 have hf:∀(b:Int) (f j:Nat),-1<=JT W b c f j:=λb f=>by
  induction f with
  | zero=>intro j; exact I2 _
  | succ f ih=>
   intro j;simp only[JT];split
   ·omega
   ·exact ih _
 have hp:∀(f k:Nat),-1<=zi1 W c f k:=λf=>by
  induction f with
  | zero=>intro k; exact I2 _
  | succ f ih=>
   intro k;simp only[zi1];split
   ·exact ih _
   ·split
    ·exact ih _
    ·exact hf _ _ _
 exact hp _ _
def zyp(x:Int):Va:=if x<0 then .tuple #[I 0,.bool false] else .tuple #[I x,.bool true]
def zot(x:Int):Int:=if x<0 then 0 else x
theorem zyq(x:Int):zyp x=.tuple #[I (zot x),.bool (!decide (x<0))]:=by
 unfold zyp zot
 by_cases h:x<0
 ·rw[C' h,C' h,Ih h]; rfl
 ·rw[B' h,B' h,decide_eq_false h]; rfl
theorem zn8{b:Nat}{c a a':Int}(h:Tj bs w p W m)(wp:YI W)(hbx:Q1 bs w (some ⟨b,0,none⟩) 0 [.pointer p,I c])(h0:0<=a)(h1:a<(W.IE.length:Int))(h0':0<=a')(h1':a'<(W.IE.length:Int)):PX bs YA #[I a,I a',.pointer (some ⟨b,0,none⟩)] w (.bool (zvw W a a')):=
 Gj a a' (some ⟨b,0,none⟩) λwr hx=>by
  have h:=(h.ext hx).less (cs:=[]) Qs;have hb:=(hbx.ext hx).less (cs:=[]) Qs;exact⟨rfl,p,hb.get 0 _ rfl,p,a,ZR,_,Pb h wp h0 h1,rfl,p,hb.get 0 _ rfl,p,a',ZR,_,Pb h wp h0' h1',rfl⟩
theorem zba{W:Q8}(wp:YI W){c s:Int}{k:Nat}{i:Nat}(hi:i<(Ts W c s k).length):0<=gi (Ts W c s k) (i:Int)/\gi (Ts W c s k) (i:Int)<(W.IE.length:Int):=by
 have hm:=NN (l:=Ts W c s k) (i:=(i:Int)) Qo Qo;have:=(List.mem_filter.1 hm).2;have:=zwe wp this;exact⟨this.1,this.2.1⟩
theorem zdw{c lv:Int}(h:Tj bs w p W m)(wp:YI W)(c0:0<=c)(c1:c<(W.IE.length:Int)):PX bs UC #[.agg #[.pointer p,.int .i64 c],.int .i64 lv] w (.int .i64 (Y2 W c lv)):=by
 refine O1 λuU mZ=>Dj p c lv (R:=λv w'=>v=.int .i64 (Y2 W c lv)/\Q0 [] uU w') ?_
 have h:=(h.ext mZ).less (cs:=[]) Qs;intro b wb hx hb Ss _ b1 vT RZ cJ sW _ wr R5 _;have hX:=(hx.trans RZ).trans R5;have hp:=h.ext hX
 have hbx:Q1 [] wr (some ⟨b,0,none⟩) 0 [.pointer p,.int .i64 c]:=by
  have hc:=QB (QB Ss RZ Qs) R5 Qs;exact VQ hc Qs λj v hj=>by rw[Nat.zero_add,Nat.zero_add]; exact hj
 have Cp8:Q1 [] wr (some ⟨b1,0,none⟩) 0 [.int .i64 lv]:=(Md ⟨_,sW⟩).ext R5;have AZ7:=zjd W c (Gn (W.IE.length:Int) c lv) 4;rw[zwm wp.a.c2] at AZ7
 refine(z3g (gf:=JL) (lb:=#[.pointer (some ⟨b,0,none⟩),.pointer (some ⟨b1,0,none⟩)]) (bF:=.func YA) (bA:=#[]) (bK:=#[.pointer (some ⟨b,0,none⟩)]) (xs:=Ts W c (Gn (W.IE.length:Int) c lv) 4) (lt:=zvw W) (w:=wr)
  (enters_of Tryz.func255 Qk rfl)
  (λI W1 R6 hI=>AG.ext (zqh (W:=W) (m:=m) (p:=p) (c:=c) (lv:=lv) (b:=b) (b1:=b1) (I:=I) (w:=wr) wp c0 c1 hp hbx Cp8 hI) R6)
  (λi j hi hj W1 R6=>.inl ⟨YA,_,rfl,(zn8 (hp.ext R6) wp (hbx.ext R6) (zba wp hi).1 (zba wp hi).2 (zba wp hj).1 (zba wp hj).2) W1 (Q0.refl _ _)⟩)).mono λe w2 ⟨he,R6⟩=>⟨_,_,he,Ys,λg I' SK=>⟨?_,(hX.trans R6).trans SK⟩,λg M' SK=>⟨?_,(hX.trans R6).trans SK⟩⟩
 ·rw[AZ7] at g
  split at g
  ·have:=Me W c (Gn (W.IE.length:Int) c lv) W.IE.length;have e2:Y2 W c lv = -1:=by unfold Y2 at *; omega
   rw[e2]
  ·cases g
 ·rw[AZ7] at g ⊢
  split at g
  ·cases g
  ·rename_i hn;rw[B' hn]
theorem zoa{c:Int}(h:Tj bs w p W m)(wp:YI W)(c0:0<=c)(c1:c<(W.IE.length:Int)):PX bs Tw #[.agg #[.pointer p,I c]] w (.tuple #[I (zot (U0 W c)),.bool (!decide (U0 W c<0))]):=by
 rw[<-zyq];refine Ah p c λwr hx=>?_
 have h:=(h.ext hx).less (cs:=[]) Qs;have hlv:=zeh (W.IE.length:Int);have eM:=wp.a.t;refine λ_ _=>⟨_,Pb h wp c0 c1,h.some,_,_,_,h.IE,_,PM,?_⟩
 refine YV 2 0 rfl (λk=>(k:Int)<=L3 (W.IE.length:Int)/\zi1 W c ((L3 (W.IE.length:Int)).toNat-k) k=U0 W c) ⟨hlv.1,rfl⟩ λk ⟨hk,hI⟩=>⟨λIN=>?_,λRx=>?_⟩
 ·have IN:=Ot IN;have ek:(L3 (W.IE.length:Int)).toNat-k=((L3 (W.IE.length:Int)).toNat-(k+1))+1:=Qo;rw[ek] at hI;have nxt:zi1 W c ((L3 (W.IE.length:Int)).toNat-(k+1)) (k+1)=U0 W c->((k+1:Nat):Int)<=L3 (W.IE.length:Int)/\zi1 W c ((L3 (W.IE.length:Int)).toNat-(k+1)) (k+1)=U0 W c:=λhp=>⟨Qo,hp⟩
  refine⟨_,zdw h wp c0 c1,λg=>⟨⟨Qo,Qo⟩,Qu Qo (nxt ?_)⟩,λg=>?_⟩
  ·rw[<-hI,BC (Ot g)]
  ·have g:¬Y2 W c (k:Int)<0:=Ou g;have hbr:=zpz wp g;refine⟨p,_,ZR,_,Pb h wp hbr.1 hbr.2,h.some,_,_,_,h.tasks,?_⟩;refine YV 12 0 rfl (λj=>j<=12/\JT W (Y2 W c (k:Int)) c (12-j) j=JT W (Y2 W c (k:Int)) c 12 0) ⟨Ic _,rfl⟩ λj ⟨hj,hF⟩=>⟨λRA=>?_,λaN=>?_⟩
   ·have RA:=Ot RA;have mP:j<12:=Qo;rw[show 12-j=(12-(j+1))+1 by omega] at hF;have r1:=MJ wp c;have r2:=MJ wp (Y2 W c (k:Int));have r3:=Ym (Q7 W (j:Int)).nice;have CW3:Gm W (Y2 W c (k:Int)) c j=false->j+1<=12/\JT W (Y2 W c (k:Int)) c (12-(j+1)) (j+1)=JT W (Y2 W c (k:Int)) c 12 0:=λg2=>⟨Qo,by rw[<-hF,zdf g2]⟩
    refine⟨h.rd.t.ix QF Qo RA,_,_,_,_,_,_,_,_,_,h.rd.t j Qo RA,λ_ _=>⟨_,λ_=>LX h wp Qo RA c0 c1,λg2=>⟨⟨Qo,Qo⟩,Qu mP (CW3 ?_)⟩,λg2=>⟨_,OT h Qo RA,λ_=>⟨Qo,Qo⟩,λ_=>⟨Qo,Qo⟩,λg3=>?_,λg3=>⟨⟨Qo,Qo⟩,Qu mP (CW3 ?_)⟩⟩⟩⟩
    ·have g2:(((Q7 W (j:Int)).IZ != Y2 W c (k:Int))||(!Zw W (j:Int) c))=true:=g2;unfold Gm;rw[bne] at g2
     revert g2
     cases ((Q7 W (j:Int)).IZ==Y2 W c (k:Int)) <;> cases Zw W (j:Int) c <;> simp
    ·have g2:(((Q7 W (j:Int)).IZ != Y2 W c (k:Int))||(!Zw W (j:Int) c))=false:=g2
     have hp:Gm W (Y2 W c (k:Int)) c j=true:=by
      unfold Gm;rw[bne] at g2;rw[show zw7 W (j:Int) (Y2 W c (k:Int)) c=true from g3]
      revert g2
      cases ((Q7 W (j:Int)).IZ==Y2 W c (k:Int)) <;> cases Zw W (j:Int) c <;> simp
     rw[zjm hp] at hF;have e:U0 W c=(j:Int):=by rw[<-hI,BD g (by rw[<-hF]; omega),<-hF]
     rw[e];unfold zyp;rw[B' (by omega:¬(j:Int)<0)]
    ·unfold Gm;rw[show zw7 W (j:Int) (Y2 W c (k:Int)) c=false from g3,Bool.and_false]
   ·have aN:=Ou aN;have:j=12:=Qo;subst this;refine⟨⟨Qo,Qo⟩,Qu Qo (nxt ?_)⟩;rw[<-hI,zfg (by rw[<-hF]; show (-1:Int)<0; decide)]
 ·have Rx:=Ou Rx;have:(L3 (W.IE.length:Int)).toNat-k=0:=Qo;rw[this] at hI;rw[<-hI]; rfl
end
def PS(W:Q8)(g:Int)(j:Nat):Int:=Dt W g (j:Int)
theorem OE(W:Q8)(g c:Int)(h:W.tasks.length=12):0<=Dt W g c/\Dt W g c<=240:=by
 have:=T9 (zds W g c) W.tasks.length;unfold Dt;omega
def z1g(a b:Int):Int:=if a>b then a else b
def UO(W:Q8)(g c:Int):Int:=
 if X9 (PS W g) W.IE.length=0 then (gi W.ID g).weight else z1g 1 (Int.tdiv ((gi W.ID g).weight*Dt W g c) (X9 (PS W g) W.IE.length))
theorem zwv{a b:Int}(ha:0<=a)(ha2:a<=100000)(hb:0<b):Ql .i64 (Int.tdiv a b):=by
 have h1:=Int.tdiv_nonneg ha (Int.le_of_lt hb);have h2:Int.tdiv a b<=a:=by rw[Int.tdiv_eq_ediv_of_nonneg ha]; exact Int.ediv_le_self _ ha
 exact⟨Qo,Qo⟩
theorem zhz{a b:Int}{w:Wo}{bs:List Nat}:PX bs X5 #[I a,I b] w (I (z1g a b)):=TV
section
variable {W:Q8}{m:MW}{w:Wo}{bs:List Nat}{p:OA}
theorem zfr{g c:Int}(wp:TU W)(hu:Q6 W.ID g=true):0<=(gi W.ID g).weight*Dt W g c/\(gi W.ID g).weight*Dt W g c<=4800:=by
 have hw:=(wp.a.u hu).2.2;have hi:=OE W g c wp.a.t;have w1:=hw.w1;have w2:=hw.w2;refine⟨Int.mul_nonneg Qo hi.1,?_⟩;have:=Int.mul_le_mul w2 hi.2 hi.1 (show (0:Int)<=20 by decide);omega
theorem Hz{g:Int}(wp:TU W)(k:Nat):0<=X9 (PS W g) k/\X9 (PS W g) k<=(k:Int)*240:=T9 (λj=>OE W g (j:Int) wp.a.t) k
theorem zad{g c:Int}(h:XE bs w W m)(wp:TU W)(hl:Ua W)(hu:Q6 W.ID g=true):PX bs Ox #[.agg (Qb W m).toArray,I g,I c] w (I (UO W g c)):=
 zav _ _ _ _ _ _ _ _ _ _ g c λwr hx=>by
  have h:=(h.ext hx).less (cs:=[]) Qs;have rV:=wp.a.c2;obtain⟨u1,u2,_⟩:=Q4.1 hu;intro _ _;refine TX W.IE.length 0 rfl (λx k=>k<=W.IE.length/\x=X9 (PS W g) k) ⟨Ic _,rfl⟩ λx k ⟨hk,R5⟩=>⟨λIN=>?_,λRx=>⟨λg2=>⟨h.g.ix u1 u2,_,(h.g.cells g u1 u2).get 3 _ rfl,?_⟩,λg2=>?_⟩⟩
  ·have IN:=Ot IN;have hr:=Hz (g:=g) wp k;have hi:=OE W g (k:Int) wp.a.t;exact⟨_,L2 h wp hl hu,⟨Qo,Qo⟩,⟨Qo,Qo⟩,QH Qo ⟨Qo,by simp only[X9]; rw[R5]; rfl⟩⟩
  ·have Rx:=Ou Rx;have:k=W.IE.length:=Qo;subst this;unfold UO;rw[C' (by rw[<-R5]; simpa using g2)]
  ·have Rx:=Ou Rx;have:k=W.IE.length:=Qo;subst this;have hr:=Hz (g:=g) wp W.IE.length;have hp:=zfr (c:=c) wp hu;have bT:x≠0:=by simpa using g2
   refine⟨h.g.ix u1 u2,_,(h.g.cells g u1 u2).get 3 _ rfl,Dt W g c,L2 h wp hl hu,⟨Qo,Qo⟩,⟨bT,zwv hp.1 Qo Qo⟩,_,zhz,?_⟩;unfold UO;rw[B' (by rw[<-R5]; exact bT),R5]
theorem B0(f:Nat->Int)(n:Nat){k:Nat}(hk:k<n):gi ((List.range n).map f) (k:Int)=f k:=by
 rw[JX (by simpa using hk)]; simp
theorem zza(f:Nat->Int)(n:Nat):Xg ((List.range n).map f) n=X9 f n:=by
 have key:∀k:Nat,k<=n->Xg ((List.range n).map f) k=X9 f k:=λk=>by
  induction k with
  | zero=>intro _; rfl
  | succ k ih=>
   intro hk;simp only[Xg,X9];rw[ih Qo,B0 f n Qo]
 exact key n (I7 _)
theorem zva(f:Nat->Int)(k:Nat):(List.range k).map f++[f k]=(List.range (k+1)).map f:=by
 rw[List.range_succ,List.map_append]; rfl
theorem zl1{g c:Int}(h:Tj bs w p W m)(wp:TU W)(hu:Q6 W.ID g=true)(c0:0<=c)(c1:c<(W.IE.length:Int)):PX bs VX #[.agg #[.pointer p,I c],I g] w (I (UO W g c)):=by
 refine O1 λuU mZ=>FP p c g (R:=λv w'=>v=I (UO W g c)/\Q0 [] uU w') ?_
 have h:=(h.ext mZ).less (cs:=[]) Qs;have rV:=wp.a.c2;obtain⟨u1,u2,_⟩:=Q4.1 hu;intro b hb;refine⟨h.some,_,_,_,h.IE,?_⟩
 refine⟨λvs w1=>∃(k:Nat) (o:OA) (c':Nat),vs=[.slice o ((List.range k).map (PS W g)).length c',I (k:Int)]/\k<=W.IE.length/\Sc uU [b] w1/\Ob Jz 1 Qc uU.heap.size [b] w1 o c' ((List.range k).map (PS W g)),Zt W.IE.length 1,
  λwr hx _=>⟨0,none,0,rfl,Ic _,((Sc.start uU).R4 hx |> λs=>⟨s.ext,by simpa using hb⟩),⟨.inl ⟨rfl,rfl,rfl⟩,by simp[QL]⟩⟩,?_⟩
 rintro o1 L1 C1 x w1 bX ⟨k,o',c',he,hk,s1,hO⟩;simp only[I4,I5,Iv,true_and,and_true] at he;obtain⟨⟨rfl,rfl,rfl⟩,rfl⟩:=he;have hp:=h.sc s1;refine⟨λIN=>?_,λRx=>?_⟩
 ·have IN:=Ot IN;refine⟨p,(k:Int),ZR,Dt W g (k:Int),zql hp wp,λb1 cJ I' RZ SR Ss=>?_⟩;have s2:=s1.put RZ cJ;have jQ:=hO.put RZ cJ;obtain⟨o2,c2,w2,W8,uP,zW,R5⟩:=jQ.AA1 Y5 Vx (x:=PS W g k) SR s2.ext.size Ss (zu0 _) (by simp; omega) Qd Z9 #[false,false];have s3:=s2.call R5 λx hm=>(jQ.own.lt x hm).1
  rw[zva] at W8 zW;exact⟨_,_,_,w2,W8,uP,⟨Qo,Qo⟩,λM' R6 _=>⟨⟨k+1,o2,c2,Qs,Qo,(s3.step R6).sub Qs,(zW.step R6).sub Qs⟩,Zd (k:=k) rfl rfl Qo⟩⟩
 ·have Rx:=Ou Rx;have:k=W.IE.length:=Qo;subst this;have hr:=Hz (g:=g) wp W.IE.length;have hpr:=zfr (c:=c) wp hu;have hlen:((List.range W.IE.length).map (PS W g)).length=W.IE.length:=Qs;have CA7:Xg ((List.range W.IE.length).map (PS W g)) ((List.range W.IE.length).map (PS W g)).length=X9 (PS W g) W.IE.length:=by rw[hlen,zza]
  have hgi:gi ((List.range W.IE.length).map (PS W g)) c=Dt W g c:=by
   have:=B0 (PS W g) W.IE.length (k:=c.toNat) Qo;rw[show ((c.toNat:Nat):Int)=c by omega] at this;rw[this]; unfold PS;rw[show ((c.toNat:Nat):Int)=c by omega]
  have hc':c<(((List.range W.IE.length).map (PS W g)).length:Int):=by rw[hlen]; exact c1
  have hci:=(hO.rd Y5.len) c c0 hc';rw[hgi] at hci;refine⟨h.some,_,_,_,hp.ID,h.rd.g.ix u1 u2,_,(hp.rd.g.cells g u1 u2).get 3 _ rfl,_,Ly (hO.rd Y5.len) (by rw[hlen]; omega) (λx hm=>?_),λg2 Rr R6=>⟨?_,(s1.step R6).ext⟩,λg2=>⟨hO.own.ix c0 hc',Dt W g c,hci,⟨Qo,Qo⟩,?_,λRu SK=>⟨?_,(s1.step SK).ext⟩⟩⟩
  ·obtain⟨j,_,rfl⟩:=List.mem_map.1 hm;have:=OE W g (j:Int) wp.a.t;unfold PS;omega
  ·rw[CA7] at g2;unfold UO;rw[C' (by simpa using g2)]
  ·rw[CA7] at g2 ⊢;have bT:X9 (PS W g) W.IE.length≠0:=by simpa using g2
   exact⟨bT,zwv hpr.1 Qo Qo⟩
  ·rw[CA7] at g2 ⊢;have bT:X9 (PS W g) W.IE.length≠0:=by simpa using g2
   unfold UO;rw[B' bT]
   congr 1
   unfold z1g
   split <;> split <;> omega
end
theorem zxk{gs:List ZX}(ht:Y8 gs){g:Int}:∀h:Int,Q6 gs h=true->g∈QP gs h->JP 3 gs g h=true:=
 Pf ht (λhx=>by rw[show QP gs 0=[] from Zi _ _] at hx; cases hx) λh hu hz ih hx=>by
  by_cases e:h=g
  ·subst e; simp[JP]
  ·rw[NP ht hu hz e];rw[Yt ht hu hz] at hx;rcases Ii.1 hx with e2 | e2
   ·exact Ir e2.symm e
   ·exact ih e2
theorem zth(W:Q8)(g c x:Int):O5 W (O3 W g c x):=by
 unfold O3;split
 ·exact O5.refl _
 ·split
  ·exact(zfv _ _ _ _).trans (HS _ _)
  ·exact zfv _ _ _ _
theorem O4.wei{W:Q8}(p:O4 W){g c x:Int}(hu:Q6 W.ID g=true)(hz:g≠0)(c0:0<=c)(c1:c<(W.IE.length:Int)):O4 (O3 W g c x):=by
 obtain⟨u0,u1,_⟩:=Q4.1 hu;have hl:=p.a.gl;have hsl:=p.a.sl hu;have qA:c<((gi W.ID g).IF.length:Int):=Qo;have e:∀{i j:Int},0<=i->0<=j->Qa (Xb W g c x) i j=if g=i/\c=j then Hw W g c x else Qa W i j:=λhi hj=>Jw u0 u1 c0 qA hi hj
 have hT:Z1 W.ID (Xb W g c x).ID:=YL u0 u1
 have ef:∀{i j:Int},0<=i->0<=j->(Qa (Xb W g c x) i j).floor=(Qa W i j).floor:=λ{i j} hi hj=>by
  rw[e hi hj]; split
  ·rename_i h; obtain⟨rfl,rfl⟩:=h; rfl
  ·rfl
 have hpu:=p.a.up hu hz;have p0:=(Q4.1 hpu).1
 have same:∀{i j:Int},Q6 W.ID i=true->i≠0->0<=j->¬(g=i/\c=j)->T8 W i j->T8 (Xb W g c x) i j:=λ{i j} iu iz j0 hn h=>by
  unfold T8 at h ⊢;rw[hT.p,ef (Q4.1 (p.a.up iu iz)).1 j0,e (Q4.1 iu).1 j0,B' hn];exact h
 have hA:PreA (Xb W g c x):=by
  refine⟨p.a.Rv u0 Qo,λt t0 t1=>?_,λt t0 t1 n=>p.l t t0 t1 n,λi j iu j0 j1=>?_⟩
  ·rcases p.t t t0 t1 with h | ⟨n,h⟩
   ·exact .inl h
   ·exact .inr ⟨n,h.st,by rw[hT.cQ]; exact h.g,h.n,h.m,h.m0,h.s,h.u,h.l1,h.l2,λh1=>by
     show (Qa (Xb W g c x) (Q7 W t).group (Q7 W t).IZ).floor<=(Q7 W t).v/\(Q7 W t).v-(Qa (Xb W g c x) (Q7 W t).group (Q7 W t).IZ).floor<=_;rw[ef (Q4.1 h.g).1 (p.l t t0 t1 n).1]; exact h.f h1⟩
  ·rw[hT.cQ] at iu;have hs:=p.s i j iu j0 j1;have i0:=(Q4.1 iu).1
   by_cases h:g=i/\c=j
   ·obtain⟨rfl,rfl⟩:=h;refine⟨by rw[e i0 j0,C' ⟨rfl,rfl⟩]; exact hs.s,λh0=>Ir h0 hz,λ_ ho=>?_⟩;rw[e i0 j0,C' ⟨rfl,rfl⟩] at ho;have ho:(Qa W g c).on=true:=ho;unfold T8;rw[hT.p,ef p0 j0,e i0 j0,C' ⟨rfl,rfl⟩];simp only[Hw];rw[C' ho];have:=ZH ((Qa W g c).v-(Qa W (gi W.ID g).parent c).floor) x;omega
   ·refine⟨by rw[e i0 j0,B' h]; exact hs.s,by rw[e i0 j0,B' h]; exact hs.root,λiz ho=>?_⟩;rw[e i0 j0,B' h] at ho;exact same iu iz j0 h (hs.st iz ho)
 have hC:∀d:Int,0<=d->d<(W.IE.length:Int)->(d=c->Hu (Xb W g c x) g c=false)->z2t (Xb W g c x) d:=λd d0 d1 hd=>by
  have h:=p.c d d0 d1;refine⟨h.b,h.i,h.c1,h.c2,h.no,h.yes,λh0 h1 h2=>?_⟩;obtain⟨q1,q2⟩:=h.q h0 h1 h2
  have hcu:Q6 W.ID (Q7 W (gi W.IE d).cur).group=true:=by
   rcases p.t _ h0 h.c2 with hz | ⟨_,hx⟩
   ·have h1:(Q7 W (gi W.IE d).cur).state=1:=h1;have h3:(Q7 W (gi W.IE d).cur).state=0:=hz.1;rw[h3] at h1; cases h1
   ·exact hx.g
  refine⟨by show (Q7 W (gi W.IE d).cur).v-(Qa (Xb W g c x) (Q7 W (gi W.IE d).cur).group d).floor<=_; rw[ef (Q4.1 hcu).1 d0]; exact q1,λy hy=>?_⟩;have hy:y∈QP W.ID (Q7 W (gi W.IE d).cur).group:=by rw[<-O0 hT]; exact hy
  obtain⟨yu,yz⟩:=YQ p.a.tree _ hcu y hy;have y0:=(Q4.1 yu).1
  have hn:¬(g=y/\c=d):=by
   rintro⟨rfl,rfl⟩;have h3:=hd rfl;unfold Hu at h3;have h4:=zxk (hT.tree p.a.tree) (g:=g) (Q7 W (gi W.IE c).cur).group (by rw[hT.cQ]; exact hcu) (by rw[O0 hT]; exact hy);rw[show (gi (Xb W g c x).IE c).cur=(gi W.IE c).cur from rfl,Ih (show (gi W.IE c).cur>=0 from h0),Bool.true_and] at h3;rw[show (Q7 (Xb W g c x) (gi W.IE c).cur).group=(Q7 W (gi W.IE c).cur).group from rfl,h4] at h3;cases h3
  obtain⟨s1,s2⟩:=q2 y hy;refine⟨same yu yz d0 hn s1,?_⟩;rw[hT.p,ef (Q4.1 (p.a.up yu yz)).1 d0,e y0 d0,B' hn];exact s2
 unfold O3;split
 ·exact p
 ·split
  ·refine⟨hA.Rz c0 c1,λd d0 d1=>?_⟩;have hlen:(YtnclplgaicdapaaGreatDoor.Rz (Xb W g c x) c).IE.length=W.IE.length:=E';have iW:gi (YtnclplgaicdapaaGreatDoor.Rz (Xb W g c x) c).IE d=if c=d then XT (gi W.IE c) else gi W.IE d:=QM _ _ c0 c1 d0;rw[hlen] at d1
   by_cases ed:c=d
   ·subst ed;have h:=p.c c c0 c1;rw[C' rfl] at iW;have n1:(XT (gi W.IE c)).cur = -1:=rfl;exact⟨by rw[iW]; exact h.b,by rw[iW]; exact h.i,by rw[iW,n1]; exact I2 _,by rw[iW,n1]; decide,λ_=>by rw[iW]; rfl,λh=>by rw[iW,n1] at h; omega,λh=>by rw[iW,n1] at h; omega⟩
   ·have h:=hC d d0 d1 λhd=>Ir hd.symm ed
    rw[B' ed] at iW;exact⟨by rw[iW]; exact h.b,by rw[iW]; exact h.i,by rw[iW]; exact h.c1,by rw[iW]; exact h.c2,by rw[iW]; exact h.no,by rw[iW]; exact h.yes,by rw[iW]; exact h.q⟩
  ·rename_i he;exact⟨hA,λd d0 d1=>hC d d0 d1 λ_=>by simpa using he⟩
theorem SW.tu{K:Int}{W:Q8}(h:SW K W):TU W:=⟨h.a,λt0 t1 hs=>h.li t0 t1 hs⟩
theorem zmy{f:Nat->Int}(h:∀j,0<=f j):∀m:Nat,0<=X9 f m
 | 0=>I2 _
 | m+1=>by
  have ih:=zmy h m;have:=h m;simp only[X9];omega
theorem ztj{f:Nat->Int}(h:∀j,0<=f j){k:Nat}:∀n:Nat,k<n->f k<=X9 f n
 | 0,hk=>Ir hk (Nat.not_lt_zero k)
 | n+1,hk=>by
  simp only[X9];have hn:=zmy h
  by_cases e:k=n
  ·subst e; have:=hn k; omega
  ·have:=ztj h (k:=k) n Qo;have:=h n;omega
theorem zo4{W:Q8}(wp:TU W){g c:Int}(hu:Q6 W.ID g=true)(c0:0<=c)(c1:c<(W.IE.length:Int)):1<=UO W g c/\UO W g c<=(gi W.ID g).weight:=by
 have hg:=(wp.a.u hu).2.2;have w1:=hg.w1;have hi:=OE W g c wp.a.t
 have oK:Dt W g c<=X9 (PS W g) W.IE.length:=by
  have:=ztj (f:=PS W g) (λj=>(OE W g (j:Int) wp.a.t).1) (k:=c.toNat) W.IE.length Qo;unfold PS at this
  rwa[show ((c.toNat:Nat):Int)=c by omega] at this
 unfold UO;split
 ·omega
 ·rename_i hn
  have hp:0<X9 (PS W g) W.IE.length:=by
   have:=(Hz (g:=g) wp W.IE.length).1;omega
  have hq:Int.tdiv ((gi W.ID g).weight*Dt W g c) (X9 (PS W g) W.IE.length)<=(gi W.ID g).weight:=by
   rw[Int.tdiv_eq_ediv_of_nonneg (Int.mul_nonneg Qo hi.1)];refine Int.ediv_le_of_le_mul hp ?_;exact Int.mul_le_mul_of_nonneg_left oK Qo
  unfold z1g
  split <;> omega
theorem zo3{W:Q8}(wp:TU W){g c:Int}(hu:Q6 W.ID g=true)(c0:0<=c)(c1:c<(W.IE.length:Int)):1<=UO W g c/\UO W g c<=20:=by
 have h:=zo4 wp hu c0 c1;have:=(wp.a.u hu).2.2.w2;omega
def Vg(W:Q8)(c:Int):Nat->Q8
 | 0=>W
 | k+1=>if k≠0/\(gi (Vg W c k).ID (k:Int)).used=true then O3 (Vg W c k) (k:Int) c (UO (Vg W c k) (k:Int) c) else Vg W c k
def YM(W:Q8)(c:Int):Q8:=Qg (Vg W c 8)
noncomputable def Jh(W:Q8)(c:Int):Int:=U0 (YM W c) c
noncomputable def Th(W:Q8)(c:Int):Q8:=if Jh W c<0 then YM W c else Qg (XW (YM W c) (Jh W c) (Q7 (YM W c) (Jh W c)).group c)
noncomputable abbrev P5(W:Q8)(c:Int):Int:=Xn W c true 0
structure z18 (W V:Q8):Prop where
 sf:SF Qn (Qn+Qi) V
 fr:Fr W V
 cu:D0 V
 pre:O4 V
 sta:O5 W V
theorem za9{W:Q8}(wp:YI W)(hr:LO W){c:Int}(c0:0<=c)(c1:c<(W.IE.length:Int)):∀k:Nat,k<=8->z18 W (Vg W c k)
 | 0,_=>⟨Lh (MR wp hr),Fr.refl _,zr5 wp,XL wp,O5.refl _⟩
 | k+1,hk=>by
  have ih:=za9 wp hr c0 c1 k Qo;simp only[Vg];split
  ·rename_i h;have hl:=ih.sf.w.a.gl;have hu:Q6 (Vg W c k).ID (k:Int)=true:=Q4.2 ⟨Qo,Qo,h.2⟩;have qA:c<((Vg W c k).IE.length:Int):=by rw[ih.fr.c]; exact c1
   have hs:=zo3 ih.sf.w.tu hu c0 qA;obtain⟨a,b,d⟩:=ztq ih.sf (I2 _) ih.cu hu Qo c0 qA hs.1 hs.2;exact⟨a,ih.fr.trans b,d,ih.pre.wei hu Qo c0 qA,ih.sta.trans (zth _ _ _ _)⟩
  ·exact ih
theorem HA{W:Q8}{c:Int}(hW:QD W=true)(hb:P5 W c=0):0<=c/\c<(W.IE.length:Int)/\z18 W (Vg W c 8)/\YI (YM W c)/\SW (Qn+Qi+Ud) (YM W c)/\Fr W (YM W c):=by
 obtain⟨h1,_,_,h4⟩:=zbc hb;have wp:=Qj.1 hW;obtain⟨c0,c1⟩:=US h1;have hB:=za9 wp (Qj.1 h4) c0 c1 8 (I7 _);have hs:=UN hB.sf.w (by simp only[Qi]; decide);exact⟨c0,c1,hB,(zfq hB.sf.w (by simp only[Qi]; decide) (by simp only[Qi,Ud]; decide) hB.pre (hB.sta.loc hB.fr.t (Vn wp))).1,hs.1,hB.fr.trans hs.2⟩
theorem zdh{W:Q8}{b c:Int}:∀f j:Nat,0<=JT W b c f j->∃i:Nat,JT W b c f j=(i:Int)/\j<=i/\i<j+f/\Gm W b c i=true
 | 0,j,h=>by
  have:(0:Int)<=-1:=h;omega
 | f+1,j,h=>by
  simp only[JT] at h ⊢;split
  ·rename_i hp;exact⟨j,rfl,I7 _,Qo,hp⟩
  ·rename_i hp;rw[B' hp] at h;obtain⟨i,a,b',c',d⟩:=zdh f (j+1) h;exact⟨i,a,Qo,Qo,d⟩
theorem Au{W:Q8}{c:Int}(h:¬U0 W c<0):∃(i:Nat) (b:Int),U0 W c=(i:Int)/\i<12/\Gm W b c i=true:=by
 have key:∀f k:Nat,0<=zi1 W c f k->∃(i:Nat) (b:Int),zi1 W c f k=(i:Int)/\i<12/\Gm W b c i=true:=λf=>by
  induction f with
  | zero=>intro k h; have:(0:Int)<=-1:=h; omega
  | succ f ih=>
   intro k h
   by_cases h0:Y2 W c (k:Int)<0
   ·rw[BC h0] at h ⊢; exact ih _ h
   ·by_cases h1:JT W (Y2 W c (k:Int)) c 12 0<0
    ·rw[zfg h1] at h ⊢; exact ih _ h
    ·rw[BD h0 h1] at h ⊢;obtain⟨i,a,_,b,d⟩:=zdh 12 0 h;exact⟨i,_,a,Qo,d⟩
 exact key _ _ (by have:=zq2 W c; unfold U0 at *; omega)
theorem z1s{W:Q8}{c:Int}(h:¬U0 W c<0):0<=U0 W c/\U0 W c<12/\(Q7 W (U0 W c)).state=1:=by
 obtain⟨i,b,e,hi,hp⟩:=Au h;unfold Gm at hp;simp only[A'] at hp;rw[e];exact⟨Qo,Qo,(GA hp.1.2).1⟩
theorem z09{W V:Q8}(hl:Ua W)(ha:WA V)(hT:Z1 W.ID V.ID):Ua V:=by
 have h1:=ha.c2;have h2:=ha.t;have h3:=ha.gl;have hm:=ZV;have hn1:=ha.n1;have hn2:=ha.n2;refine⟨Qo,Qo,Qo,λi a b=>?_⟩;have hb:=KM ha a Qo;have hg:=ha.grp i a Qo;refine⟨by rw[hT.n]; exact(hl.f i a (by rw[<-hT.len]; exact b)).nm,?_,Qo,Qo,Qo⟩
 cases hu:(gi V.ID i).used with
 | false=>rw[(hg.1 hu).ne]; exact⟨Qd,Qd⟩
 | true=>
  have hg:=hg.2 hu
  by_cases hq:(gi V.ID i).IP.IX=0
  ·rw[(hg.none hq).2.2]; exact⟨Qd,Qd⟩
  ·have:=hg.IP hq;exact⟨Qo,Qo⟩
theorem FG{W:Q8}{c:Int}(hW:QD W=true)(hb:P5 W c=0)(hp:¬Jh W c<0):0<=Jh W c/\Jh W c<12/\(Q7 (YM W c) (Jh W c)).state=1/\Q6 (YM W c).ID (Q7 (YM W c) (Jh W c)).group=true/\SF (Qn+Qi+Ud) (Qn+Qi+Ud+Qi) (YM W c)/\
  SF (Qn+Qi+Ud) (Qn+Qi+Ud+Qi) (XW (YM W c) (Jh W c) (Q7 (YM W c) (Jh W c)).group c):=by
 obtain⟨c0,c1,_,wp,sw,fr⟩:=HA hW hb;obtain⟨p0,p1,ps⟩:=z1s hp;have sf:SF (Qn+Qi+Ud) (Qn+Qi+Ud+Qi) (YM W c):=sw.sf.mono (I2 _) (by simp only[Qi]; omega);have hu:=(sw.t _ p0 p1 (show (Q7 (YM W c) (Jh W c)).state≠0 by unfold Jh; rw[ps]; decide)).1;exact⟨p0,p1,ps,hu,sf,(zbl sf (I2 _) p0 p1 hu c0 (by rw[fr.c]; exact c1)).2⟩
section
variable {base pb:Nat}{W W':Q8}{m:MW}{w:Wo}
theorem Kf{c:Int}(h:XE [] w W m)(hl:Ua W) :
  Cz JN #[.agg (Qb W m).toArray,I c] w λe w'=>∃v,e=.returned v/\QR (YY W (P5 W c) (Th W c)) w v w':=by
 refine FQ _ _ _ _ _ _ _ _ _ _ c (R:=λv w'=>QR (YY W (P5 W c) (Th W c)) w v w') ?_;intro y hy y1 cP wr R5 SR;have hm0:=XD;have hlc:=hl.c;refine I3 (Zh (h.ext R5) hl) ?_;rintro e wv (⟨hW,he,SI⟩ | ⟨hW,m',he,hM,SI⟩)
 ·exact⟨_,_,_,_,_,_,_,_,_,_,_,he,Qf SI SR,λg=>by simp at g,true,λg=>by simp at g,λ_ I' R6=>QR.bad hW ((R5.trans SI).fresh R6 λz hm=>.inl (Xa hy cP z hm)),λg=>by simp at g⟩
 have hK:=Wk.begin hy cP R5 SR hM SI;have hr:=hK.rd;have wp:=Qj.1 hW;refine⟨_,_,_,_,_,_,_,_,_,_,_,he,Qf SI SR,λ_=>⟨Qo,Qo⟩,YK W c,λ_=>Qm,λg I' R6=>?_,λg=>?_⟩
 ·have g:YK W c=false:=by
   cases hc:YK W c with
   | false=>rfl
   | true=>rw[hc] at g; split at g <;> simp at g
  have hb:P5 W c=1:=by unfold P5 Xn; rw[C' g]
  exact QR.no hW (by rw[hb]; decide) (hK.step R6) hb
 have g:YK W c=true:=by
  cases hc:YK W c with
  | true=>rfl
  | false=>rw[hc] at g; simp at g
 obtain⟨c0,c1⟩:=US g;refine⟨hr.c.ix Y6 c0 c1,_,hr.c.f c0 c1 (j:=0) rfl,λg2 M' R6=>?_,λg2=>⟨λg3 Rr R6=>?_,λg3=>?_⟩⟩
 ·have g2:(gi W.IE c).up=false:=by simpa using g2
  have hb:P5 W c=6:=by unfold P5 Xn; rw[B' (by rw[g]; decide),C' (by rw[g2]; decide)]
  exact QR.no hW (by rw[hb]; decide) (hK.step R6) hb
 ·have g2:(gi W.IE c).up=true:=by simpa using g2
  have aZ:¬QT W=true:=λhr=>by rw[C' hr] at g3; simp at g3
  have hb:P5 W c=10:=by unfold P5; rw[Ka g g2 rfl,C' (by simpa using aZ)]
  rw[B' aZ];exact QR.no hW (by rw[hb]; decide) (hK.step R6) hb
 have g2:(gi W.IE c).up=true:=by simpa using g2
 have aZ:QT W=true:=Iq λhr=>by rw[B' hr] at g3; simp at g3
 have hb:P5 W c=0:=by unfold P5; rw[Ka g g2 rfl,B' (by rw[aZ]; decide)]
 obtain⟨_,_,hB8,wpS,swS,frS⟩:=HA hW hb;refine⟨λvs w1=>∃k:Nat,vs=I (k:Int)::Qb W m'/\1<=k/\k<=8/\Wk 8 [y,y1] w w1 (Vg W c k) m',Zt 8 0,λw1 mZ _=>⟨1,rfl,Qd,Qd,hK.step mZ⟩,?_⟩;rintro g1 l S5 Sb Sh S6 Se Sg S7 S8 Sa RF fQ ⟨k,aR,hk1,hk8,hKk⟩;have hOk:=za9 wp (Qj.1 aZ) c0 c1 k hk8;have e0:Qb (Vg W c k) m'=Qb W m':=J0 hOk.fr;have W5:Vg W c (k+1)=if k≠0/\(gi (Vg W c k).ID (k:Int)).used=true then O3 (Vg W c k) (k:Int) c (UO (Vg W c k) (k:Int) c) else Vg W c k:=rfl;have bZ:=hOk.sf.w.a.gl;have Bh3:=wp.a.gl;simp only[Qb,I4,I5,Iv,true_and,and_true] at aR;obtain⟨rfl,rfl,⟨rfl,rfl,rfl⟩,⟨rfl,rfl,rfl⟩,rfl,rfl,rfl⟩:=aR;refine⟨λIN=>?_,λRx Si tD nQ=>?_⟩
 ·have IN:=Ot IN;have hrk:=hKk.rd;have Wg:=hrk.g.ix (i:=(k:Int)) Qo Qo;rw[bZ] at Wg;rw[Bh3] at IN ⊢;refine⟨Wg,_,YZ ((hrk.g.cells (k:Int) Qo Qo).get 0 _ rfl),λgu=>?_,λgu=>⟨⟨Qo,Qo⟩,λWS gL _=>⟨⟨k+1,by rw[<-Bh3]; rfl,Qo,Qo,?_⟩,?_⟩⟩⟩
  ·have hu:Q6 (Vg W c k).ID (k:Int)=true:=Q4.2 ⟨Qo,Qo,gu⟩;have qA:c<((Vg W c k).IE.length:Int):=by rw[hOk.fr.c]; exact c1
   have hsh:=zo3 hOk.sf.w.tu hu c0 qA;have At7:=zad (c:=c) hrk hOk.sf.w.tu (z09 hl hOk.sf.w.a hOk.fr.g) hu;rw[e0] at At7;simp only[Qb] at At7;rw[Bh3] at At7;refine⟨_,At7,λSM eB hs7=>?_⟩;have hK7:=hKk.step eB;have Rq:=KZ hK7.own hOk.sf (I2 _) (by simp only[Qi]; decide) hOk.cu (x:=UO (Vg W c k) (k:Int) c) hu Qo c0 qA;rw[e0] at Rq;simp only[Qb] at Rq;rw[Bh3] at Rq;refine I3 Rq ?_;rintro e1 RU ⟨gP,gH⟩;refine⟨_,_,_,_,_,_,_,_,_,_,gP,hK7.kept gH hs7,⟨Qo,Qo⟩,λV' oQ _=>⟨⟨k+1,by rw[<-Bh3]; rfl,Qo,Qo,?_⟩,?_⟩⟩
   ·rw[W5,C' ⟨Qo,gu⟩];exact(hK7.Sn gH hs7).step oQ
   ·simp only[Zt,Xy,ZE,Ie]; omega
  ·rw[W5,B' (by rintro⟨_,h⟩; rw[show (gi (Vg W c k).ID (k:Int)).used=false from gu] at h; cases h)];exact hKk.step gL
  ·simp only[Zt,Xy,ZE,Ie]; omega
 ·have Rx:=Ou Rx;have:k=8:=Qo;subst this;have AF1:=hKk.step tD;have Rq:=QA AF1.own hB8.sf.w (by simp only[Qi]; decide) (by simp only[Qi]; decide) AF1.base;rw[e0] at Rq;refine I3 Rq ?_;rintro e3 dW ⟨m2,jR,hy5⟩;have BD0:Wk 8 [y,y1] w dW (YM W c) m2:=AF1.Sn hy5 nQ;have B97:=BD0.rd;have CS6:=zeb B97 wpS c0 (by rw[frS.c]; exact c1);refine⟨_,_,_,_,_,_,_,_,_,_,jR,AF1.kept hy5 nQ,_,CS6,λg5=>?_,λg5 WO BF1=>?_⟩
  ·have g5:¬Jh W c<0:=by have:=Ot g5; unfold Jh; omega
   obtain⟨p0,p1,ps,hu,sf,sfP⟩:=FG hW hb g5;have eM:=wpS.a.t;refine⟨B97.t.ix QF p0 (by rw[eM]; exact p1),_,B97.t.f p0 (by rw[eM]; exact p1) (j:=1) rfl,λSk AF8 AA9=>?_⟩;have Az5:=BD0.step AF8;refine I3 (Vu Az5.own sf (I2 _) (by simp only[Qi,Ud]; decide) (t:=Jh W c) (g:=(Q7 (YM W c) (Jh W c)).group) (c:=c) p0 p1 (by rw[ps]; decide) hu c0 (by rw[frS.c]; exact c1)) ?_;rintro e4 gJ ⟨he4,hy6⟩;refine⟨_,_,_,_,_,_,_,_,_,_,he4,Az5.kept hy6 AA9,λSJ vM AQ4=>?_⟩;have Bs7:=(Az5.Sn hy6 AA9).step vM
   have Cm9:Qb (XW (YM W c) (Jh W c) (Q7 (YM W c) (Jh W c)).group c) m2=Qb (YM W c) m2:=by
    obtain⟨q1,q2,q3,q4⟩:=zq4 (YM W c) (Jh W c) (Q7 (YM W c) (Jh W c)).group c;simp only[Qb,q1,q2,q3,q4]
   have aE:=QA Bs7.own sfP.w (by simp only[Qi,Ud]; decide) (by simp only[Qi,Ud]; decide) Bs7.base;rw[Cm9] at aE;refine I3 aE ?_;rintro e5 fJ ⟨m3,he5,hy7⟩;refine⟨_,_,_,_,_,_,_,_,_,_,he5,Bs7.kept hy7 AQ4,λWs Bj5=>?_⟩;have hE:Th W c=Qg (XW (YM W c) (Jh W c) (Q7 (YM W c) (Jh W c)).group c):=by unfold Th; rw[B' g5]
   rw[hE];exact QR.ok hW hb ((Bs7.Sn hy7 AQ4).step Bj5)
  ·have g5:Jh W c<0:=by have:=Ou g5; unfold Jh; omega
   have hE:Th W c=YM W c:=by unfold Th; rw[C' g5]
   rw[hE];exact QR.ok hW hb (BD0.step BF1)
theorem zwn{w w':Wo}{cap:OA}{v:Va}{bs:List Nat}(h:Q1 [] w cap 0 [v])(h':Q1 [] w' cap 0 [v])(hb:∀x∈bs,w.heap.size<=x):Q1 bs w' cap 0 [v]:=by
 obtain⟨a,ha,_,hc⟩:=h.get 0 _ rfl;obtain⟨a',ha',_,hc'⟩:=h'.get 0 _ rfl;rw[ha] at ha'
 cases ha'
 refine YZ ⟨a,ha,λhm=>?_,hc'⟩;have h1:=World.block_lt_of_cell? w _ hc;rw[ZC] at h1;have:=hb _ hm;omega
theorem zdt{cap:OA}{c:Int}(h:PW base pb w W m)(hl:Ua W)(hW:QD W=true)(hb:P5 W c=0)(CN3:∀w' W' m',Mp base pb [] w m w' W' m'->Q1 [] w' cap 0 [I c]) :
  Cz J1 #[.pointer (pA pb),.agg #[.pointer (pA pb),I c],.pointer cap] w λe w2=>e=.returned (.tuple #[])/\∃m2,E4 base pb [] w m w2 (Th W c) m2:=by
 refine(Dg (pA pb) (pA pb) c cap (R:=λv w2=>v=.tuple #[]/\∃m2,E4 base pb [] w m w2 (Th W c) m2) ?_).mono λe w' ⟨v,he,hv,h3⟩=>⟨by rw[he,hv],h3⟩
 intro b hbb;obtain⟨c0,c1,hB8,wpS,swS,frS⟩:=HA hW hb;have wp:=Qj.1 hW;have aZ:=(zbc hb).2.2.2;have hM:=Mp.start h;have hMb:Mp base pb [b] w m w W m:=hM.add hbb;refine XJ 8 1 rfl (λk w2=>1<=k/\k<=8/\Mp base pb [b] w m w2 (Vg W c k) m) (λw2 R5 _=>⟨Qd,Qd,hMb.R4 R5⟩) λk w2 SR ⟨hk1,hk8,hMk⟩=>?_
 have hOk:=za9 wp (Qj.1 aZ) c0 c1 k hk8;have W5:Vg W c (k+1)=if k≠0/\(gi (Vg W c k).ID (k:Int)).used=true then O3 (Vg W c k) (k:Int) c (UO (Vg W c k) (k:Int) c) else Vg W c k:=rfl;have bZ:=hOk.sf.w.a.gl;have hpk:=hMk.wpt;refine⟨λIN=>?_,λRx Ru SK eZ=>?_⟩
 ·have IN:=Ot IN;refine⟨hpk.some,_,_,_,hpk.ID,hpk.rd.g.ix Qo Qo,_,YZ ((hpk.rd.g.cells (k:Int) Qo Qo).get 0 _ rfl),λgu=>?_,λgu=>⟨⟨Qo,Qo⟩,λRr R6 _=>Qp Qo ⟨Qo,Qo,?_⟩⟩⟩
  ·have hu:Q6 (Vg W c k).ID (k:Int)=true:=Q4.2 ⟨Qo,Qo,gu⟩;have qA:c<((Vg W c k).IE.length:Int):=by rw[hOk.fr.c]; exact c1
   refine⟨_,zl1 hpk hOk.sf.w.tu hu c0 qA,λI' RZ bX=>?_⟩;have hM1:=hMk.step RZ;refine I3 (zhu hM1.pw hOk.sf (I2 _) (by simp only[Qi]; decide) hOk.cu (x:=UO (Vg W c k) (k:Int) c) hu Qo c0 qA) ?_;rintro e wv ⟨he,hy⟩;refine⟨he,hM1.kept hy bX,⟨Qo,Qo⟩,λM' R5 _=>Qp Qo ⟨Qo,Qo,?_⟩⟩;rw[W5,C' ⟨Qo,gu⟩];exact(hM1.call hy bX).step R5
  ·rw[W5,B' (by rintro⟨_,h⟩; rw[show (gi (Vg W c k).ID (k:Int)).used=false from gu] at h; cases h)];exact hMk.step R6
 ·have Rx:=Ou Rx;have:k=8:=Qo;subst this;have gN:=hMk.step SK;refine I3 (DU gN.pw hB8.sf.w (by simp only[Qi]; decide) (by simp only[Qi]; decide)) ?_;rintro e1 RU ⟨gP,gH⟩;have hM5:Mp base pb [b] w m RU (YM W c) m:=gN.call gH eZ;have hp5:=hM5.wpt;have eM:=wpS.a.t;refine⟨gP,gN.kept gH eZ,_,_,zoa hp5 wpS c0 (by rw[frS.c]; exact c1),λg5=>?_,λg5 V' oQ=>⟨rfl,m,?_⟩⟩
  ·have g5 : ¬ Jh W c < 0 := by have:¬U0 (YM W c) c<0:=by simpa using g5
                                exact this
   obtain⟨p0,p1,ps,hu,sf,sfP⟩:=FG hW hb g5;have eA:zot (U0 (YM W c) c)=Jh W c:=by unfold zot; rw[B' (show ¬U0 (YM W c) c<0 from g5)]; rfl
   rw[eA];refine⟨hp5.some,_,_,_,hp5.tasks,hp5.rd.t.ix QF p0 (by rw[eM]; exact p1),_,hp5.rd.t.f p0 (by rw[eM]; exact p1) (j:=1) rfl,c,zwn (CN3 _ _ _ hM) (CN3 _ _ _ hM5.close) (λx hx=>(by simpa using hx:x=b)▸hbb),λRN Sm kK=>?_⟩;have hM6:=hM5.step Sm;refine I3 (zqm hM6.pw sf (I2 _) (by simp only[Qi,Ud]; decide) (t:=Jh W c) (g:=(Q7 (YM W c) (Jh W c)).group) (c:=c) p0 p1 (by rw[ps]; decide) hu c0 (by rw[frS.c]; exact c1)) ?_;rintro e2 aX ⟨aR,iY⟩;refine⟨aR,hM6.kept iY kK,λSj WT hs6=>?_⟩;have sP:=(hM6.call iY kK).step WT;refine I3 (DU sP.pw sfP.w (by simp only[Qi,Ud]; decide) (by simp only[Qi,Ud]; decide)) ?_;rintro e3 dW ⟨jR,hy5⟩;refine⟨jR,sP.kept hy5 hs6,λSM eB=>⟨rfl,m,?_⟩⟩;have hE:Th W c=Qg (XW (YM W c) (Jh W c) (Q7 (YM W c) (Jh W c)).group c):=by unfold Th; rw[B' g5]
   rw[hE];exact((sP.call hy5 hs6).step eB).close.done
  ·have g5 : Jh W c < 0 := by have:U0 (YM W c) c<0:=by simpa using g5
                              exact this
   have hE:Th W c=YM W c:=by unfold Th; rw[C' g5]
   rw[hE];exact(hM5.step oQ).close.done
theorem B4{c:Int}(h:XE [] w W m)(hl:Ua W)(hg:K7 w) :
  Cz VS #[.agg (Qb W m).toArray,I c] w λe w'=>∃v,e=.returned v/\QR (YY W (P5 W c) (Th W c)) w v w':=by
 refine FN _ _ _ _ _ _ _ _ _ _ c (R:=λv w'=>QR (YY W (P5 W c) (Th W c)) w v w') ?_;intro x hx b1 wb hxw cJ sS hn1 b2 bR;refine⟨c,U2 sS hn1 (k0:=0) rfl,λwr RZ hs=>?_⟩;have hX:Q0 [] w wr:=hxw.fresh RZ λy hy=>.inl (Bj hy hx)
 have hc2:=QB sS RZ hn1
 refine I3 (zly (up:=true) (last:=0) (W':=Th W c) (c:=c) (h.ext hX) hl (hg.ext hX) (λbase pb w1 m1 hW hP=>.inl ⟨VD,_,rfl,(zun (bs:=[]) w1 (Q0.refl _ _)).mono λe w2 ⟨he,hx⟩=>⟨.inr ⟨rfl,he⟩,hx⟩⟩)
  λbase pb w1 m1 hW hb R6 hbs hpb hP=>.inl ⟨J1,_,rfl,zdt hP hl hW hb λw9 W9 m9 hM9=>U2 (zz9 hP (Nat.lt_of_lt_of_le (JG hc2) hbs) hpb (QB hc2 R6 Qs) hM9) Qs (k0:=0) rfl⟩) ?_
 rintro e wv ⟨v,he,n',m',hv,hM,hy⟩;subst hv;refine⟨_,_,_,_,_,_,_,_,_,_,_,he,Qf hy hs,λI' SK=>⟨n',m',rfl,(hM.ext SK λy hy hm=>?_).mono hX.size,(hX.trans hy).fresh SK λy hm=>?_⟩⟩
 ·have:=(hM.lt y hy).1;have:=hs y hm;omega
 ·simp only[Ii,List.not_mem_nil,or_false] at hm;rcases hm with rfl | rfl
  ·exact .inl hx
  ·exact .inl (IB hxw.size bR)
end
end Go.Proofs.YtnclplgaicdapaaGreatDoor
