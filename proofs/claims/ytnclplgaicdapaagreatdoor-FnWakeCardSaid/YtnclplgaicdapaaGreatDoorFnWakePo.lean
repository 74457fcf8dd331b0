/- Part 15 of what the law FnWake needs. -/
import Derived.Test.YtnclplgaicdapaaGreatDoorFnWakePn
set_option linter.unusedVariables false
set_option linter.unusedSimpArgs false
set_option maxRecDepth 100000
set_option maxHeartbeats 8000000
namespace Go.Proofs.YtnclplgaicdapaaGreatDoor
open Go.RowKit
def P6(W:Q8)(c:Int):Int:=if Xp W c=false then 1 else if (gi W.ID c).cur<0 then 6 else 0
theorem z2w{W:Q8}{c:Int}(h:P6 W c=0):Xp W c=true/\0<=(gi W.ID c).cur:=by
 unfold P6 at h
 split at h
 ·cases h
 ·rename_i h1
  split at h
  ·cases h
  ·exact⟨by simpa using h1,Qo⟩
section
variable {W:Q8}{m:MW}{w:Wo}{bs:List Nat}
theorem Bs{c:Int}(h:XF [] w W m)(hl:UG W) :
  Cz T8 #[.agg (Qb W m).toArray,I c] w λe w'=>∃v,e=.returned v/\QL (Yv W (P6 W c) (Rp W c)) w v w':=by
 refine B9 _ _ _ _ _ _ _ _ _ _ c (R:=λv w'=>QL (Yv W (P6 W c) (Rp W c)) w v w') ?_;intro y hy y1 aR;have hm0:=J5;have hlc:=hl.c;refine⟨_,US h hl.c hl.t hl.g hl.f,λg wr hx=>QL.bad (by simpa using g) hx,λg wr R0 SR=>?_⟩;have hW:QB W=true:=by simpa using g
 have wp:=Qm.1 hW;refine I3 (Mq (h.ext R0) wp.a) ?_;rintro e wv ⟨m',he,hM,Sm⟩;have hK:=Wk.begin hy aR R0 SR hM Sm;have hr:=hK.rd;refine⟨_,_,_,_,_,_,_,_,_,_,he,Qf Sm SR,⟨Qo,Qo⟩,Xp W c,Qu,λg I' R3=>?_,λg=>?_⟩
 ·have hb:P6 W c=1:=by unfold P6; rw[C' (by simpa using g)]
  exact QL.no hW (by rw[hb]; decide) (hK.step R3) hb
 have g:Xp W c=true:=by simpa using g
 obtain⟨c0,c1⟩:=Tz g;refine⟨hr.c.ix Yh c0 c1,_,hr.c.f c0 c1 (j:=1) rfl,λg2 O' R3=>?_,λg2 Rn Si fT=>?_⟩
 ·have g2:=Ot g2;have hb:P6 W c=6:=by unfold P6; rw[B' (by rw[g]; decide),C' g2]
  exact QL.no hW (by rw[hb]; decide) (hK.step R3) hb
 have g2:=Ou g2;have hb:P6 W c=0:=by unfold P6; rw[B' (by rw[g]; decide),B' g2]
 have fN:=hK.step Si;refine I3 (ZG fN.own c0 c1) ?_;rintro e1 R1 ⟨eH,dG⟩;exact⟨_,_,_,_,_,_,_,_,_,_,eH,fN.kept dG fT,λRE Sb=>QL.ok hW hb ((fN.Sl dG fT).step Sb)⟩
theorem zto(V:Q8)(t g c:Int)(m:MW):Qb (Uq V t g c) m=Qb V m:=by
 unfold Uq
 split <;> simp[Qb,Rp,Se,IM]
theorem zws{K:Int}{W:Q8}(sw:SW K W){t:Int}(t0:0<=t)(t1:t<12)(n:(Q6 W t).state≠0):SW K (QF W t):=by
 unfold QF;split
 ·have:=sw.t t t0 t1 n;exact sw.Rp this.2.1 this.2.2
 ·exact sw
theorem Ge{t g:Int}(h:XF [] w W m)(hl:UG W) :
  Cz V4 #[.agg (Qb W m).toArray,I t,I g] w λe w'=>∃v,e=.returned v/\QL (Yv W (Td W t g) (Li W t g)) w v w':=by
 refine j9 _ _ _ _ _ _ _ _ _ _ t g (R:=λv w'=>QL (Yv W (Td W t g) (Li W t g)) w v w') ?_;intro y hy y1 aR wr R0 SR;refine I3 (Zi (h.ext R0) hl) ?_;rintro e wv (⟨hW,he,Sm⟩ | ⟨hW,m',he,hM,Sm⟩)
 ·exact⟨_,_,_,_,_,_,_,_,_,_,_,he,Qf Sm SR,λ_ I' R3=>QL.bad hW ((R0.trans Sm).fresh R3 λz hm=>.inl (X4 hy aR z hm)),λg=>by simp at g⟩
 have hK:=Wk.begin hy aR R0 SR hM Sm;have hr:=hK.rd;have wp:=Qm.1 hW;have fZ:=wp.a.t;refine⟨_,_,_,_,_,_,_,_,_,_,_,he,Qf Sm SR,λg=>by split at g <;> simp at g,λ_=>⟨_,Ug hr hl.t,_,λ_=>XB hr.g,λq O' R3=>?_,λq=>?_⟩⟩
 ·have hb:Td W t g=2:=by
   unfold Td;rw[C']
   simpa using q
  exact QL.no hW (by rw[hb]; decide) (hK.step R3) hb
 simp only[H',I6] at q;obtain⟨q1,q2⟩:=q;have n1:¬(Z4 W t=false\/Q7 W.IC g=false):=by rw[q1,q2]; simp
 obtain⟨t0,t1,tn⟩:=Y0 q1;have W8:=hr.t.ix QG t0 t1;refine⟨λg3 Rn R3=>?_,λg3=>?_⟩
 ·have bQ:¬QK W=true:=λhr=>by rw[C' hr] at g3; simp at g3
  have hb:Td W t g=10:=by unfold Td; rw[B' n1,C' (by simpa using bQ)]
  rw[B' bQ];exact QL.no hW (by rw[hb]; decide) (hK.step R3) hb
 have bQ:QK W=true:=Iq λhr=>by rw[B' hr] at g3; simp at g3
 have hb:Td W t g=0:=by unfold Td; rw[B' n1,B' (by rw[bQ]; decide)]
 have sw:=Mi wp (Qm.1 bQ);obtain⟨hu,c0,c1⟩:=sw.t t t0 Qo tn;refine⟨W8,_,_,_,_,_,_,_,_,_,hr.t t t0 t1,λb2 bR=>⟨λg4 Rn Si=>?_,λg4=>?_⟩⟩
 ·have g4:(Q6 W t).group=g:=by simpa[Q6] using g4
  have hE:Li W t g=W:=by unfold Li; rw[C' g4]
  have:=QL.ok (W':=Li W t g) hW hb (m':=m') (hE.symm▸hK.step Si)
  rwa[hE] at this ⊢
 have g4:¬(Q6 W t).group=g:=by simpa[Q6] using g4
 have hE:Li W t g=Qh (Uq (QF W t) t g (Kl W t g)):=by unfold Li; rw[B' g4]
 obtain⟨m0,m1,_⟩:=zl6 wp (g:=g) t0 Qo tn;have hK0:=hK.add bR;refine⟨_,JK hr wp.a.c2 wp.a.tree q2,λvs bs w1=>bs=[]/\vs=[I (Kl W t g)]/\Q0 [y,y1] wv w1,⟨_,Ya,λg5=>⟨_,Lc,λRE Sb _=>⟨rfl,?_,Sb⟩⟩,λg5 RP Wt _=>⟨rfl,?_,Wt⟩⟩,?_⟩
 ·have g5:¬Z1 (Qn W g (Q6 W t).mask) (Q6 W t).J'=true:=by simpa[Q6] using g5
  unfold Kl; rw[B' g5]; rfl
 ·have g5:Z1 (Qn W g (Q6 W t).mask) (Q6 W t).J'=true:=by simpa[Q6] using g5
  unfold Kl; rw[C' g5]; rfl
 rintro cv R1 dZ ⟨-,hv,hxv⟩;simp only[I4,I5,true_and,and_true] at hv;subst hv;have Cs3:Q0 ([y,y1]++[b2]) wv R1:=hxv.mono λx hm=>Ia _ hm
 have hK1:=hK0.step Cs3;have e5:Qb (Rp W (Q6 W t).J') m'=Qb W m':=by simp[Qb,Rp,Se]
 refine⟨λvs bs w1=>bs=[]/\vs=Qb W m'/\Wk 8 ([y,y1]++[b2]) w w1 (QF W t) m',⟨hK1.rd.c.ix Yh c0 c1,_,hK1.rd.c.f c0 c1 (j:=1) rfl,λg6 Sn dK hs7=>?_,λg6 Ww kS _=>⟨rfl,rfl,?_⟩⟩,?_⟩
 ·have g6:(gi W.ID (Q6 W t).J').cur=t:=by simpa using g6
  have gV:=hK1.step dK;refine I3 (ZG gV.own c0 c1) ?_;rintro e1 Rr ⟨eH,dG⟩;rw[show Qb (Rp W (gi W.tasks t).J') m'=Qb W m' from e5] at eH;refine⟨_,_,_,_,_,_,_,_,_,_,eH,gV.kept dG hs7,λSL nQ _=>⟨rfl,rfl,?_⟩⟩;have hlv:QF W t=Rp W (Q6 W t).J':=by unfold QF; rw[C' g6]
  rw[hlv];exact(gV.Sl dG hs7).step nQ
 ·have g6:¬(gi W.ID (Q6 W t).J').cur=t:=by simpa using g6
  have hlv:QF W t=W:=by unfold QF; rw[B' g6]
  rw[hlv];exact hK1.step kS
 rintro l RV Sa Sg S3 Sd Sf S4 S5 S8 RO gI ⟨-,hv,rY⟩;simp only[Qb,I4,I5,Iv,true_and,and_true] at hv;obtain⟨rfl,⟨rfl,rfl,rfl⟩,⟨rfl,rfl,rfl⟩,rfl,rfl,rfl⟩:=hv;have swl:=zws sw t0 Qo tn;have ht:(QF W t).tasks=W.tasks:=by unfold QF; split <;> rfl
 have hg:(QF W t).IC=W.IC:=by unfold QF; split <;> rfl
 have tL:(QF W t).ID.length=W.ID.length:=by
  unfold QF; split
  ·exact E'
  ·rfl
 have hn:(QF W t).now=W.now:=by unfold QF; split <;> rfl
 have eL:∀mm,Qb (QF W t) mm=Qb W mm:=λmm=>by simp[Qb,ht,hg,tL,hn]
 have tn2:(Q6 (QF W t) t).state≠0:=by rw[Ju ht]; exact tn
 have hu2:Q7 (QF W t).IC g=true:=by rw[hg]; exact q2
 have hm1:Kl W t g<((QF W t).ID.length:Int):=by rw[tL]; exact m1
 rw[hE];generalize QF W t=V at rY swl eL tn2 hu2 hm1;generalize Kl W t g=c at m0 hm1;intro S9 AD8 nP;have fN:=rY.step AD8;have Rt:=VB fN.own (Kt swl) (I2 _) (by simp only[Qj]; decide) (t:=t) (g:=g) (c:=c) t0 Qo tn2 hu2 m0 hm1;rw[eL] at Rt;refine I3 Rt ?_;rintro e2 aE ⟨aM,fL⟩;have fG:=fN.Sl fL nP;have sf2:=(BU (Kt swl) (I2 _) (t:=t) t0 Qo hu2 m0 hm1).2;have eP:Qb (Uq V t g c) m'=Qb W m':=by rw[<-eL]; exact zto V t g c m'
 refine⟨_,_,_,_,_,_,_,_,_,_,aM,fN.kept fL nP,λSh AT0 AD6=>?_⟩;have vR:=fG.step AT0;have uG:=Qy vR.own sf2.w (by simp only[Qj]; decide) (by simp only[Qj]; decide) vR.base;rw[eP] at uG;refine I3 uG ?_;rintro e3 cQ ⟨m2,fS,hy5⟩;exact⟨_,_,_,_,_,_,_,_,_,_,fS,vR.kept hy5 AD6,λSo wS=>QL.ok hW hb ((vR.Sl hy5 AD6).step wS)⟩
theorem zan{g:Int}(h:XF bs w W m)(hg8:W.IC.length=8)(CB3:W.tasks.length=12) :
  PX bs OL #[.agg (Qb W m).toArray,I g] w (.bool (Ul (zvb W g))):=
 za4 _ _ _ _ _ _ _ _ _ _ g λwr hx=>by
  have h:=(h.ext hx).less (cs:=[]) Qs;intro b hb;refine J1 8 1 rfl (λk=>1<=k/\k<=8/\∀j:Int,1<=j->j<(k:Int)->¬((gi W.IC j).used=true/\(gi W.IC j).parent=g)) ⟨Qo,Qo,λj a b=>by omega⟩ λk ⟨hk1,hk8,iQ⟩=>⟨λIT=>?_,λRC=>?_⟩
  ·have IT:=Ot IT;have k0:(0:Int)<=(k:Int):=Qo;refine⟨h.g.ix k0 IT,_,h.g.used k0 IT,λ_=>h.g.ix k0 IT,_,λ_=>h.g.parent k0 IT,λq=>?_,λq=>⟨⟨Qo,Qo⟩,QH Qo ⟨Qo,Qo,λj a b=>?_⟩⟩⟩
   ·rw[A',Is] at q;exact zpd (.inl ⟨(k:Int),Qo,Qo,q.1,q.2⟩)
   ·by_cases e:j<(k:Int)
    ·exact iQ j a e
    ·have:j=(k:Int):=Qo;subst this;rintro⟨q1,q2⟩;rw[q1,Is.2 q2] at q;cases q
  ·have RC:=Ou RC;refine J1 12 0 rfl (λk=>k<=12/\∀j:Int,0<=j->j<(k:Int)->¬((Q6 W j).state≠0/\(Q6 W j).group=g)) ⟨Qo,λj a b=>by omega⟩ λk2 ⟨tN,hnt⟩=>⟨λRw=>?_,λbP=>?_⟩
   ·have Rw:=Ot Rw;have k0:(0:Int)<=(k2:Int):=Qo;refine⟨h.t.ix QG k0 Rw,_,h.t.f k0 Rw (j:=0) rfl,λ_=>h.t.ix QG k0 Rw,_,λ_=>h.t.f k0 Rw (j:=1) rfl,λq=>?_,λq=>⟨⟨Qo,Qo⟩,QH Qo ⟨Qo,λj a b=>?_⟩⟩⟩
    ·rw[A',Is,It] at q;exact zpd (.inr ⟨(k2:Int),Qo,Qo,q.1,q.2⟩)
    ·by_cases e:j<(k2:Int)
     ·exact hnt j a e
     ·have:j=(k2:Int):=Qo;subst this;rintro⟨q1,q2⟩;have q1:(gi W.tasks (k2:Int)).state≠0:=q1;have q2:(gi W.tasks (k2:Int)).group=g:=q2;rw[It.2 q1,Is.2 q2] at q;cases q
   ·have bP:=Ou bP;refine GB ?_;rintro (⟨j,a,b,c,d⟩ | ⟨j,a,b,c,d⟩)
    ·exact iQ j a Qo ⟨c,d⟩
    ·exact hnt j a Qo ⟨c,d⟩
theorem A5{g:Int}(h:XF [] w W m)(hl:UG W) :
  Cz TK #[.agg (Qb W m).toArray,I g] w λe w'=>∃v,e=.returned v/\QL (Yv W (NK W g) (Jr W g)) w v w':=by
 refine NQ _ _ _ _ _ _ _ _ _ _ g (R:=λv w'=>QL (Yv W (NK W g) (Jr W g)) w v w') ?_;intro x hx x1 RR wr R0 SR;refine I3 (VU (g:=g) (ok:=true) (h.ext R0) hl) ?_;rintro e wv (⟨hW,he,hy⟩ | ⟨hW,m',he,hM,hy⟩)
 ·exact⟨_,_,_,_,_,_,_,_,_,_,_,he,Qf hy SR,λ_ I' R3=>QL.bad hW ((R0.trans hy).fresh R3 λy hm=>.inl (X4 hx RR y hm)),λg=>by simp at g⟩
 have hK:=Wk.begin hx RR R0 SR hM hy;have hr:=hK.rd;have wp:=Qm.1 hW;refine⟨_,_,_,_,_,_,_,_,_,_,_,he,Qf hy SR,λg1 I' R3=>?_,λg1=>⟨_,zan hr wp.a.gl wp.a.t,λg2 O' R3=>?_,λg2=>⟨λg3 Rj R3=>?_,λg3=>?_⟩⟩⟩
 ·have hb:NK W g=KI W g true:=by
   by_cases h0:g=0
   ·unfold NK KI;rw[C' h0,C' (.inr h0)]
   ·have e0:¬(true=false\/g=0):=by simp[h0]
    by_cases h1:Q7 W.IC g=false
    ·unfold NK KI;rw[B' h0,B' e0,C' h1,C' h1]
    ·exfalso
     unfold KI at g1;rw[B' e0,B' h1] at g1
     split at g1 <;> simp at g1
  exact QL.no hW (λh0=>by rw[<-hb,h0] at g1; simp at g1) (hK.step R3) hb
 all_goals
  have g1':¬g=0/\¬Q7 W.IC g=false:=by
   unfold KI at g1
   by_cases h0:g=0
   ·rw[C' (.inr h0)] at g1; simp at g1
   ·refine⟨h0,λh1=>?_⟩;rw[B' (show ¬(true=false\/g=0) by simp[h0]),C' h1] at g1;simp at g1
  have hgB:KI W g true=if QK W=false then 10 else 0:=by
   unfold KI;rw[B' (show ¬(true=false\/g=0) by simp[g1'.1]),B' g1'.2]
 ·have hb:NK W g=4:=by unfold NK; rw[B' g1'.1,B' g1'.2,C' g2]
  exact QL.no hW (by rw[hb]; decide) (hK.step R3) hb
 ·have bQ:QK W=false:=by
   cases hq:QK W with
   | false=>rfl
   | true=>rw[hgB,hq] at g3; simp at g3
  have hb:NK W g=10:=by unfold NK; rw[B' g1'.1,B' g1'.2,B' (by rw[g2]; decide),C' bQ]
  rw[hgB,C' bQ];exact QL.no hW (by rw[hb]; decide) (hK.step R3) hb
 ·have bQ:QK W=true:=by
   cases hq:QK W with
   | true=>rfl
   | false=>rw[hgB,hq] at g3; simp at g3
  have hb:NK W g=0:=by unfold NK; rw[B' g1'.1,B' g1'.2,B' (by rw[g2]; decide),B' (by rw[bQ]; decide)]
  have hu:Q7 W.IC g=true:=by simpa using g1'.2
  obtain⟨u0,u1,_⟩:=Q4.1 hu;have dD:=wp.a.gl
  have Sk:Wk 8 [x,x1] w (R5 wv m'.gO (Int.toNat g*14) (YE zga zat)) (Jr W g) (GJ m' g.toNat zat):=
   ⟨hK.s.call zbf λy hy=>(hK.own.lt y hy).1,⟨hK.own.Bk5 u0 Qo (g:=zga) (p:=zat) (j:=0) (vs:=YE zga zat) ⟨.inl ⟨rfl,rfl,rfl⟩,.inl ⟨rfl,rfl,rfl⟩,.inl ⟨rfl,rfl,rfl⟩⟩ (λy hy=>by simp[Qv,zat,QM] at hy) (by simp[YE]) (by simp[YE]),λy hy hm=>by
    rcases P1 y hy with h1 | h1
    ·exact hK.nb y h1 hm
    ·simp[Qv,zat,QM] at h1⟩⟩
  refine⟨hr.g.ix u0 u1,zs7 hK.own hK.nb u0 Qo (j:=0) Qd,λRn Si=>?_⟩;have Ax6:=QL.ok hW hb (Sk.step Si);have ew:Qb (Jr W g) (GJ m' g.toNat zat)=Qb W m':=by simp[Qb,Jr,Rm,GJ]
  rw[ew] at Ax6;have hgz:KI W g true=0:=by rw[hgB,B' (by rw[bQ]; decide)]
  exact Ax6
end
theorem zzw{V:Q8}(ha:WA V):UG V:=by
 have h1:=ha.c2;have h2:=ha.t;have h3:=ha.gl;have hm:=Zg;have hn1:=ha.n1;have hn2:=ha.n2;refine⟨Qo,Qo,Qo,λi a b=>?_⟩;have hb:=GW ha a Qo;have hg:=ha.grp i a Qo;have hz:(⟨[].toArray⟩:ByteArray).size=0:=rfl;refine⟨?_,?_,Qo,Qo,Qo⟩
 ·cases hu:(gi V.IC i).used with
  | false=>rw[(hg.1 hu).n,hz]; omega
  | true=>
   by_cases e:i=0
   ·rw[e,ha.tree.rn,hz]; omega
   ·have:=(LY.1 (ha.tree.nm i Qo Qo hu)).1;omega
 cases hu:(gi V.IC i).used with
 | false=>rw[(hg.1 hu).ne]; exact⟨Qd,Qd⟩
 | true=>
  have hg:=hg.2 hu
  by_cases hq:(gi V.IC i).IS.IX=0
  ·rw[(hg.none hq).2.2]; exact⟨Qd,Qd⟩
  ·have:=hg.IS hq;exact⟨Qo,Qo⟩
theorem Ho{n:Nat}{p:Int}{name:ByteArray}{w:Wo}(hn:n<=4) :
  Cz VO #[I (n:Int),I p,.string name] w λe w'=>∃mg,e=.returned (.agg (YE (Mr n p name) mg).toArray)/\Mj w.heap.size w' (Mr n p name,mg)/\Q0 [] w w':=by
 refine(zdi (n:Int) p name (R:=λv w'=>∃mg,v=.agg (YE (Mr n p name) mg).toArray/\Mj w.heap.size w' (Mr n p name,mg)/\Q0 [] w w') ?_).mono λe w' ⟨v,he,mg,hv,h3⟩=>⟨mg,by rw[he,hv],h3⟩
 intro b hb b1 fQ
 refine⟨λvs w2=>∃(k:Nat) (o:OA) (cap:Nat),vs=[I (k:Int),.bool true,I p,.string name,I 10,I 15,I 0,I 0,I 0,I 0,I 0,I 0,.slice none 0 0,.slice none 0 0,.slice o k cap]/\k<=n/\Sc w [b,b1] w2/\Ob MH 5 X5 w.heap.size [b,b1] w2 o cap (List.replicate k zh4),
  Zx n 0,λwr hx _=>⟨0,none,0,rfl,Ic _,(((Sc.start w).add hb).add fQ).M' hx,⟨.inl ⟨rfl,rfl,rfl⟩,by simp[QM]⟩⟩,?_⟩
 rintro c1 l l1 l2 l3 l4 l5 l6 l7 l8 l9 l10 nV nU nT AO5 AO4 AO3 AO7 vW AO6 wv SR ⟨k,o,cap,he,hk,s1,hO⟩;simp only[I4,I5,Value.bool.injEq,Value.string.injEq,Iv,true_and,and_true] at he;obtain⟨rfl,rfl,rfl,rfl,rfl,rfl,rfl,rfl,rfl,rfl,rfl,rfl,⟨rfl,rfl,rfl⟩,⟨rfl,rfl,rfl⟩,rfl,rfl,rfl⟩:=he;refine⟨λIT=>?_,λRC=>?_⟩
 ·have IT:=Ot IT;intro b3 wC Rj R3 gI SO;have s2:=s1.put R3 wC;have nN:=hO.put R3 wC;obtain⟨o2,c2,w2,Ws,hk2,hO3,R0⟩:=nN.AR2 Mu M5 (x:=zh4) gI s2.ext.size SO (z2l _) (by simp; omega) Qd Zb #[false,false];have s3:=s2.call R0 λx hm=>(nN.own.lt x hm).1
  have hL:List.replicate vW zh4++[zh4]=List.replicate (vW+1) zh4:=by rw[List.replicate_succ']
  rw[hL] at Ws hO3;rw[List.length_replicate,List.length_replicate] at Ws;exact⟨_,_,_,w2,Ws,hk2,⟨Qo,Qo⟩,λRn Si _=>⟨⟨vW+1,o2,c2,Qs,Qo,(s3.step Si).sub Qs,(hO3.step Si).sub Qs⟩,ZE (k:=vW) rfl rfl Qo⟩⟩
 ·have RC:=Ou RC;have:vW=n:=Qo;subst this;intro RE Sb;refine⟨⟨none,0,none,0,AO7,AO6⟩,?_,⟨.inl ⟨rfl,rfl,rfl⟩,.inl ⟨rfl,rfl,rfl⟩,(hO.step Sb).own⟩,(s1.step Sb).ext⟩;simp[YE,Mr,ZF]
theorem z3r:QS≠ZB:=Qd
theorem z01:QW≠ZB:=Qd
theorem z3q:QW≠QS:=Qd
theorem Bj{i:Int}(h0:0<=i)(h1:i<8):gi (List.replicate 8 PL) i=PL:=by
 obtain⟨k,rfl⟩:=Int.eq_ofNat_of_zero_le h0;rw[Tj (by rw[List.length_replicate]; omega)];exact List.getElem_replicate _
theorem zuh{base:Nat}{w:Wo}{o:OA}{cap:Nat}(h:Vi Oz 14 QW base w o cap (List.replicate 8 PL)):LA base w o cap (List.replicate 8 PL):=by
 refine⟨h,λi h0 h1=>?_,λi j h0 h1 _ _ _ x hm=>?_⟩
 ·rw[Bj h0 (by simpa using h1)];exact⟨.inl ⟨rfl,rfl,rfl⟩,.inl ⟨rfl,rfl,rfl⟩,.inl ⟨rfl,rfl,rfl⟩⟩
 ·rw[Bj h0 (by simpa using h1)] at hm;simp[Qv,PL,QM] at hm
section
variable {w:Wo}{b:Nat}
def z4c(b:Nat)(w:Wo)(vs:List Va)(bs:List Nat)(w2:Wo):Prop:=
 ∃(bx:Nat) (tO gO:OA) (tC gC:Nat),bs=[bx]/\vs=[I 0,.slice none 0 0,.slice tO 12 tC,.slice gO 8 gC]/\Sc w [b,bx] w2/\Ob Xq 9 QS w.heap.size [b,bx] w2 tO tC (List.replicate 12 Ow)/\Ob Oz 14 QW w.heap.size [b,bx] w2 gO gC (List.replicate 8 PL)
theorem zw1{bs:List Nat}{w1:Wo}(s:Sc w bs w1)(hs:∀x∈bs,x<w1.heap.size):∃(o:OA) (c:Nat) (w2:Wo),(Instr.makeSlice Z5 (I 12) (I 12):Sem Va).run Tryz.prog w1=.ok (.slice o 12 c) w2/\Q9 bs w1 w2/\Q0 [] w1 w2/\Ob Xq 9 QS w.heap.size bs w2 o c (List.replicate 12 Ow):=
 ⟨_,_,_,KS MF Kf 12 Qd (by have:=Zg; omega) w1,Qf (Z9 _ _) hs,Z9 _ _,(Ob.of (VD (enc:=Xq) MF.len QS 12 Ow w1) hs).mono s.ext.size⟩
theorem zw0{bs:List Nat}{w1:Wo}(s:Sc w bs w1)(hs:∀x∈bs,x<w1.heap.size):∃(o:OA) (c:Nat) (w2:Wo),(Instr.makeSlice QD (I 8) (I 8):Sem Va).run Tryz.prog w1=.ok (.slice o 8 c) w2/\Q9 bs w1 w2/\Q0 [] w1 w2/\Ob Oz 14 QW w.heap.size bs w2 o c (List.replicate 8 PL):=
 ⟨_,_,_,KS Yy M4 8 Qd (by have:=Zg; omega) w1,Qf (Z9 _ _) hs,Z9 _ _,(Ob.of (VD (enc:=Oz) Yy.len QW 8 PL w1) hs).mono s.ext.size⟩
theorem zal{n:Nat}(n0:1<=n)(n1:n<=4) :
  Cz OJ #[I (n:Int)] w λe w'=>∃m,e=.returned (.tuple #[.agg (Qb (UE n) m).toArray,.bool true])/\Zj 8 w.heap.size w' (UE n) m/\Q0 [] w w':=by
 refine(y7 (n:Int) (R:=λv w'=>∃m,v=.tuple #[.agg (Qb (UE n) m).toArray,.bool true]/\Zj 8 w.heap.size w' (UE n) m/\Q0 [] w w') ?_).mono λe w' ⟨v,he,m,hv,h3⟩=>⟨m,by rw[he,hv],h3⟩
 intro b hb;have mG:X6 (n:Int) 1 4=true:=Qx.2 ⟨Qo,Qo⟩;have s0:Sc w [b] w:=(Sc.start w).add hb;refine⟨_,Qu,λg=>(by rw[mG] at g; cases g),λ_=>⟨z4c b w,?_,?_⟩⟩
 ·refine⟨λI' RR dZ=>?_,λRP Wt tP=>?_,λb5 hb5=>⟨λSh AT0 AD6=>?_,λWn BB7 Cr0=>?_⟩⟩
  ·have s1:=s0.M' RR;obtain⟨tO,tC,w2,hr,hk,he,hT⟩:=zw1 s1 dZ;have s2:=s1.M' he;refine⟨_,_,_,w2,hr,hk,λO' R0 SR=>?_,λb2 bR Rn Si fT=>?_⟩
   ·have s3:=s2.step R0;obtain⟨gO,gC,w3,hr3,hk3,fS,hG⟩:=zw0 s3 SR;exact⟨_,_,_,w3,hr3,hk3,λb1 fQ Rj R3 _=>⟨b1,tO,gO,tC,gC,rfl,rfl,(s3.M' fS).put R3 fQ,((hT.step R0).M' fS).put R3 fQ,hG.put R3 fQ⟩⟩
   ·have s3:=s2.put Si bR;obtain⟨gO,gC,w3,hr3,hk3,fS,hG⟩:=zw0 s3 fT;exact⟨_,_,_,w3,hr3,hk3,λRE Sb _=>⟨b2,tO,gO,tC,gC,rfl,rfl,(s3.M' fS).step Sb,((hT.put Si bR).M' fS).step Sb,hG.step Sb⟩⟩
  ·have s1:=s0.M' Wt;obtain⟨gO,gC,w2,hr,hk,he,hG⟩:=zw0 s1 tP;have s2:=s1.M' he;refine⟨_,_,_,w2,hr,hk,λO' R0 SR=>?_,λb2 bR Rn Si fT=>?_⟩
   ·have s3:=s2.step R0;obtain⟨tO,tC,w3,hr3,hk3,fS,hT⟩:=zw1 s3 SR;exact⟨_,_,_,w3,hr3,hk3,λb1 fQ Rj R3 _=>⟨b1,tO,gO,tC,gC,rfl,rfl,(s3.M' fS).put R3 fQ,hT.put R3 fQ,((hG.step R0).M' fS).put R3 fQ⟩⟩
   ·have s3:=s2.put Si bR;obtain⟨tO,tC,w3,hr3,hk3,fS,hT⟩:=zw1 s3 fT;exact⟨_,_,_,w3,hr3,hk3,λRE Sb _=>⟨b2,tO,gO,tC,gC,rfl,rfl,(s3.M' fS).step Sb,hT.step Sb,((hG.put Si bR).M' fS).step Sb⟩⟩
  ·have s1:=(s0.add hb5).M' AT0;obtain⟨tO,tC,w2,hr,hk,he,hT⟩:=zw1 s1 AD6;refine⟨_,_,_,w2,hr,hk,λO' R0 SR=>?_⟩;have s3:=(s1.M' he).step R0;obtain⟨gO,gC,w3,hr3,hk3,fS,hG⟩:=zw0 s3 SR;exact⟨_,_,_,w3,hr3,hk3,λRE Sb _=>⟨b5,tO,gO,tC,gC,rfl,rfl,(s3.M' fS).step Sb,((hT.step R0).M' fS).step Sb,hG.step Sb⟩⟩
  ·have s1:=(s0.add hb5).M' BB7;obtain⟨gO,gC,w2,hr,hk,he,hG⟩:=zw0 s1 Cr0;refine⟨_,_,_,w2,hr,hk,λO' R0 SR=>?_⟩;have s3:=(s1.M' he).step R0;obtain⟨tO,tC,w3,hr3,hk3,fS,hT⟩:=zw1 s3 SR;exact⟨_,_,_,w3,hr3,hk3,λRE Sb _=>⟨b5,tO,gO,tC,gC,rfl,rfl,(s3.M' fS).step Sb,hT.step Sb,((hG.step R0).M' fS).step Sb⟩⟩
 ·rintro l RV Sa Sg S3 Sd Sf S4 S5 S8 b6 gU nP ⟨bx,tO,gO,tC,gC,hbx,hv,s1,hT,hG⟩;simp only[I4,I5,Iv,true_and,and_true] at hbx hv;subst hbx;obtain⟨rfl,⟨rfl,rfl,rfl⟩,⟨rfl,rfl,rfl⟩,rfl,rfl,rfl⟩:=hv
  refine⟨λvs w2=>∃(k:Nat) (o:OA) (cap:Nat),vs=[I (k:Int),I 0,.slice o k cap,.slice S3 12 Sf,.slice S4 8 S8]/\k<=n/\Sc w [b,b6] w2/\Ob DJ 5 ZB w.heap.size [b,b6] w2 o cap (List.replicate k (⟨true,-1,0,0,0⟩:KV))/\Ob Xq 9 QS w.heap.size [b,b6] w2 S3 Sf (List.replicate 12 Ow)/\Ob Oz 14 QW w.heap.size [b,b6] w2 S4 S8 (List.replicate 8 PL),
   Zx n 0,λwr hx _=>⟨0,none,0,rfl,Ic _,s1.step hx,⟨.inl ⟨rfl,rfl,rfl⟩,by simp[QM]⟩,hT.step hx,hG.step hx⟩,?_⟩
  rintro c1 l4 mN jH mM mJ oW mH kM nX mO wv SR ⟨k,o,cap,he,hk,s2,hC,hT2,hG2⟩;simp only[I4,I5,Iv,true_and,and_true] at he;obtain⟨rfl,rfl,⟨rfl,rfl,rfl⟩,⟨rfl,rfl,rfl⟩,rfl,rfl,rfl⟩:=he;clear hT hG;refine⟨λIT=>?_,λRC=>?_⟩
  ·have IT:=Ot IT;intro b3 wC Rj R3 gI SO;have s3:=s2.put R3 wC;have hC2:=hC.put R3 wC;obtain⟨o2,c2,w2,Ws,hk2,hC3,R0⟩:=hC2.AR2 D9 KU (x:=(⟨true,-1,0,0,0⟩:KV)) gI s3.ext.size SO (z2j _) (by simp; omega) Qd Zt #[false,false];have s4:=s3.call R0 λx hm=>(hC2.own.lt x hm).1
   have hT3:=(hT2.put R3 wC);have hT4:Ob Xq 9 QS w.heap.size [b,b6,b3] w2 mJ mH (List.replicate 12 Ow):=⟨hT3.own.ext R0 (hT3.own.SU hC2.own z3r),hT3.nb⟩;have hG3:=(hG2.put R3 wC);have hG4:Ob Oz 14 QW w.heap.size [b,b6,b3] w2 kM mO (List.replicate 8 PL):=⟨hG3.own.ext R0 (hG3.own.SU hC2.own z01),hG3.nb⟩;have hL:List.replicate jH (⟨true,-1,0,0,0⟩:KV)++[⟨true,-1,0,0,0⟩]=List.replicate (jH+1) (⟨true,-1,0,0,0⟩:KV):=by rw[List.replicate_succ']
   rw[hL] at Ws hC3;rw[List.length_replicate,List.length_replicate] at Ws;exact⟨_,_,_,w2,Ws,hk2,⟨Qo,Qo⟩,λRn Si _=>⟨⟨jH+1,o2,c2,Qs,Qo,(s4.step Si).sub Qs,(hC3.step Si).sub Qs,(hT4.step Si).sub Qs,(hG4.step Si).sub Qs⟩,ZE (k:=jH) rfl rfl Qo⟩⟩
  ·have RC:=Ou RC;have:jH=n:=Qo;subst this;intro RE Sb hZ;have s3:=s2.step Sb;have hC3:=hC.step Sb;have hT3:=hT2.step Sb;have hG3:=hG2.step Sb;refine(Ho n1).mono λe w3 ⟨mg,he,hM,R3⟩=>?_
   have s4:=s3.M' R3;have hC4:=hC3.M' R3;have hT4:=hT3.M' R3;have hG4:=hG3.M' R3;have G:=zuh hG4.own
   have hmb:∀x∈Qv mg,x∉[b,b6]:=λx hm hx=>by
    have h1:=(hM.lt x hm).1;have h2:=hZ x hx;omega
   have P:=G.put (i:=0) (I2 _) Qs (p:=(Mr jH (-1) ⟨[].toArray⟩,mg)) (hM.mono s3.ext.size) λj j0 j1 _ x hm=>by
    rw[Bj j0 (by simpa using j1)] at hm;simp[Qv,PL,QM] at hm
   have hxs:=hG4.own.sV (Int.toNat 0*14) (Oz (Mr jH (-1) ⟨[].toArray⟩,mg));have s5:Sc w [b,b6] (R5 w3 kM (Int.toNat 0*14) (Oz (Mr jH (-1) ⟨[].toArray⟩,mg))):=⟨hG4.own.CW5 _ _ s4.ext (I7 _),s4.new⟩;have hC5:=hC4.own.ext hxs (hC4.own.SU hG4.own z01.symm);have hT5:=hT4.own.ext hxs (hT4.own.SU hG4.own z3q.symm);refine⟨_,_,_,_,_,_,_,_,_,_,_,_,_,_,_,_,_,_,_,_,he,Qf R3 hZ,rfl,hG4.own.ix (I2 _) Qs,hG4.own.wr Yy.len hG4.nb (i:=0) (j:=0) (I2 _) Qs Qd,λwr hx=>⟨⟨mN,mM,mJ,mH,kM,mO,λk=>if k=0 then mg else PL.2⟩,?_,⟨?_,?_,?_,rfl⟩,(s5.step hx).ext⟩⟩
   ·simp[Qb,UE]
   ·exact hC5.ext hx hC4.nb
   ·exact hT5.ext hx hT4.nb
   ·have hps:zsk (UE jH) ⟨mN,mM,mJ,mH,kM,mO,λk=>if k=0 then mg else PL.2⟩=(List.replicate 8 PL).set (Int.toNat 0) (Mr jH (-1) ⟨[].toArray⟩,mg):=rfl;rw[hps];refine⟨P.row.ext hx hG4.nb,λi i0 i1=>(P.each i i0 i1).ext hx λx hm=>?_,P.dj⟩;have hi8:i<8:=by simpa using i1
    have:=QO (List.replicate 8 PL) (Mr jH (-1) ⟨[].toArray⟩,mg) (i:=0) (j:=i) (I2 _) Qs i0;rw[this] at hm
    split at hm
    ·exact hmb x hm
    ·rw[Bj i0 hi8] at hm;simp[Qv,PL,QM] at hm
end
def OR(W:Q8)(j:Nat):Bool:=decide (1<=j) && !(gi W.IC (j:Int)).used
def TV(W:Q8):Int:=ES (OR W) 8
def z23(W:Q8)(p:Int)(name:ByteArray):Prop:=∃h:Int,1<=h/\h<8/\(gi W.IC h).used=true/\(gi W.IC h).parent=p/\(gi W.IC h).name=name
open Classical in
noncomputable def GA(W:Q8)(p:Int)(name:ByteArray):Int:=if UW name=false then 1 else if Q7 W.IC p=false then 2 else if z23 W p name then 7 else if dep 3 W.IC p=3 then 9 else if TV W<0 then 3 else if QK W=false then 10 else 0
def zwy(W:Q8)(p:Int)(name:ByteArray):Q8:=PM W (TV W) p name
theorem znr(W:Q8):(TV W = -1/\∀h:Int,1<=h->h<8->(gi W.IC h).used=true)\/(1<=TV W/\TV W<8/\(gi W.IC (TV W)).used=false):=by
 rcases L5 (OR W) 8 with ⟨h1,h2⟩ | ⟨h1,h2,h3,_⟩
 ·refine .inl ⟨h1,λh a b=>?_⟩;have:=h2 h.toNat Qo;unfold OR at this;rw[show ((h.toNat:Nat):Int)=h by omega,Ih (by omega:1<=h.toNat)] at this
  simpa using this
 ·have e:(((TV W).toNat:Nat):Int)=TV W:=by unfold TV; omega
  have h3:OR W (TV W).toNat=true:=h3;unfold OR at h3;rw[e,A',Ij,IB] at h3;refine .inr ⟨Qo,by unfold TV; omega,h3.2⟩
theorem zeu{W:Q8}{p:Int}{name:ByteArray}(hb:GA W p name=0):zge W (TV W) p name/\QK W=true:=by
 unfold GA at hb
 split at hb
 ·cases hb
 rename_i h1
 split at hb
 ·cases hb
 rename_i h2
 split at hb
 ·cases hb
 rename_i h3
 split at hb
 ·cases hb
 rename_i h4
 split at hb
 ·cases hb
 rename_i h5
 split at hb
 ·cases hb
 rename_i h6;rcases znr W with ⟨a,_⟩ | ⟨a,b,c⟩
 ·omega
 ·exact⟨⟨a,b,c,by simpa using h2,by simpa using h1,λh a1 a2 u e=>h3 ⟨h,a1,a2,u,e.1,e.2⟩,h4⟩,by simpa using h6⟩
section
variable {W:Q8}{m:MW}{w:Wo}
theorem L9{p:Int}{name:ByteArray}(h:XF [] w W m)(hl:UG W) :
  Cz QI #[.agg (Qb W m).toArray,I p,.string name] w λe w'=>∃v,e=.returned v/\O8 (J0 W (GA W p name) (zwy W p name) (TV W)) w v w':=by
 refine NR _ _ _ _ _ _ _ _ _ _ p name (R:=λv w'=>O8 (J0 W (GA W p name) (zwy W p name) (TV W)) w v w') ?_;intro y hy y1 aR wr R0 SR;refine I3 (Zi (h.ext R0) hl) ?_;rintro e wv (⟨hW,he,Sm⟩ | ⟨hW,m',he,hM,Sm⟩)
 ·exact⟨_,_,_,_,_,_,_,_,_,_,_,he,Qf Sm SR,true,λg=>by simp at g,λ_ I' R3=>O8.bad hW ((R0.trans Sm).fresh R3 λz hm=>.inl (X4 hy aR z hm)),λg=>by simp at g⟩
 have hK:=Wk.begin hy aR R0 SR hM Sm;have hr:=hK.rd;have wp:=Qm.1 hW;have dD:=wp.a.gl;have vS:((if QK W=true then 0 else 10:Int)==1)=false:=by split <;> rfl
 refine⟨_,_,_,_,_,_,_,_,_,_,_,he,Qf Sm SR,_,λ_=>Ef,λg1 I' R3=>?_,λg1=>⟨_,XB hr.g,λg2 O' R3=>?_,λg2=>?_⟩⟩
 ·rw[vS] at g1;have hb:GA W p name=1:=by unfold GA; rw[C' (by simpa using g1)]
  exact O8.no hW (by rw[hb]; decide) (hK.step R3) hb
 ·rw[vS] at g1;have n1:¬UW name=false:=by simpa using g1
  have hb:GA W p name=2:=by unfold GA; rw[B' n1,C' (by simpa using g2)]
  exact O8.no hW (by rw[hb]; decide) (hK.step R3) hb
 rw[vS] at g1;have n1:¬UW name=false:=by simpa using g1
 have hu:Q7 W.IC p=true:=by simpa using g2
 have n2:¬Q7 W.IC p=false:=by rw[hu]; decide
 refine⟨λvs w1=>∃k:Nat,vs=[I (k:Int),I 0,.slice none 0 0,.slice none 0 0,.slice none 0 0]/\1<=k/\k<=8/\(∀q:Int,1<=q->q<(k:Int)->(gi W.IC q).used=true->¬((gi W.IC q).parent=p/\(gi W.IC q).name=name))/\Q0 [y,y1] wv w1,
  Zx 8 0,λw1 tZ _=>⟨1,rfl,Qo,Qo,λq a b=>by omega,tZ⟩,?_⟩
 rintro h1 l RV Sa Sg S3 Sd Sf S4 S5 S8 Rr gI ⟨k,aM,hk1,hk8,iQ,hxw⟩;simp only[I4,I5,Iv,true_and,and_true] at aM;obtain⟨rfl,rfl,⟨rfl,rfl,rfl⟩,⟨rfl,rfl,rfl⟩,rfl,rfl,rfl⟩:=aM;have hK1:=hK.step hxw;have wE:=hK1.rd;refine⟨λIT=>?_,λRC=>?_⟩
 ·have IT:=Ot IT;have fH:(0:Int)<=(k:Int):=Qo;refine⟨wE.g.ix fH IT,_,wE.g.used fH IT,λ_=>wE.g.ix fH IT,_,λ_=>wE.g.parent fH IT,λ_=>wE.g.ix fH IT,_,λ_=>wE.g.name fH IT,λg3 RE Sb=>?_,λg3=>⟨⟨Qo,Qo⟩,λRP Wt _=>⟨⟨k+1,Qs,Qo,Qo,λq q1 q2 qu=>?_,hxw.trans Wt⟩,ZE (k:=k) rfl rfl Qo⟩⟩⟩
  ·rw[A',A',Vg,Is] at g3;have hb:GA W p name=7:=by unfold GA; rw[B' n1,B' n2,C' ⟨k,Qo,Qo,g3.1.1,g3.1.2,g3.2⟩]
   exact O8.no hW (by rw[hb]; decide) (hK1.step Sb) hb
  ·by_cases e:q<(k:Int)
   ·exact iQ q q1 e qu
   ·have:q=(k:Int):=Qo;subst this;rintro⟨c1,c2⟩;rw[qu,Is.2 c1,Vg.2 c2] at g3;cases g3
 have RC:=Ou RC;have:k=8:=Qo;subst this;have n3:¬z23 W p name:=λ⟨q,a,b,c,d,e⟩=>iQ q a Qo c ⟨d,e⟩
 refine⟨_,K6 wE.g (by rw[dD]; have:=Zg; omega),λg4 Sn dK=>?_,λg4=>⟨⟨Qo,Qo⟩,?_⟩⟩
 ·rw[zk8 wp.a.tree hu,Is] at g4;have hb:GA W p name=9:=by unfold GA; rw[B' n1,B' n2,B' n3,C' g4]
  exact O8.no hW (by rw[hb]; decide) (hK1.step dK) hb
 rw[zk8 wp.a.tree hu,beq_eq_false_iff_ne] at g4
 refine⟨λvs w1=>∃a t:Int,vs=[I a,I t]/\0<=t/\t<8/\(a = -1/\(∀j:Nat,t<(j:Int)->j<8->OR W j=false)\/t<a/\a<8/\OR W a.toNat=true/\∀j:Nat,t<(j:Int)->(j:Int)<a->OR W j=false)/\Q0 [y,y1] Rr w1,
  λvs _=>(ZP 1 vs+1).toNat,λw1 tZ _=>⟨-1,_,rfl,Qo,Qo,.inl ⟨rfl,λj h1 h2=>by omega⟩,tZ⟩,?_⟩
 rintro av tv RO fT ⟨a,t,aM,ht0,ht1,uH,CB7⟩;simp only[I4,I5,true_and,and_true] at aM;obtain⟨rfl,rfl⟩:=aM;have gV:=hK1.step CB7;have uJ:=gV.rd;refine⟨λIT=>?_,λbP=>?_⟩
 ·have IT:=Ot IT;have e:((tv.toNat:Nat):Int)=tv:=Qo;have gX:OR W tv.toNat = !(gi W.IC tv).used:=by unfold OR; rw[e,Ih (by omega:1<=tv.toNat)]; rfl
  refine⟨uJ.g.ix Qo Qo,_,uJ.g.used Qo Qo,λg3=>⟨⟨Qo,Qo⟩,λRE Sb _=>⟨⟨tv,tv-1,rfl,Qo,Qo,.inr ⟨Qo,ht1,by rw[gX]; exact g3,λj h1 h2=>by omega⟩,CB7.trans Sb⟩,?_⟩⟩,λg3=>⟨⟨Qo,Qo⟩,λRP Wt _=>⟨⟨av,tv-1,rfl,Qo,Qo,?_,CB7.trans Wt⟩,?_⟩⟩⟩
  ·simp only[ZP,Ie,List.getElem?_cons_succ]; omega
  ·have g3:OR W tv.toNat=false:=by rw[gX]; exact g3
   have one:∀j:Nat,tv-1<(j:Int)->¬tv<(j:Int)->OR W j=false:=λj h1 h2=>by
    have:j=tv.toNat:=Qo;rw[this]; exact g3
   rcases uH with ⟨h1,h2⟩ | ⟨h1,h2,h3,h4⟩
   ·exact .inl ⟨h1,λj j1 j2=>if h:tv<(j:Int) then h2 j h j2 else one j j1 h⟩
   ·exact .inr ⟨Qo,h2,h3,λj j1 j2=>if h:tv<(j:Int) then h4 j h j2 else one j j1 h⟩
  ·simp only[ZP,Ie,List.getElem?_cons_succ]; omega
 have bP:=Ou bP;have ht:tv=0:=Qo;subst ht;have hz:OR W 0=false:=rfl
 have uI:av=TV W:=by
  rcases uH with ⟨h1,h2⟩ | ⟨h1,h2,h3,h4⟩
  ·rw[h1]; exact(zll λj hj=>if e:j=0 then by rw[e]; exact hz else h2 j Qo hj).symm
  ·exact(zlk Qo h2 h3 λj hj=>if e:j=0 then by rw[e]; exact hz else h4 j Qo hj).symm
 subst uI;refine⟨λg5 Sn dK=>?_,λg5=>⟨λg6 SL nQ=>?_,λg6 SX Bh8 CR3=>?_⟩⟩
 ·have g5:=Ot g5;have hb:GA W p name=3:=by unfold GA; rw[B' n1,B' n2,B' n3,B' g4,C' g5]
  exact O8.no hW (by rw[hb]; decide) (gV.step dK) hb
 ·have g5:=Ou g5;have bQ:¬QK W=true:=λhr=>by rw[C' hr] at g6; simp at g6
  have hb:GA W p name=10:=by unfold GA; rw[B' n1,B' n2,B' n3,B' g4,B' g5,C' (by simpa using bQ)]
  rw[B' bQ];exact O8.no hW (by rw[hb]; decide) (gV.step nQ) hb
 have g5:=Ou g5;have bQ:QK W=true:=Iq λhr=>by rw[B' hr] at g6; simp at g6
 have hb:GA W p name=0:=by unfold GA; rw[B' n1,B' n2,B' n3,B' g4,B' g5,B' (by rw[bQ]; decide)]
 obtain⟨hf,_⟩:=zeu hb;have a1:=hf.a1;have a8:=hf.a8;have rY:=gV.step Bh8;refine(Ho (n:=W.ID.length) wp.a.c2).mono λe1 aE ⟨mg,eH,hMg,Si⟩=>?_
 have fN:=rY.M' Si;have hold:∀x∈QR 8 m',x<SX.heap.size:=λx hx=>(rY.own.lt x hx).2
 have Ar0:∀x∈Qv mg,SX.heap.size<=x:=λx hx=>(hMg.lt x hx).1
 have Sk:Wk 8 [y,y1] w (R5 aE m'.gO (Int.toNat (TV W)*14) (YE (Mr W.ID.length p name) mg)) (zwy W p name) (GJ m' (TV W).toNat mg):=
  ⟨fN.s.call zbf λx hx=>(fN.own.lt x hx).1,⟨fN.own.Bk5 Qo a8 (g:=Mr W.ID.length p name) (p:=mg) (j:=0) (vs:=YE (Mr W.ID.length p name) mg) (hMg.mono rY.base) (λx hx=>.inl λfU=>by have:=hold x fU; have:=Ar0 x hx; omega) (by simp[YE,ZF]) (by simp[YE,ZF]),λx hx hm=>by
   rcases P1 x hx with h1 | h1
   ·exact fN.nb x h1 hm
   ·have:=Ar0 x h1;have:=CR3 x hm;omega⟩⟩
 refine⟨_,_,_,_,_,_,_,_,_,_,_,_,_,_,_,_,_,_,_,_,eH,Qf Si CR3,rfl,uJ.g.ix Qo Qo,zs7 fN.own fN.nb Qo a8 (j:=0) (k:=14) Qd,λWn BB7=>?_⟩;have Ax6:=O8.ok (a:=TV W) hW hb (Sk.step BB7);have ew:Qb (zwy W p name) (GJ m' (TV W).toNat mg)=Qb W m':=by simp[Qb,zwy,PM,Rm,GJ]
 rw[ew] at Ax6;exact Ax6
end
inductive Jo (W:Q8):Q8->Prop
 | same:Jo W W
 | run (c n:Int) (hb:BW W c n=0):Jo W (zup W c n)
 | yld (c:Int) (hb:P6 W c=0):Jo W (Rp W c)
 | fork (g n x:Int) (hb:Y9 W g n x=0):Jo W (Me W g n x)
 | block (t:Int) (hb:Tx W t=0):Jo W (zk2 W t)
 | wake (t:Int) (hb:XO W t=0):Jo W (PK W t)
 | exit (t:Int) (hb:Ti W t=0):Jo W (AP W t)
 | nice (t n:Int) (hb:Xv W t n=0):Jo W (Tl W t n)
 | pin (t x:Int) (hb:VE W t x=0):Jo W (zfn W t x)
 | mov (t g:Int) (hb:Td W t g=0):Jo W (Li W t g)
 | mak (a p:Int) (name:ByteArray) (hm:zge W a p name):Jo W (PM W a p name)
 | drp (g:Int) (hd:ziy W g):Jo W (Jr W g)
 | wgh (g x:Int) (hb:zpc W g x=0):Jo W (zyg W g x)
 | gpn (g x:Int) (hb:zns W g x=0):Jo W (zwf W g x)
 | lim (g q p:Int) (hb:zn6 W g q p=0):Jo W (zzy W g q p)
 | time (n:Int) (hb:Gl W n=0):Jo W (zkc W n)
 | bal (c:Int) (hb:FW W c=0):Jo W (zkz W c)
 | off (c:Int) (hb:T0 W c true (Hz W)=0):Jo W (zw9 W c)
 | on (c:Int) (hb:T0 W c false 0=0):Jo W (z3s W c)
structure Mz (P:Nat->Q8->Prop):Prop where
 mono:∀{n m:Nat} {W:Q8},n<=m->P n W->P m W
 new:∀{n k:Nat},1<=k->k<=4->P n (UE k)
 fork:∀{n:Nat} {W:Q8} {g q x:Int},Jw W->P n W->Y9 W g q x=0->P n (Me W g q x)
 mak:∀{n:Nat} {W:Q8} {a p:Int} {name:ByteArray},Jw W->P n W->zge W a p name->P n (PM W a p name)
 Sl:∀{n:Nat} {W V:Q8},n<=10000->Jw W->P n W->Jo W V->P (n+10) V
def z39(_:Nat)(_:Q8):Prop:=True
theorem z4e:Mz z39:=⟨λ_ _=>trivial,λ_ _=>trivial,λ_ _ _=>trivial,λ_ _ _=>trivial,λ_ _ _ _=>trivial⟩
theorem Q0.kept{bs B:List Nat}{w w':Wo}(h:Q0 bs w w')(hB:∀x∈B,x<w.heap.size/\x∉bs):Q9 B w w':=λx hx=>h.block x (hB x hx).1 (hB x hx).2
theorem zwr{b x:Nat}{w w':Wo}(h:Q0 [b] w w')(h1:x<w.heap.size)(h2:x≠b):Q9 [x] w w':=h.kept λy hy=>by
 rw[Iz.1 hy]; exact⟨h1,by simpa using h2⟩
def z2x(v:Int):Prop := -2<=v/\v<=21
theorem zn4{b:Nat}{c:OA}{L N:Nat}{w:Wo}(h:P7 b c L N w)(hN:N<=900000000000) :
  Cz ZR #[.pointer (some ⟨b,0,none⟩)] w λe w'=>∃v,e=.returned (I v)/\z2x v/\P7 b c L (N+2) w'/\Q0 [b] w w':=by
 refine(DI (some ⟨b,0,none⟩) (R:=λv w'=>∃x,v=I x/\z2x x/\P7 b c L (N+2) w'/\Q0 [b] w w') ?_).mono λe w' ⟨v,he,x,hv,h1,h2,h3⟩=>⟨x,by rw[he,hv],h1,h2,h3⟩
 refine λwr hx _=>(zei (h.Wu hx) Qo).mono λe w1 ⟨v,he,hv,wE,RR⟩=>⟨v,he,Z3,λ_=>?_,λ_ b1 fQ Rj R3 tB=>?_⟩
 ·refine λI' hy _=>(zei (wE.Wu hy) Qo).mono λe w2 ⟨u,he,hu,uJ,R0⟩=>⟨u,he,Z3,?_⟩
  have hu1:=hu.1;have hu2:=hu.2.2 Qd;exact⟨Uy Qo Qo,λO' hz=>⟨_,rfl,⟨Qo,Qo⟩,uJ.Wu hz,(hx.of_nil.trans RR).trans (hy.of_nil.trans (R0.trans hz.of_nil))⟩⟩
 ·refine(zei (wE.Wu R3) Qo).mono λe w2 ⟨u,he,hu,uJ,R0⟩=>⟨u,he,zwr R0 (tB b1 Qs) (by have:=wE.lt; omega),?_⟩
  have hu1:=hu.1;have hu2:=hu.2.2 Qd
  have fin:∀(x:Int),z2x x->∀Rn,Q0 [b1] w2 Rn->∃x',I x=I x'/\z2x x'/\P7 b c L (N+2) Rn/\Q0 [b] w Rn:=λx hxv Rn hz=>
   ⟨x,rfl,hxv,wE.Ci8 uJ hz (by simpa using fQ),(hx.of_nil.trans RR).trans ((R3.of_nil.trans R0)) |>.fresh hz (λy hy=>by
    rw[Iz.1 hy];have h1:=hx.size; have h2:=RR.size;exact .inl Qo)⟩
  have:u=0\/u=1\/u=2\/u=3\/u=4\/u=5\/u=6\/u=7\/u=8\/u=9:=Qo;refine⟨⟨hu1,hu2⟩,?_⟩;rcases this with rfl | rfl | rfl | rfl | rfl | rfl | rfl | rfl | rfl | rfl <;> exact⟨_,⟨Qd,rfl⟩,fin _ ⟨Qd,Qd⟩⟩
def E2(c:OA)(L:Nat)(w:Wo):Prop:=∀i<L,∃(a:Addr) (x:Int),c=some a/\0<=x/\x<=255/\w.cell? (a.add i)=some (.int .u8 x)
theorem E2.ext{c:OA}{L:Nat}{w w':Wo}(h:E2 c L w)(hx:Q0 [] w w'):E2 c L w':=λi hi=>by
 obtain⟨a,x,ha,h1,h2,h3⟩:=h i hi;obtain⟨a',e,_,h''⟩:=(show JO [] w c i (.int .u8 x) from ⟨a,ha,Qs,h3⟩).ext hx;rw[ha] at e; cases e; exact⟨a,x,ha,h1,h2,h''⟩
structure RS (rb:Nat) (c:OA) (L N:Nat) (bs:List Nat) (w:Wo):Prop where
 rd:P7 rb c L N w
 nb:rb∉bs
 oc:∀a,c=some a->a.block∉bs\/L=0
section
variable {rb:Nat}{c:OA}{L N:Nat}{bs cs:List Nat}{w w':Wo}{b:Nat}
theorem RS.step(h:RS rb c L N bs w)(hx:Q0 bs w w'):RS rb c L N bs w':=⟨h.rd.ext hx h.nb h.oc,h.nb,h.oc⟩
theorem RS.M'(h:RS rb c L N bs w)(hx:Q0 [] w w'):RS rb c L N bs w':=⟨h.rd.Wu hx,h.nb,h.oc⟩
theorem RS.add(h:RS rb c L N bs w)(hb:w.heap.size<=b):RS rb c L N (bs++[b]) w:=⟨h.rd,λhm=>by
 rcases Im.1 hm with hm | hm
 ·exact h.nb hm
 ·have:rb=b:=by simpa using hm
  have:=h.rd.lt;omega,λa ha=>by
 rcases h.oc a ha with h1 | h1
 ·rcases h.rd.ltc a ha with h2 | h2
  ·refine .inl λhm=>?_
   rcases Im.1 hm with hm | hm
   ·exact h1 hm
   ·have:a.block=b:=by simpa using hm
    omega
  ·exact .inr h2
 ·exact .inr h1⟩
theorem RS.sub(h:RS rb c L N bs w)(hs:∀x∈cs,x∈bs):RS rb c L N cs w:=⟨h.rd,λhm=>h.nb (hs _ hm),λa ha=>by
 rcases h.oc a ha with h1 | h1
 ·exact .inl λhm=>h1 (hs _ hm)
 ·exact .inr h1⟩
theorem RS.upd{M:Nat}(h:RS rb c L N bs w)(k:P7 rb c L M w'):RS rb c L M bs w':=⟨k,h.nb,h.oc⟩
theorem RS.mono{M:Nat}(h:RS rb c L N bs w)(hm:N<=M):RS rb c L M bs w:=⟨h.rd.mono hm,h.nb,h.oc⟩
theorem Sc.B38{w0:Wo}(h:Sc w0 (rb::bs) w)(hx:Q0 bs w w'):Sc w0 (rb::bs) w':=h.step (hx.mono λ_ hm=>I1 _ hm)
theorem Sc.CW4{w0:Wo}(h:Sc w0 (rb::bs) w)(hx:Q0 [rb] w w'):Sc w0 (rb::bs) w':=h.step (hx.mono λx hm=>by
 have:x=rb:=by simpa using hm
 subst this; simp)
theorem zen(h:RS rb c L N bs w)(hx:Q0 [rb] w w')(hs:∀x∈bs,x<w.heap.size):Q9 bs w w':=Hs hx hs λx hm iP=>by
 have:x=rb:=by simpa using hm
 subst this; exact h.nb iP
end
section
variable {α:Type}{enc:α->List Va}{z:Nat}{ty:TypeId}{base rb:Nat}{bs:List Nat}{w w':Wo}{o:OA}{cap:Nat}{l:List α}{b:Nat}
end
theorem zqd{c:OA}{L C:Nat}{w:Wo}(h:E2 c L w)(hC:L<=C) :
  Cz VN #[.slice c L C] w λe w'=>∃b c' L',e=.returned (.pointer (some ⟨b,0,none⟩))/\w.heap.size<=b/\P7 b c' L' 0 w'/\Q0 [] w w'/\∀a',c'=some a'->L'=0\/(0<L/\∃a,c=some a/\a'.block=a.block):=by
 refine(zdh c L C (R:=λv w'=>∃b c' L',v=.pointer (some ⟨b,0,none⟩)/\w.heap.size<=b/\P7 b c' L' 0 w'/\Q0 [] w w'/\∀a',c'=some a'->L'=0\/(0<L/\∃a,c=some a/\a'.block=a.block)) ?_).mono λe w' ⟨v,he,b,c',L',hv,h1,h2,h3⟩=>⟨b,c',L',by rw[he,hv],h1,h2,h3⟩
 refine⟨λIT=>⟨⟨Qo,Qo,by have:=Ot IT; omega⟩,λb wb hx hb hh _ wr hy=>⟨b,if C=Int.toNat 0 then c else c.map (·.add (Int.toNat 0*1)),Int.toNat 2000-Int.toNat 0,rfl,hb,?_,hx.trans hy,λa' ha'=>?_⟩⟩,λIT b wb hx hb hh _ wr hy=>⟨b,c,L,rfl,hb,?_,hx.trans hy,λa' ha'=>?_⟩⟩
 ·refine P7.Wu ⟨⟨_,0,hh,Qo,Qo⟩,λi hi=>?_⟩ hy;have IT:=Ot IT;obtain⟨a,x,ha,h1,h2,h3⟩:=h.ext hx i (by have:i<2000-0:=hi; omega);obtain⟨a0,x0,ha0,_,_,h30⟩:=h i (by have:i<2000-0:=hi; omega);have Rw:=World.block_lt_of_cell? w _ h30;rw[ZK] at Rw;rw[ha] at ha0; cases ha0;rw[B' (show ¬C=Int.toNat 0 from λe=>by have:C=0:=e; omega),ha];refine⟨a.add 0,x,rfl,by rw[ZK]; omega,h1,h2,?_⟩;rw[UJ,Nat.zero_add]; exact h3
 ·have IT:=Ot IT;refine .inr ⟨Qo,?_⟩;rw[B' (show ¬C=Int.toNat 0 from λe=>by have:C=0:=e; omega)] at ha'
  cases c with
  | none=>cases ha'
  | some a=>
   simp only[Option.map_some,I0] at ha';exact⟨a,rfl,by rw[<-ha',ZK]⟩
 ·refine P7.Wu ⟨⟨_,0,hh,Qo,Qo⟩,λi hi=>?_⟩ hy;obtain⟨a,x,ha,h1,h2,h3⟩:=h.ext hx i hi;obtain⟨a0,x0,ha0,_,_,h30⟩:=h i hi;have Rw:=World.block_lt_of_cell? w _ h30;rw[ZK] at Rw;rw[ha] at ha0; cases ha0;exact⟨a,x,ha,Qo,h1,h2,h3⟩
 ·rcases Nat.eq_zero_or_pos L with h0 | h0
  ·exact .inl h0
  ·exact .inr ⟨h0,a',ha',rfl⟩
structure Dr (rb:Nat) (c:OA) (L N n:Nat) (bs:List Nat) (w0 w:Wo):Prop where
 r:RS rb c L (N+n) bs w
 ext:Q0 [rb] w0 w
 new:∀x∈bs,w0.heap.size<=x
section
variable {rb b b2:Nat}{c:OA}{L N n k:Nat}{bs cs:List Nat}{w0 w w':Wo}
theorem Dr.start(h:P7 rb c L N w):Dr rb c L N 0 [] w w:=⟨⟨h,Qs,λ_ _=>.inl Qs⟩,Q0.refl _ _,Qs⟩
theorem Dr.step(h:Dr rb c L N n bs w0 w)(hx:Q0 bs w w'):Dr rb c L N n bs w0 w':=⟨h.r.step hx,h.ext.fresh hx λx hm=>.inl (h.new x hm),h.new⟩
theorem Dr.add(h:Dr rb c L N n bs w0 w)(hb:w.heap.size<=b):Dr rb c L N n (bs++[b]) w0 w:=⟨h.r.add hb,h.ext,λx hm=>by
 rcases Im.1 hm with hm | hm
 ·exact h.new x hm
 ·have:x=b:=by simpa using hm
  have:=h.ext.size;omega⟩
theorem Dr.put(h:Dr rb c L N n bs w0 w)(hx:Q0 bs w w')(hb:w.heap.size<=b):Dr rb c L N n (bs++[b]) w0 w':=(h.add hb).step (hx.mono λ_ hm=>Ia _ hm)
theorem Dr.At4(h:Dr rb c L N n bs w0 w)(hx:Q0 bs w w')(hb:w.heap.size<=b)(bR:w.heap.size<=b2):Dr rb c L N n (bs++[b]++[b2]) w0 w':=((h.add hb).add bR).step (hx.mono λ_ hm=>Ia _ (Ia _ hm))
theorem Dr.more{m:Nat}(h:Dr rb c L N n bs w0 w)(hm:n<=m):Dr rb c L N m bs w0 w:=⟨h.r.mono Qo,h.ext,h.new⟩
theorem Dr.sub(h:Dr rb c L N n bs w0 w)(hs:∀x∈cs,x∈bs):Dr rb c L N n cs w0 w:=⟨h.r.sub hs,h.ext,λx hm=>h.new x (hs x hm)⟩
theorem Dr.fin{m:Nat}(h:Dr rb c L N n bs w0 w)(hm:n<=m):P7 rb c L (N+m) w/\Q0 [rb] w0 w:=⟨(h.more hm).r.rd,h.ext⟩
theorem Dr.call{f:FuncId}{args:Array Va}{Q:Int->Prop}(h:Dr rb c L N n bs w0 w)(hs:∀x∈bs,x<w.heap.size)(hc:Cz f args w λe w'=>∃v,e=.returned (I v)/\Q v/\P7 rb c L (N+n+k) w'/\Q0 [rb] w w') :
  Cz f args w λe w'=>∃v,e=.returned (I v)/\Q9 bs w w'/\Q v/\Dr rb c L N (n+k) bs w0 w':=
 hc.mono λe w' ⟨v,he,hq,hr,hx⟩=>⟨v,he,zen h.r hx hs,hq,⟨h.r.upd (by rw[<-Nat.add_assoc]; exact hr),h.ext.trans hx,h.new⟩⟩
theorem Dr.pick(h:Dr rb c L N n bs w0 w)(hN:N+n<=1000000000000)(hs:∀x∈bs,x<w.heap.size){q:Int} :
  Cz Q3 #[.pointer (some ⟨rb,0,none⟩),I q] w λe w'=>∃v,e=.returned (I v)/\Q9 bs w w'/\zb9 q v/\Dr rb c L N (n+1) bs w0 w':=h.call hs (zei h.r.rd hN)
theorem Dr.weight(h:Dr rb c L N n bs w0 w)(hN:N+n<=900000000000)(hs:∀x∈bs,x<w.heap.size) :
  Cz ZR #[.pointer (some ⟨rb,0,none⟩)] w λe w'=>∃v,e=.returned (I v)/\Q9 bs w w'/\z2x v/\Dr rb c L N (n+2) bs w0 w':=h.call hs (zn4 h.r.rd hN)
end
def z4n:Va->Bool
 | .int .i64 _=>true
 | _=>false
def z4p:Va->Bool
 | .string _=>true
 | _=>false
theorem z3h{v:Int}{k:Nat}{ls:List Va}{P:Int->Prop}(ha:ls.all z4n=true)(hl:ls.length=k)(h0:0<=v)(h1:v<(k:Int))(h:∀x,P x):∃x:Int,(0<=v/\ls[Int.toNat v+0]? = some (I x))/\P x:=by
 have IT:Int.toNat v+0<ls.length:=Qo;have:=List.all_eq_true.1 ha _ (List.getElem_mem IT);have e:=Il IT;generalize ls[Int.toNat v+0]=y at this e;unfold z4n at this
 split at this
 ·exact⟨_,⟨h0,e⟩,h _⟩
 ·cases this
theorem z4k{v:Int}{k:Nat}{ls:List Va}{P:ByteArray->Prop}(ha:ls.all z4p=true)(hl:ls.length=k)(h0:0<=v)(h1:v<(k:Int))(h:∀x,P x):∃x:ByteArray,(0<=v/\ls[Int.toNat v+0]? = some (.string x))/\P x:=by
 have IT:Int.toNat v+0<ls.length:=Qo;have:=List.all_eq_true.1 ha _ (List.getElem_mem IT);have e:=Il IT;generalize ls[Int.toNat v+0]=y at this e;unfold z4p at this
 split at this
 ·exact⟨_,⟨h0,e⟩,h _⟩
 ·cases this
theorem z00(x:Int):Qr .i64 (10-ZH (zl2 x 1) 20):=by
 have:1<=ZH (zl2 x 1) 20/\ZH (zl2 x 1) 20<=20:=by
  have h:1<=zl2 x 1:=by unfold zl2; split <;> omega
  unfold ZH
  split <;> omega
 exact⟨Qo,Qo⟩
section
variable {rb:Nat}{c:OA}{L N n:Nat}{bs:List Nat}{w0 w:Wo}
def zyp(_:Int):Prop:=True
theorem z16(h:P7 rb c L N w)(hN:N<=900000000000) :
  Cz YQ #[.pointer (some ⟨rb,0,none⟩)] w λe w'=>∃v,e=.returned (I v)/\zyp v/\P7 rb c L (N+2) w'/\Q0 [rb] w w':=by
 refine(Bb (some ⟨rb,0,none⟩) (R:=λv w'=>∃x,v=I x/\P7 rb c L (N+2) w'/\Q0 [rb] w w') ?_).mono λe w' ⟨v,he,x,hv,h1⟩=>⟨x,by rw[he,hv],trivial,h1⟩
 have h0:=Dr.start h;intro wr hx hs;refine(Dr.pick (h0.step hx) Qo hs).mono ?_;rintro e w2 ⟨v,he,hk,_,h1⟩;refine⟨_,he,hk,λ_ b hb I' RR dZ=>?_,λ_ b hb I' RR dZ=>?_⟩
 all_goals
  refine(Dr.pick (h1.put RR hb) Qo dZ).mono ?_;rintro e w3 ⟨u,fS,hk3,⟨u0,_,u2⟩,h2⟩;have u2:=u2 Qd;refine⟨_,fS,hk3,⟨Qo,Qo⟩,z3h Qd rfl Qo Qo λx O' R0=>⟨x,rfl,(h2.step R0).fin Qo⟩⟩
theorem zzu(h:P7 rb c L N w)(hN:N<=900000000000) :
  Cz Y2 #[.pointer (some ⟨rb,0,none⟩)] w λe w'=>∃v,e=.returned (I v)/\zyp v/\P7 rb c L (N+2) w'/\Q0 [rb] w w':=by
 refine(EL (some ⟨rb,0,none⟩) (R:=λv w'=>∃x,v=I x/\P7 rb c L (N+2) w'/\Q0 [rb] w w') ?_).mono λe w' ⟨v,he,x,hv,h1⟩=>⟨x,by rw[he,hv],trivial,h1⟩
 have h0:=Dr.start h;intro wr hx hs;refine(Dr.pick (h0.step hx) Qo hs).mono ?_;rintro e w2 ⟨v,he,hk,_,h1⟩;refine⟨_,he,hk,λ_ b hb I' RR dZ=>?_,λ_ b hb I' RR dZ=>?_⟩
 all_goals
  refine(Dr.pick (h1.put RR hb) Qo dZ).mono ?_;rintro e w3 ⟨u,fS,hk3,⟨u0,_,u2⟩,h2⟩;have u2:=u2 Qd;refine⟨_,fS,hk3,⟨Qo,Qo⟩,z3h Qd rfl Qo Qo λx O' R0=>⟨x,rfl,(h2.step R0).fin Qo⟩⟩
theorem Dr.mask(h:Dr rb c L N n bs w0 w)(hN:N+n<=900000000000)(hs:∀x∈bs,x<w.heap.size) :
  Cz YQ #[.pointer (some ⟨rb,0,none⟩)] w λe w'=>∃v,e=.returned (I v)/\Q9 bs w w'/\zyp v/\Dr rb c L N (n+2) bs w0 w':=h.call hs (z16 h.r.rd hN)
theorem Dr.tF(h:Dr rb c L N n bs w0 w)(hN:N+n<=900000000000)(hs:∀x∈bs,x<w.heap.size) :
  Cz Y2 #[.pointer (some ⟨rb,0,none⟩)] w λe w'=>∃v,e=.returned (I v)/\Q9 bs w w'/\zyp v/\Dr rb c L N (n+2) bs w0 w':=h.call hs (zzu h.r.rd hN)
end
theorem Jw.w{W:Q8}(iv:Jw W):QB W=true:=Qm.2 iv.wp
theorem Jw.len{W:Q8}(iv:Jw W):UG W:=zzw iv.wp.a
def zpk(W V:Q8):Prop:=Jw V/\Jo W V
theorem zpk.refl{W:Q8}(iv:Jw W):zpk W W:=⟨iv,.same⟩
theorem zzg{W W':Q8}{bar:Int}(iv:Jw W)(hb:bar=0->zpk W W'):zpk W (Yv W bar W').1:=by
 unfold Yv;rw[B' (by rw[iv.w]; decide)];split
 ·exact zpk.refl iv
 ·rename_i e;exact hb (by simpa using e)
theorem zwk{W W':Q8}{bar a:Int}(iv:Jw W)(hb:bar=0->zpk W W'):zpk W (J0 W bar W' a).1:=by
 unfold J0;rw[B' (by rw[iv.w]; decide)];split
 ·exact zpk.refl iv
 ·rename_i e;exact hb (by simpa using e)
section
variable {f:FuncId}{args:Array Va}{W W':Q8}{bar a:Int}{m:MW}{w:Wo}
theorem Vl(iv:Jw W)(hc:Cz f args w λe w'=>∃v,e=.returned v/\QL (Yv W bar W') w v w')(hb:bar=0->zpk W W') :
  Cz f args w λe w'=>∃(V:Q8) (m':MW) (d:Int),e=.returned (.tuple #[.agg (Qb V m').toArray,I d])/\zpk W V/\Zj 8 w.heap.size w' V m'/\Q0 [] w w':=
 hc.mono λe w' ⟨v,he,n,m',hv,hM,hx⟩=>by
  have hi:=zzg iv hb;have hn:n=8:=hM.len.symm.trans hi.1.wp.a.gl;subst hn;exact⟨_,m',_,by rw[he,hv],hi,hM,hx⟩
theorem zrm(iv:Jw W)(hc:Cz f args w λe w'=>∃v,e=.returned v/\O8 (J0 W bar W' a) w v w')(hb:bar=0->zpk W W') :
  Cz f args w λe w'=>∃(V:Q8) (m':MW) (q d:Int),e=.returned (.tuple #[.agg (Qb V m').toArray,I q,I d])/\zpk W V/\Zj 8 w.heap.size w' V m'/\Q0 [] w w':=
 hc.mono λe w' ⟨v,he,n,m',hv,hM,hx⟩=>by
  have hi:=zwk (a:=a) iv hb;have hn:n=8:=hM.len.symm.trans hi.1.wp.a.gl;subst hn;exact⟨_,m',_,_,by rw[he,hv],hi,hM,hx⟩
theorem zvn{P:Q8->Prop}(iv:Jw W)(h0:P W)(hc:Cz f args w λe w'=>∃v,e=.returned v/\O8 (J0 W bar W' a) w v w')(hb:bar=0->Jw W'/\P W') :
  Cz f args w λe w'=>∃(V:Q8) (m':MW) (q d:Int),e=.returned (.tuple #[.agg (Qb V m').toArray,I q,I d])/\(Jw V/\P V)/\Zj 8 w.heap.size w' V m'/\Q0 [] w w':=
 hc.mono λe w' ⟨v,he,n,m',hv,hM,hx⟩=>by
  have hi:Jw (J0 W bar W' a).1/\P (J0 W bar W' a).1:=by
   unfold J0;rw[B' (by rw[iv.w]; decide)];split
   ·exact⟨iv,h0⟩
   ·rename_i e;exact hb (by simpa using e)
  have hn:n=8:=hM.len.symm.trans hi.1.wp.a.gl;subst hn;exact⟨_,m',_,_,by rw[he,hv],hi,hM,hx⟩
def z4a(W:Q8)(w:Wo)(v:Va)(w':Wo):Prop:=∃(V:Q8) (m':MW) (d:Int),v=.tuple #[.agg (Qb V m').toArray,I d]/\zpk W V/\Zj 8 w.heap.size w' V m'/\Q0 [] w w'
theorem JT{bs:List Nat}{w0 w2 w3:Wo}{d:Int}(s:Sc w0 bs w)(hs:∀x∈bs,x<w.heap.size)(hi:zpk W W'){m':MW}(hM:Zj 8 w.heap.size w2 W' m')(hy:Q0 [] w w2)(hx:Q0 bs w2 w3):z4a W w0 (.tuple #[.agg (Qb W' m').toArray,I d]) w3:=
 ⟨W',m',d,rfl,hi,(((OW.of hM hs).step hx).own).mono s.ext.size,((s.M' hy).step hx).ext⟩
theorem z12{c:Int}(iv:Jw W)(h:P6 W c=0):Jw (Rp W c):=by
 obtain⟨c0,c1⟩:=Tz (z2w h).1;exact zty iv c0 c1
theorem zt0{k a n q:Int}{s:ByteArray}(h:XF [] w W m)(iv:Jw W) :
  Cz VM #[.agg (Qb W m).toArray,.agg #[I k,I a,I n,I q,.string s]] w λe w'=>∃v,e=.returned v/\z4a W w v w':=by
 refine zdg _ _ _ _ _ _ _ _ _ _ k a n q s (R:=λv w'=>z4a W w v w') ?_;intro b hb b1 fQ b2 bR;have hl:=iv.len;have hW:=iv.w;have s0:Sc w ([b]++[b1]++[b2]) w:=(((Sc.start w).add hb).add fQ).add bR;have hS:∀{wr:Wo},Q0 [] w wr->Sc w [b,b1,b2] wr:=λhx=>s0.M' hx
 refine⟨λ_ wr hx hs=>?_,λ_=>⟨λ_ wr hx hs=>?_,λ_=>⟨λ_ wr hx hs=>?_,λ_=>⟨λ_ wr hx hs=>?_,λ_=>⟨λ_ wr hx hs=>?_,λ_=>⟨λ_ wr hx hs=>?_,λ_=>⟨λ_ wr hx hs=>?_,λ_=>⟨λ_ wr hx hs=>?_,λ_=>⟨λ_ wr hx hs=>?_,λ_=>⟨λ_ wr hx hs=>?_,λ_=>⟨λ_ wr hx hs=>?_,λ_=>⟨λ_ wr hx hs=>?_,λ_=>⟨λ_ wr hx hs=>?_,λ_=>⟨λ_ wr hx hs=>?_,λ_=>⟨λ_ wr hx hs=>?_,λ_=>⟨λ_ wr hx hs=>?_,λ_=>⟨λ_ wr hx hs=>?_,λ_=>⟨λ_ wr hx hs=>?_,λ_=>⟨_,US h hl.c hl.t hl.g hl.f,λg=>?_,λ_ wr hx hs=>?_⟩⟩⟩⟩⟩⟩⟩⟩⟩⟩⟩⟩⟩⟩⟩⟩⟩⟩⟩
 case refine_19=>rw[hW] at g; cases g
 case refine_20=>
  refine(Mq (h.ext hx) iv.wp.a).mono ?_;rintro e wv ⟨m',he,hM,hy⟩;exact⟨_,_,_,_,_,_,_,_,_,_,he,Qf hy hs,λO' R0=>JT (hS hx) hs (zpk.refl iv) hM hy R0⟩
 case refine_3=>
  refine(zrm iv (M1 (h.ext hx) hl) (λhb=>⟨zd4 hW hb,.fork _ _ _ hb⟩)).mono ?_;rintro e wv ⟨V,m',q1,d,he,hi,hM,hy⟩;exact⟨_,_,_,_,_,_,_,_,_,_,_,_,he,Qf hy hs,λO' R0=>JT (hS hx) hs hi hM hy R0⟩
 case refine_10=>
  refine(zrm iv (L9 (h.ext hx) hl) λhb=>⟨zwm iv (zeu hb).1,.mak _ _ _ (zeu hb).1⟩).mono ?_;rintro e wv ⟨V,m',q1,d,he,hi,hM,hy⟩;exact⟨_,_,_,_,_,_,_,_,_,_,_,_,he,Qf hy hs,λO' R0=>JT (hS hx) hs hi hM hy R0⟩
 case refine_1=>exact(Vl iv (zam (h.ext hx) hl) (λhb=>⟨zzn iv hb,.run _ _ hb⟩)).mono λe wv ⟨V,m',d,he,hi,hM,hy⟩=>⟨_,_,_,_,_,_,_,_,_,_,_,he,Qf hy hs,λO' R0=>JT (hS hx) hs hi hM hy R0⟩
 case refine_2=>exact(Vl iv (Bs (h.ext hx) hl) (λhb=>⟨z12 iv hb,.yld _ hb⟩)).mono λe wv ⟨V,m',d,he,hi,hM,hy⟩=>⟨_,_,_,_,_,_,_,_,_,_,_,he,Qf hy hs,λO' R0=>JT (hS hx) hs hi hM hy R0⟩
 case refine_4=>exact(Vl iv (A7 (h.ext hx) hl) (λhb=>⟨ztx hW hb,.block _ hb⟩)).mono λe wv ⟨V,m',d,he,hi,hM,hy⟩=>⟨_,_,_,_,_,_,_,_,_,_,_,he,Qf hy hs,λO' R0=>JT (hS hx) hs hi hM hy R0⟩
 case refine_5=>exact(Vl iv (Gg (h.ext hx) hl) (λhb=>⟨znz hW hb,.wake _ hb⟩)).mono λe wv ⟨V,m',d,he,hi,hM,hy⟩=>⟨_,_,_,_,_,_,_,_,_,_,_,he,Qf hy hs,λO' R0=>JT (hS hx) hs hi hM hy R0⟩
 case refine_6=>exact(Vl iv (zaj (h.ext hx) hl) (λhb=>⟨zwl hW hb,.exit _ hb⟩)).mono λe wv ⟨V,m',d,he,hi,hM,hy⟩=>⟨_,_,_,_,_,_,_,_,_,_,_,he,Qf hy hs,λO' R0=>JT (hS hx) hs hi hM hy R0⟩
 case refine_7=>exact(Vl iv (Gf (h.ext hx) hl) (λhb=>⟨zny hW hb,.nice _ _ hb⟩)).mono λe wv ⟨V,m',d,he,hi,hM,hy⟩=>⟨_,_,_,_,_,_,_,_,_,_,_,he,Qf hy hs,λO' R0=>JT (hS hx) hs hi hM hy R0⟩
 case refine_8=>exact(Vl iv (Hn (h.ext hx) hl) (λhb=>⟨zr4 hW hb,.pin _ _ hb⟩)).mono λe wv ⟨V,m',d,he,hi,hM,hy⟩=>⟨_,_,_,_,_,_,_,_,_,_,_,he,Qf hy hs,λO' R0=>JT (hS hx) hs hi hM hy R0⟩
 case refine_9=>exact(Vl iv (Ge (h.ext hx) hl) (λhb=>⟨zr3 iv hb,.mov _ _ hb⟩)).mono λe wv ⟨V,m',d,he,hi,hM,hy⟩=>⟨_,_,_,_,_,_,_,_,_,_,_,he,Qf hy hs,λO' R0=>JT (hS hx) hs hi hM hy R0⟩
 case refine_11=>exact(Vl iv (A5 (h.ext hx) hl) λhb=>⟨zzi iv (zv3 hb).1,.drp _ (zv3 hb).1⟩).mono λe wv ⟨V,m',d,he,hi,hM,hy⟩=>⟨_,_,_,_,_,_,_,_,_,_,_,he,Qf hy hs,λO' R0=>JT (hS hx) hs hi hM hy R0⟩
 case refine_12=>exact(Vl iv (Br (h.ext hx) hl) (λhb=>⟨zzo hW hb,.wgh _ _ hb⟩)).mono λe wv ⟨V,m',d,he,hi,hM,hy⟩=>⟨_,_,_,_,_,_,_,_,_,_,_,he,Qf hy hs,λO' R0=>JT (hS hx) hs hi hM hy R0⟩
 case refine_13=>exact(Vl iv (zai (h.ext hx) hl) (λhb=>⟨zzj hW hb,.gpn _ _ hb⟩)).mono λe wv ⟨V,m',d,he,hi,hM,hy⟩=>⟨_,_,_,_,_,_,_,_,_,_,_,he,Qf hy hs,λO' R0=>JT (hS hx) hs hi hM hy R0⟩
 case refine_14=>exact(Vl iv (Bq (h.ext hx) hl) (λhb=>⟨zzk hW hb,.lim _ _ _ hb⟩)).mono λe wv ⟨V,m',d,he,hi,hM,hy⟩=>⟨_,_,_,_,_,_,_,_,_,_,_,he,Qf hy hs,λO' R0=>JT (hS hx) hs hi hM hy R0⟩
 case refine_15=>exact(Vl iv (zak (h.ext hx) hl) (λhb=>⟨zwn hW hb,.time _ hb⟩)).mono λe wv ⟨V,m',d,he,hi,hM,hy⟩=>⟨_,_,_,_,_,_,_,_,_,_,_,he,Qf hy hs,λO' R0=>JT (hS hx) hs hi hM hy R0⟩
 case refine_16=>exact(Vl iv (Bo (h.ext hx) hl) (λhb=>⟨zzh hW hb,.bal _ hb⟩)).mono λe wv ⟨V,m',d,he,hi,hM,hy⟩=>⟨_,_,_,_,_,_,_,_,_,_,_,he,Qf hy hs,λO' R0=>JT (hS hx) hs hi hM hy R0⟩
 case refine_17=>exact(Vl iv (zhv (h.ext hx) hl) (λhb=>⟨zzm hW hb,.off _ hb⟩)).mono λe wv ⟨V,m',d,he,hi,hM,hy⟩=>⟨_,_,_,_,_,_,_,_,_,_,_,he,Qf hy hs,λO' R0=>JT (hS hx) hs hi hM hy R0⟩
 case refine_18=>exact(Vl iv (zlz (h.ext hx) hl) (λhb=>⟨z11 hW hb,.on _ hb⟩)).mono λe wv ⟨V,m',d,he,hi,hM,hy⟩=>⟨_,_,_,_,_,_,_,_,_,_,_,he,Qf hy hs,λO' R0=>JT (hS hx) hs hi hM hy R0⟩
end
theorem z15{rb:Nat}{c:OA}{L N:Nat}{w:Wo}{W:Q8}{m:MW}(h:P7 rb c L N w)(hN:N<=800000000000) :
  Cz U3 #[.pointer (some ⟨rb,0,none⟩),.agg (Qb W m).toArray] w λe w'=>∃(k a n q:Int) (s:ByteArray),e=.returned (.agg #[I k,I a,I n,I q,.string s])/\P7 rb c L (N+20) w'/\Q0 [rb] w w':=by
 refine(Ba (some ⟨rb,0,none⟩) W.now m.cO W.ID.length m.cC m.tO W.tasks.length m.tC m.gO W.IC.length m.gC (R:=λv w'=>∃(k a n q:Int) (s:ByteArray),v=.agg #[I k,I a,I n,I q,.string s]/\P7 rb c L (N+20) w'/\Q0 [rb] w w') ?_).mono λe w' ⟨v,he,k,a,n,q,s,hv,h1⟩=>⟨k,a,n,q,s,by rw[he,hv],h1⟩
 intro b hb b1 fQ;refine⟨_,TZ,λwr hx hs=>?_⟩;refine(Dr.pick ((Dr.start h).At4 hx hb fQ) Qo hs).mono ?_;rintro e w1 ⟨v1,he,hk,_,h1⟩;refine⟨_,he,hk,λwr hx hs=>?_⟩;refine(Dr.pick (h1.step hx) Qo hs).mono ?_;rintro e w2 ⟨v2,he,hk,_,h2⟩;refine⟨_,he,hk,λvs bs w2=>bs=[]/\(∃x:Int,vs=[I x])/\Dr rb c L N 4 [b,b1] w w2,λwr hx hs=>?_,?_⟩
 ·refine(Dr.pick (h2.step hx) Qo hs).mono ?_;rintro e w3 ⟨v3,he,hk,_,h3⟩;refine⟨_,he,hk,λ_ wr hx hs=>?_,λ_ wr hx hs=>⟨rfl,⟨_,rfl⟩,(h3.step hx).more Qd⟩⟩;refine(Dr.pick (h3.step hx) Qo hs).mono ?_;rintro e w4 ⟨v4,he,hk,_,h4⟩;exact⟨_,he,hk,λwr hx _=>⟨rfl,⟨_,rfl⟩,(h4.step hx).more Qd⟩⟩
 clear h1 h2;rintro t aE fT ⟨-,-,h4⟩ wr hx hs;refine(Dr.pick (h4.step hx) Qo hs).mono ?_;rintro e w5 ⟨v5,he,hk,⟨p50,_,p52⟩,h5⟩;have p52:=p52 Qd;refine⟨_,he,hk,λwr hx hs=>?_⟩;refine(Dr.pick (h5.step hx) Qo hs).mono ?_;rintro e w6 ⟨v6,he,hk,_,h6⟩;clear h4 h5;refine⟨_,he,hk,λ_=>?_,λ_ wr hx hs=>?_⟩
 rotate_left
 ·refine(Dr.pick (h6.step hx) Qo hs).mono ?_;rintro e w7 ⟨v7,he,hk,_,h7⟩;clear h6;refine⟨_,he,hk,?_⟩;clear he hk hx hs fT
  repeat' first
   | exact rfl
   | exact z00 _
   | (refine⟨_,TZ,?_⟩)
   | (refine⟨_,U5,?_⟩)
   | (refine⟨λ_ bs w2=>bs=[]/\Dr rb c L N 7 [b,b1] w w2,?_,?_⟩)
   | (refine And.intro ?_ ?_)
   | (refine z3h Qd rfl Qo Qo λx=>?_)
   | (refine z4k Qd rfl Qo Qo λx=>?_)
   | (intro (x:Bool) (wv:Wo) hs hm; obtain⟨_,hD⟩:=hm)
   | (intro (b:Nat) hb)
   | (intro (wr:Wo) hx hs; refine(Dr.pick (Dr.step (by assumption) hx) ?_ hs).mono ?_; rotate_left; rintro e w2 ⟨v,he,hk,⟨hp0,_,gW⟩,hC⟩; have gW:=gW Qd; refine⟨_,he,hk,?_⟩)
   | (intro (wr:Wo) hx hs; refine(Dr.pick (Dr.put (by assumption) hx (by assumption)) ?_ hs).mono ?_; rotate_left; rintro e w2 ⟨v,he,hk,⟨hp0,_,gW⟩,hC⟩; have gW:=gW Qd; refine⟨_,he,hk,?_⟩)
   | (intro (wr:Wo) hx hs; refine(Dr.pick (Dr.At4 (by assumption) hx (by assumption) (by assumption)) ?_ hs).mono ?_; rotate_left; rintro e w2 ⟨v,he,hk,⟨hp0,_,gW⟩,hC⟩; have gW:=gW Qd; refine⟨_,he,hk,?_⟩)
   | (intro (wr:Wo) hx hs; refine(Dr.weight (Dr.step (by assumption) hx) ?_ hs).mono ?_; rotate_left; rintro e w2 ⟨v,he,hk,⟨hp0,gW⟩,hC⟩; refine⟨_,he,hk,?_⟩)
   | (intro (wr:Wo) hx hs; refine(Dr.mask (Dr.step (by assumption) hx) ?_ hs).mono ?_; rotate_left; rintro e w2 ⟨v,he,hk,_,hC⟩; refine⟨_,he,hk,?_⟩)
   | (intro (wr:Wo) hx hs; refine(Dr.tF (Dr.step (by assumption) hx) ?_ hs).mono ?_; rotate_left; rintro e w2 ⟨v,he,hk,_,hC⟩; refine⟨_,he,hk,?_⟩)
   | (intro (wr:Wo) hx hs; exact⟨rfl,Dr.step (by assumption) hx⟩)
   | (intro (wr:Wo) hx; exact⟨_,_,_,_,_,rfl,(Dr.step (by assumption) hx).fin Qd⟩)
   | (intro (hh:_=true))
   | (intro (hh:_=false))
   | omega
   | decide
 ·repeat' first
   | exact rfl
   | (refine And.intro ?_ ?_)
   | (refine z3h Qd rfl Qo Qo λx=>?_)
   | (intro (b:Nat) hb)
   | (intro (wr:Wo) hx hs; refine(Dr.pick (Dr.step (by assumption) hx) ?_ hs).mono ?_; rotate_left; rintro e w2 ⟨v,he,hk,⟨hp0,_,gW⟩,hC⟩; have gW:=gW Qd; refine⟨_,he,hk,?_⟩)
   | (intro (wr:Wo) hx hs; refine(Dr.pick (Dr.put (by assumption) hx (by assumption)) ?_ hs).mono ?_; rotate_left; rintro e w2 ⟨v,he,hk,⟨hp0,_,gW⟩,hC⟩; have gW:=gW Qd; refine⟨_,he,hk,?_⟩)
   | (intro (wr:Wo) hx; exact⟨_,_,_,_,_,rfl,(Dr.step (by assumption) hx).fin Qd⟩)
   | omega
def z4o(lo hi:Int):Va->Bool
 | .int .i64 x=>decide (lo<=x)&&decide (x<=hi)
 | _=>false
theorem z4v{lo hi v:Int}{k:Nat}{ls:List Va}{P:Int->Prop}(ha:ls.all (z4o lo hi)=true)(hl:ls.length=k)(h0:0<=v)(h1:v<(k:Int))(h:∀x,lo<=x->x<=hi->P x):∃x:Int,(0<=v/\ls[Int.toNat v+0]? = some (I x))/\P x:=by
 have IT:Int.toNat v+0<ls.length:=Qo;have:=List.all_eq_true.1 ha _ (List.getElem_mem IT);have e:=Il IT;generalize ls[Int.toNat v+0]=y at this e;unfold z4o at this
 split at this
 ·rw[A',Ij,Ij] at this;exact⟨_,⟨h0,e⟩,h _ this.1 this.2⟩
 ·cases this
structure UY (P:Nat->Q8->Prop) (rb:Nat) (c:OA) (L N n:Nat) (bs:List Nat) (w0 w:Wo) (W:Q8) (m:MW):Prop where
 iv:Jw W
 lw:P n W
 d:Dr rb c L N n bs w0 w
 o:OW 8 w0.heap.size (rb::bs) w W m
section
variable {P:Nat->Q8->Prop}{rb b b2:Nat}{c:OA}{L N n k:Nat}{bs cs:List Nat}{w0 w w':Wo}{W W':Q8}{m m':MW}
theorem UY.step(h:UY P rb c L N n bs w0 w W m)(hx:Q0 bs w w'):UY P rb c L N n bs w0 w' W m:=⟨h.iv,h.lw,h.d.step hx,h.o.step (hx.mono λ_ hm=>I1 _ hm)⟩
theorem UY.put(h:UY P rb c L N n bs w0 w W m)(hx:Q0 bs w w')(hb:w.heap.size<=b):UY P rb c L N n (bs++[b]) w0 w' W m:=⟨h.iv,h.lw,h.d.put hx hb,h.o.put (hx.mono λ_ hm=>I1 _ hm) hb⟩
theorem UY.At4(h:UY P rb c L N n bs w0 w W m)(hx:Q0 bs w w')(hb:w.heap.size<=b)(bR:w.heap.size<=b2):UY P rb c L N n (bs++[b]++[b2]) w0 w' W m:=⟨h.iv,h.lw,h.d.At4 hx hb bR,h.o.At4 (hx.mono λ_ hm=>I1 _ hm) hb bR⟩
theorem UY.sub(h:UY P rb c L N n bs w0 w W m)(hs:∀x∈cs,x∈bs):UY P rb c L N n cs w0 w W m:=⟨h.iv,h.lw,h.d.sub hs,h.o.sub λx hx=>by
 rcases Ii.1 hx with h1 | h1
 ·rw[h1]; exact I9
 ·exact I1 _ (hs x h1)⟩
theorem UY.more{q:Nat}(hP:Mz P)(h:UY P rb c L N n bs w0 w W m)(hm:n<=q):UY P rb c L N q bs w0 w W m:=⟨h.iv,hP.mono hm h.lw,h.d.more hm,h.o⟩
theorem UY.rd(h:UY P rb c L N n bs w0 w W m):XF [] w W m:=h.o.rd0
theorem UY.drawn(hP:Mz P)(h:UY P rb c L N n bs w0 w W m)(hr:P7 rb c L (N+n+k) w')(hx:Q0 [rb] w w'):UY P rb c L N (n+k) bs w0 w' W m:=
 ⟨h.iv,hP.mono Qo h.lw,⟨h.d.r.upd (by rw[<-Nat.add_assoc]; exact hr),h.d.ext.trans hx,h.d.new⟩,h.o.step (hx.mono λx hm=>by
  have:x=rb:=by simpa using hm
  subst this; exact I9)⟩
theorem UY.call{f:FuncId}{args:Array Va}{Q:Int->Prop}(hP:Mz P)(h:UY P rb c L N n bs w0 w W m)(hs:∀x∈bs,x<w.heap.size)(hc:Cz f args w λe w'=>∃v,e=.returned (I v)/\Q v/\P7 rb c L (N+n+k) w'/\Q0 [rb] w w') :
  Cz f args w λe w'=>∃v,e=.returned (I v)/\Q9 bs w w'/\Q v/\UY P rb c L N (n+k) bs w0 w' W m:=
 hc.mono λe w' ⟨v,he,hq,hr,hx⟩=>⟨v,he,zen h.d.r hx hs,hq,h.drawn hP hr hx⟩
theorem UY.pick(hP:Mz P)(h:UY P rb c L N n bs w0 w W m)(hN:N+n<=1000000000000)(hs:∀x∈bs,x<w.heap.size){q:Int} :
  Cz Q3 #[.pointer (some ⟨rb,0,none⟩),I q] w λe w'=>∃v,e=.returned (I v)/\Q9 bs w w'/\zb9 q v/\UY P rb c L N (n+1) bs w0 w' W m:=h.call hP hs (zei h.d.r.rd hN)
theorem UY.weight(hP:Mz P)(h:UY P rb c L N n bs w0 w W m)(hN:N+n<=900000000000)(hs:∀x∈bs,x<w.heap.size) :
  Cz ZR #[.pointer (some ⟨rb,0,none⟩)] w λe w'=>∃v,e=.returned (I v)/\Q9 bs w w'/\z2x v/\UY P rb c L N (n+2) bs w0 w' W m:=h.call hP hs (zn4 h.d.r.rd hN)
theorem UY.item(hP:Mz P)(h:UY P rb c L N n bs w0 w W m)(hN:N+n<=800000000000)(hs:∀x∈bs,x<w.heap.size){V:Q8}{p:MW} :
  Cz U3 #[.pointer (some ⟨rb,0,none⟩),.agg (Qb V p).toArray] w λe w'=>∃(k a q r:Int) (s:ByteArray),e=.returned (.agg #[I k,I a,I q,I r,.string s])/\Q9 bs w w'/\UY P rb c L N (n+20) bs w0 w' W m:=
 (z15 h.d.r.rd hN).mono λe w' ⟨k,a,q,r,s,he,hr,hx⟩=>⟨k,a,q,r,s,he,zen h.d.r hx hs,h.drawn hP hr hx⟩
theorem UY.bsl(h:UY P rb c L N n bs w0 w W m)(hs:∀x∈bs,x<w.heap.size):∀x∈rb::bs,x<w.heap.size:=λx hm=>by
 rcases Ii.1 hm with h1 | h1
 ·rw[h1]; exact h.d.r.rd.lt
 ·exact hs x h1
theorem UY.Sl{P':Nat->Q8->Prop}{q:Nat}(h:UY P rb c L N n bs w0 w W m)(hq:n<=q)(hs:∀x∈bs,x<w.heap.size)(hi:Jw W')(hl:P' q W')(hM:Zj 8 w.heap.size w' W' m')(hx:Q0 [] w w'):UY P' rb c L N q bs w0 w' W' m':=
 ⟨hi,hl,Dr.more ⟨h.d.r.M' hx,h.d.ext.trans hx.of_nil,h.d.new⟩ hq,(OW.of hM (h.bsl hs)).mono h.d.ext.size⟩
theorem UY.mak{p:Int}{name:ByteArray}(hP:Mz P)(h:UY P rb c L N n bs w0 w W m)(hs:∀x∈bs,x<w.heap.size) :
  Cz QI #[.agg (Qb W m).toArray,I p,.string name] w λe w'=>∃(W':Q8) (m':MW) (a d:Int),e=.returned (.tuple #[.agg (Qb W' m').toArray,I a,I d])/\Q9 bs w w'/\UY P rb c L N n bs w0 w' W' m':=
 (zvn (P:=P n) h.iv h.lw (L9 h.rd h.iv.len) λhb=>⟨zwm h.iv (zeu hb).1,hP.mak h.iv h.lw (zeu hb).1⟩).mono λe w' ⟨V,m',a,d,he,hi,hM,hx⟩=>⟨V,m',a,d,he,Qf hx hs,h.Sl (I7 _) hs hi.1 hi.2 hM hx⟩
theorem UY.fork{g q x:Int}(hP:Mz P)(h:UY P rb c L N n bs w0 w W m)(hs:∀x∈bs,x<w.heap.size) :
  Cz YO #[.agg (Qb W m).toArray,I g,I q,I x] w λe w'=>∃(W':Q8) (m':MW) (a d:Int),e=.returned (.tuple #[.agg (Qb W' m').toArray,I a,I d])/\Q9 bs w w'/\UY P rb c L N n bs w0 w' W' m':=
 (zvn (P:=P n) h.iv h.lw (M1 h.rd h.iv.len) λhb=>⟨zd4 h.iv.w hb,hP.fork h.iv h.lw hb⟩).mono λe w' ⟨V,m',a,d,he,hi,hM,hx⟩=>⟨V,m',a,d,he,Qf hx hs,h.Sl (I7 _) hs hi.1 hi.2 hM hx⟩
theorem UY.do{k a q r:Int}{s:ByteArray}(hP:Mz P)(hn:n<=10000)(h:UY P rb c L N n bs w0 w W m)(hs:∀x∈bs,x<w.heap.size) :
  Cz VM #[.agg (Qb W m).toArray,.agg #[I k,I a,I q,I r,.string s]] w λe w'=>∃(W':Q8) (m':MW) (d:Int),e=.returned (.tuple #[.agg (Qb W' m').toArray,I d])/\Q9 bs w w'/\UY P rb c L N (n+10) bs w0 w' W' m':=
 (zt0 h.rd h.iv).mono λe w' ⟨v,he,V,m',d,hv,hi,hM,hx⟩=>⟨V,m',d,by rw[he,hv],Qf hx hs,h.Sl (Nat.le_add_right _ _) hs hi.1 (hP.Sl hn h.iv h.lw hi.2) hM hx⟩
theorem UY.fin{q:Nat}(hP:Mz P)(h:UY P rb c L N n bs w0 w W m)(hq:n<=q):(Jw W/\P q W)/\Zj 8 w0.heap.size w W m/\P7 rb c L (N+q) w/\Q0 [rb] w0 w/\∀x∈QR 8 m,x≠rb:=⟨⟨h.iv,hP.mono hq h.lw⟩,h.o.own,(h.d.fin hq).1,h.d.ext,λx hx e=>h.o.nb x hx (by rw[e]; exact I9)⟩
end
theorem z17{P:Nat->Q8->Prop}(hP:Mz P){rb:Nat}{c:OA}{L N:Nat}{w:Wo}{items:Int}(h:P7 rb c L N w)(hN:N<=700000000000)(hi:items<=27) :
  Cz Ta #[.pointer (some ⟨rb,0,none⟩),I items] w λe w'=>∃(W:Q8) (m:MW),e=.returned (.agg (Qb W m).toArray)/\(Jw W/\P 1000 W)/\Zj 8 w.heap.size w' W m/\P7 rb c L (N+1000) w'/\Q0 [rb] w w'/\∀x∈QR 8 m,x≠rb:=by
 refine(Bd (some ⟨rb,0,none⟩) items (R:=λv w'=>∃(W:Q8) (m:MW),v=.agg (Qb W m).toArray/\(Jw W/\P 1000 W)/\Zj 8 w.heap.size w' W m/\P7 rb c L (N+1000) w'/\Q0 [rb] w w'/\∀x∈QR 8 m,x≠rb) ?_).mono λe w' ⟨v,he,W,m,hv,h3⟩=>⟨W,m,by rw[he,hv],h3⟩
 intro b hb b1 fQ wr hx hs;refine(Dr.pick ((Dr.start h).At4 hx hb fQ) Qo hs).mono ?_;rintro e w1 ⟨v,he,hk,⟨p0,_,p2⟩,h1⟩;have p2:=p2 Qd;refine⟨_,he,hk,⟨Qo,Qo⟩,z4v (lo:=1) (hi:=4) Qd rfl Qo Qo λx x1 x4 wr hx hs=>?_⟩;obtain⟨q,rfl⟩:∃q:Nat,x=(q:Int):=⟨x.toNat,Qo⟩;have h2:=h1.step hx;refine(zal (n:=q) Qo Qo).mono ?_;rintro e2 w2 ⟨m,aM,hM,Sb⟩
 have bR:∀x∈rb::[b,b1],x<wr.heap.size:=λx hm=>by
  rcases Ii.1 hm with h1 | h1
  ·rw[h1]; exact h2.r.rd.lt
  ·exact hs x h1
 have hK:UY P rb c L N 1 [b,b1] w w2 (UE q) m:=⟨zzl Qo Qo,hP.new Qo Qo,⟨h2.r.M' Sb,h2.ext.trans Sb.of_nil,h2.new⟩,(OW.of hM bR).mono h2.ext.size⟩;refine⟨_,_,_,_,_,_,_,_,_,_,_,aM,Qf Sb hs,λb2 bR wr hx hs=>?_⟩;refine((hK.put hx bR).pick hP Qo hs).mono ?_;rintro e3 w3 ⟨v1,fS,hk3,⟨p10,_,p12⟩,hK1⟩;have p12:=p12 Qd;refine⟨_,fS,hk3,?_⟩;refine⟨λvs w2=>∃(k n:Nat) (W:Q8) (m:MW),vs=I (k:Int)::Qb W m/\(k:Int)<=v1/\n<=2+2*k/\UY P rb c L N n [b,b1,b2] w w2 W m,Zx v1.toNat 0,λwr hx _=>⟨0,2,UE q,m,rfl,p10,Qo,hK1.step hx⟩,?_⟩;clear hK1 hk3 fS hs hx hM hK aM Sb h1 h2 he hk;rintro i1 l RV Sa Sg S3 Sd Sf S4 S5 S8 wv hs ⟨k,n,W,m,he,hk,hn,hK⟩;simp only[Qb,I4,I5,Iv,true_and,and_true] at he;obtain⟨rfl,rfl,⟨rfl,rfl,rfl⟩,⟨rfl,rfl,rfl⟩,rfl,rfl,rfl⟩:=he;refine⟨λIT=>?_,λRC wr hx hs=>?_⟩
 ·have IT:=Ot IT
  repeat' first
   | exact rfl
   | (refine And.intro ?_ ?_)
   | (refine z3h Qd rfl Qo Qo λx=>?_)
   | (refine z4k Qd rfl Qo Qo λx=>?_)
   | (intro (b:Nat) hb)
   | (intro (wr:Wo) hx hs; refine(UY.pick hP (UY.step (by assumption) hx) ?_ hs).mono ?_; rotate_left; rintro e w2 ⟨v,he,hk,⟨hp0,_,gW⟩,hC⟩; have gW:=gW Qd; refine⟨_,he,hk,?_⟩)
   | (intro (wr:Wo) hx hs; refine(UY.pick hP (UY.put (by assumption) hx (by assumption)) ?_ hs).mono ?_; rotate_left; rintro e w2 ⟨v,he,hk,⟨hp0,_,gW⟩,hC⟩; have gW:=gW Qd; refine⟨_,he,hk,?_⟩)
   | (intro (wr:Wo) hx hs; refine(UY.pick hP (UY.At4 (by assumption) hx (by assumption) (by assumption)) ?_ hs).mono ?_; rotate_left; rintro e w2 ⟨v,he,hk,⟨hp0,_,gW⟩,hC⟩; have gW:=gW Qd; refine⟨_,he,hk,?_⟩)
   | (intro (wr:Wo) hx hs; refine(UY.mak hP (UY.step (by assumption) hx) hs).mono ?_; rintro e w2 ⟨W',m',a,d,he,hk,hC⟩; refine⟨_,_,_,_,_,_,_,_,_,_,_,_,he,hk,⟨Qo,Qo⟩,λwr hx _=>⟨⟨k+1,n+2,W',m',by simp[Qb],Qo,Qo,((hC.step hx).more hP Qo).sub Qs⟩,ZE (k:=k) rfl rfl Qo⟩⟩)
   | (intro (wr:Wo) hx hs; refine(UY.mak hP (UY.put (by assumption) hx (by assumption)) hs).mono ?_; rintro e w2 ⟨W',m',a,d,he,hk,hC⟩; refine⟨_,_,_,_,_,_,_,_,_,_,_,_,he,hk,⟨Qo,Qo⟩,λwr hx _=>⟨⟨k+1,n+2,W',m',by simp[Qb],Qo,Qo,((hC.step hx).more hP Qo).sub Qs⟩,ZE (k:=k) rfl rfl Qo⟩⟩)
   | (intro (wr:Wo) hx hs; refine(UY.mak hP (UY.At4 (by assumption) hx (by assumption) (by assumption)) hs).mono ?_; rintro e w2 ⟨W',m',a,d,he,hk,hC⟩; refine⟨_,_,_,_,_,_,_,_,_,_,_,_,he,hk,⟨Qo,Qo⟩,λwr hx _=>⟨⟨k+1,n+2,W',m',by simp[Qb],Qo,Qo,((hC.step hx).more hP Qo).sub Qs⟩,ZE (k:=k) rfl rfl Qo⟩⟩)
   | omega
 refine((hK.step hx).pick hP Qo hs).mono ?_;rintro e4 w4 ⟨v3,he4,hk4,⟨p30,_,p32⟩,hC6⟩;have p32:=p32 Qd;refine⟨_,he4,hk4,⟨Qo,Qo⟩,?_⟩;refine⟨λvs w2=>∃(k n:Nat) (W:Q8) (m:MW),vs=I (k:Int)::Qb W m/\(k:Int)<=1+v3/\n<=20+3*k/\UY P rb c L N n [b,b1,b2] w w2 W m,Zx (1+v3).toNat 0,λSL nQ _=>⟨0,n+1,W,m,rfl,Qo,Qo,hC6.step nQ⟩,?_⟩;clear hK hC6 hk4 he4 hs hx RC hk hn;clear W m n k;rintro i3 l4 mN jH mM mJ oW mH kM nX mO wv hs ⟨k,n,W,m,he,hk,hn,hK⟩;simp only[Qb,I4,I5,Iv,true_and,and_true] at he;obtain⟨rfl,rfl,⟨rfl,rfl,rfl⟩,⟨rfl,rfl,rfl⟩,rfl,rfl,rfl⟩:=he;refine⟨λIT wr hx hs=>?_,λRC=>?_⟩
 ·have IT:=Ot IT;refine((hK.step hx).pick hP Qo hs).mono ?_;rintro e5 w5 ⟨v5,he5,hk5,_,hC5⟩;refine⟨_,he5,hk5,rfl,λwr hx hs=>?_⟩;refine((hC5.step hx).weight hP Qo hs).mono ?_;rintro e6 w6 ⟨v6,he6,hk6,_,hC6⟩;refine⟨_,he6,hk6,rfl,_,TZ,_,U5,z00 _,λwr hx hs=>?_⟩;refine((hC6.step hx).fork hP hs).mono ?_;rintro e7 w7 ⟨W7,m7,a,d,he7,hk7,hC7⟩;exact⟨_,_,_,_,_,_,_,_,_,_,_,_,he7,hk7,⟨Qo,Qo⟩,λwr hx _=>⟨⟨k+1,n+1+2,W7,m7,by simp[Qb],Qo,Qo,hC7.step hx⟩,ZE (k:=k) rfl rfl Qo⟩⟩
 ·have RC:=Ou RC;refine⟨λvs w2=>∃(k n:Nat) (W:Q8) (m:MW),vs=I (k:Int)::Qb W m/\k<=27/\n<=60+30*k/\UY P rb c L N n [b,b1,b2] w w2 W m,Zx 27 0,λSL nQ _=>⟨0,n,W,m,rfl,Qo,Qo,hK.step nQ⟩,?_⟩;clear hK hs;rintro i5 l8 l9O l9L l9C Ay7 Ay6 Ay5 nV nU nT wv hs ⟨k,n,W,m,he,hk,hn,hK⟩;simp only[Qb,I4,I5,Iv,true_and,and_true] at he;obtain⟨rfl,rfl,⟨rfl,rfl,rfl⟩,⟨rfl,rfl,rfl⟩,rfl,rfl,rfl⟩:=he;refine⟨λIT wr hx hs=>?_,λRC wr hx=>⟨W,m,rfl,(hK.step hx).fin hP Qo⟩⟩;have IT:=Ot IT;refine((hK.step hx).item hP Qo hs (V:=W) (p:=m)).mono ?_;rintro e5 w5 ⟨k5,a5,q5,r5,s5,he5,hk5,hC5⟩;refine⟨_,_,_,_,_,he5,hk5,rfl,λwr hx hs=>?_⟩;refine((hC5.step hx).do hP Qo hs).mono ?_;rintro e6 w6 ⟨W6,m6,d,he6,hk6,hC6⟩;exact⟨_,_,_,_,_,_,_,_,_,_,_,he6,hk6,⟨Qo,Qo⟩,λwr hx _=>⟨⟨k+1,n+20+10,W6,m6,by simp[Qb],Qo,Qo,hC6.step hx⟩,ZE (k:=k) rfl rfl Qo⟩⟩
theorem z32:Tryz.prog.underlying ty_sl_uint8=some (.slice PH):=Qk
theorem z31:Tryz.prog.underlying PH=some (.int .u8):=Qk
theorem z33:Tryz.prog.underlying ZN=some .string:=Qk
theorem UY.CC5{P:Nat->Q8->Prop}(hP:Mz P){rb:Nat}{c:OA}{L N n k:Nat}{bs:List Nat}{w0 w w':Wo}{W:Q8}{m:MW}(d:Dr rb c L N n bs w0 w)(hs:∀x∈bs,x<w.heap.size)(iv:Jw W/\P k W)(hM:Zj 8 w.heap.size w' W m)(hr:P7 rb c L (N+n+k) w')(hx:Q0 [rb] w w')(fI:∀x∈QR 8 m,x≠rb):UY P rb c L N (n+k) bs w0 w' W m:=
 ⟨iv.1,hP.mono Qo iv.2,⟨d.r.upd (by rw[<-Nat.add_assoc]; exact hr),d.ext.trans hx,d.new⟩,⟨hM.mono d.ext.size,λx RR hm=>by
  rcases Ii.1 hm with h1 | h1
  ·exact fI x RR h1
  ·have:=(hM.lt x RR).1;have:=hs x h1;omega⟩⟩
theorem zzv{P:Nat->Q8->Prop}(hP:Mz P){rb:Nat}{c:OA}{L N:Nat}{w:Wo}(h:P7 rb c L N w)(hN:N<=600000000000) :
  Cz Vq #[.pointer (some ⟨rb,0,none⟩)] w λe w'=>∃(W:Q8) (m:MW),e=.returned (.agg (Qb W m).toArray)/\(Jw W/\P 1100 W)/\Zj 8 w.heap.size w' W m/\P7 rb c L (N+1100) w'/\Q0 [rb] w w'/\∀x∈QR 8 m,x≠rb:=by
 refine(EM (some ⟨rb,0,none⟩) (R:=λv w'=>∃(W:Q8) (m:MW),v=.agg (Qb W m).toArray/\(Jw W/\P 1100 W)/\Zj 8 w.heap.size w' W m/\P7 rb c L (N+1100) w'/\Q0 [rb] w w'/\∀x∈QR 8 m,x≠rb) ?_).mono λe w' ⟨v,he,W,m,hv,h3⟩=>⟨W,m,by rw[he,hv],h3⟩
 intro b hb wr hx hs;refine(Dr.pick ((Dr.start h).put hx hb) Qo hs).mono ?_;rintro e w1 ⟨v,he,hk,⟨p0,_,p2⟩,h1⟩;have p2:=p2 Qd;refine⟨_,he,hk,λwr hx hs=>?_⟩;have h2:=h1.step hx;refine(z17 hP h2.r.rd Qo (items:=v) Qo).mono ?_;rintro e2 w2 ⟨W,m,aM,iv,hM,hr,hxp,fI⟩;have hK:=UY.CC5 hP h2 hs iv hM hr hxp fI;refine⟨_,_,_,_,_,_,_,_,_,_,aM,zen h2.r hxp hs,λb1 fQ wr hx hs=>?_⟩;refine((hK.put hx fQ).pick hP Qo hs).mono ?_;rintro e3 w3 ⟨v3,fS,hk3,_,rY⟩;refine⟨_,fS,hk3,λ_=>?_,λ_ wr hx=>⟨W,m,rfl,(rY.step hx).fin hP Qo⟩⟩;refine⟨λvs w2=>∃(k:Nat) (W:Q8) (m:MW),vs=I (k:Int)::Qb W m/\k<=12/\UY P rb c L N (0+1+1000+1) [b,b1] w w2 W m,Zx 12 0,λwr hx _=>⟨0,W,m,rfl,Qo,rY.step hx⟩,?_⟩;clear rY hK hM iv fI hr hxp aM hk3 fS h2 h1 hs hx;rintro i1 l RV Sa Sg S3 Sd Sf S4 S5 S8 wv hs ⟨k,W,m,he,hk,hK⟩;simp only[Qb,I4,I5,Iv,true_and,and_true] at he;obtain⟨rfl,rfl,⟨rfl,rfl,rfl⟩,⟨rfl,rfl,rfl⟩,rfl,rfl,rfl⟩:=he;refine⟨λIT wr hx hs=>?_,λRC=>?_⟩
 ·have IT:=Ot IT;refine((hK.step hx).fork hP hs).mono ?_;rintro e7 w7 ⟨W7,m7,a,d,he7,hk7,hC7⟩;exact⟨_,_,_,_,_,_,_,_,_,_,_,_,he7,hk7,⟨Qo,Qo⟩,λwr hx _=>⟨⟨k+1,W7,m7,by simp[Qb],Qo,hC7.step hx⟩,ZE (k:=k) rfl rfl Qo⟩⟩
 refine⟨λvs w2=>∃(k:Nat) (W:Q8) (m:MW),vs=I (k:Int)::Qb W m/\k<=8/\UY P rb c L N (0+1+1000+1) [b,b1] w w2 W m,Zx 8 0,λwr hx _=>⟨0,W,m,rfl,Qo,hK.step hx⟩,?_⟩;clear hK hs;rintro i3 l4 mN jH mM mJ oW mH kM nX mO wv hs ⟨k,W,m,he,hk,hK⟩;simp only[Qb,I4,I5,Iv,true_and,and_true] at he;obtain⟨rfl,rfl,⟨rfl,rfl,rfl⟩,⟨rfl,rfl,rfl⟩,rfl,rfl,rfl⟩:=he;refine⟨λIT=>⟨⟨Qo,Qo⟩,⟨by have:=Ot IT; show (0:Int)<=_; omega,by have:=Ot IT; show _<=(255:Int); omega⟩,λb3 wb hxb tB hh hn wr hx hs=>?_⟩,λ_ wr hx=>⟨W,m,rfl,(hK.step hx).fin hP Qo⟩⟩;have IT:=Ot IT;have hK1:=(hK.step hxb).step hx
 have hh2:wr.heap[b3]? = some (Obj.cells ([.int .u8 (48+(k:Int))]:List Va).toArray PH (0,0)):=by
  rw[hx.block b3 (Yt hh) hn]; exact hh
 have hc:=run_convert_bytes_arg wr ty_sl_uint8 PH z32 z31 b3 0 1 1 [48+(k:Int)] rfl (λi hi=>by
  have:i=0:=Qo;subst this;rw[Vx hh2]; rfl) ZN z33
 refine⟨_,wr,hc,λ_ _=>rfl,?_,λO' R0 SR=>?_⟩
 ·have e1:(strOfNums [48+(k:Int)]).size=1:=rfl;rw[e1]; decide
 refine((hK1.step R0).mak hP SR).mono ?_;rintro e7 w7 ⟨W7,m7,a,d,he7,hk7,hC7⟩;exact⟨_,_,_,_,_,_,_,_,_,_,_,_,he7,hk7,⟨Qo,Qo⟩,λwr hx _=>⟨⟨k+1,W7,m7,by simp[Qb],Qo,hC7.step hx⟩,ZE (k:=k) rfl rfl Qo⟩⟩
section
variable {rb b b2:Nat}{c:OA}{L C N:Nat}{bs:List Nat}{w0 w w':Wo}{W W':Q8}{m m':MW}
theorem zzt(h:E2 c L w0)(hC:L<=C)(hx:Q0 [] w0 w)(hn:∀x∈bs,w0.heap.size<=x)(hs:∀x∈bs,x<w.heap.size) :
  Cz VN #[.slice c L C] w λe wv=>∃rb c' L',e=.returned (.pointer (some ⟨rb,0,none⟩))/\Q9 bs w wv/\RS rb c' L' 0 bs wv/\Sc w0 (rb::bs) wv:=by
 refine(zqd (h.ext hx) hC).mono ?_;rintro e wv ⟨rb,c',L',he,hrb,hR,RR,Cl9⟩
 refine⟨rb,c',L',he,Qf RR hs,⟨hR,λhm=>by
  have:=hs rb hm;omega,λa' ha'=>?_⟩,⟨hx.trans RR,λx hm=>?_⟩⟩
 ·rcases Cl9 a' ha' with h0 | ⟨h0,a,ha,hab⟩
  ·exact .inr h0
  ·refine .inl λhm=>?_
   obtain⟨a0,x0,ha0,_,_,h30⟩:=h 0 h0;have Rw:=World.block_lt_of_cell? w0 _ h30;rw[ZK] at Rw;rw[ha] at ha0; cases ha0;have:=hn _ hm;omega
 ·rcases Ii.1 hm with h1 | h1
  ·have:=hx.size; omega
  ·exact hn x h1
end
section
variable {c:OA}{L C:Nat}{w:Wo}
theorem A4{P:Nat->Q8->Prop}(hP:Mz P)(h:E2 c L w)(hC:L<=C) :
  Cz TJ #[.slice c L C] w λe w'=>∃(W:Q8) (m:MW),e=.returned (.agg (Qb W m).toArray)/\(Jw W/\P 1100 W)/\Zj 8 w.heap.size w' W m/\Q0 [] w w':=by
 refine(NP c L C (R:=λv w'=>∃(W:Q8) (m:MW),v=.agg (Qb W m).toArray/\(Jw W/\P 1100 W)/\Zj 8 w.heap.size w' W m/\Q0 [] w w') ?_).mono λe w' ⟨v,he,W,m,hv,h1⟩=>⟨W,m,by rw[he,hv],h1⟩
 intro b hb wr hx hs;refine(zzt (bs:=[b]) h hC hx (by simpa using hb) hs).mono ?_;rintro e wv ⟨rb,c',L',he,hk,hR,hS⟩;refine⟨_,he,hk,λI' RR dZ=>?_⟩;have hR1:=hR.step RR;have hS1:=hS.B38 RR;refine(zzv hP hR1.rd Qd).mono ?_;rintro e1 R1 ⟨W,m,eH,iv,hM,hr,hxp,fI⟩;exact⟨_,_,_,_,_,_,_,_,_,_,eH,zen hR1 hxp dZ,λO' R0=>⟨W,m,rfl,iv,((OW.of hM dZ).step R0).own.mono hS1.ext.size,((hS1.CW4 hxp).B38 R0).ext⟩⟩
end
section
open Go.RowKit Go.ChangeShapes
theorem z0o:Tryz.prog.underlying PH=some (.int .u8):=Qk
theorem u_sl_uint8:Tryz.prog.underlying ty_sl_uint8=some (.slice PH):=Qk
theorem zy1:Tryz.prog.cellsOf PH=1:=Qk
theorem op_bytes{H:Type}{en:TypeId×Va->H}{w:Wo}{base:Nat}{spare:Nat->Bool}{held:Bool}{fuel:Nat}{cs:List Va}{x:DataW H×List MemPlace}(h:DataW.trod en Tryz.prog w base spare held fuel ty_sl_uint8 cs=some x) :
  ∃(o:OA) (cap L:Nat),cs=[.slice o L cap]/\E2 o L w/\L<=cap:=by
 obtain⟨o,len,cap,rfl,h1,_,h3⟩:=zyd u_sl_uint8 h;refine⟨o,cap,len,rfl,λi hi=>?_,h1⟩;obtain⟨a,n,y,ec,ho,hc,ht⟩:=h3 i hi;rw[zy1,Nat.mul_one] at hc;obtain⟨v,rfl,_,hw⟩:=DataW.trod_int z0o ht;have hv:0<=v/\v<=255:=by simpa[Lit.wf,IntKind.min,IntKind.max,IntKind.signed,IntKind.bits] using hw
 obtain⟨_,_,SO⟩:=World.cells?_some hc;have:=SO 0 Qd;rw[UJ,Nat.add_zero] at this;exact⟨a,v,ho,hv.1,hv.2,this⟩
end
theorem XF.sc{bs:List Nat}{w0 w1:Wo}{W:Q8}{m:MW}(h:XF [] w0 W m)(s:Sc w0 bs w1):XF bs w1 W m:=(h.wide (cs:=bs) λx hm=>.inr (s.new x hm)).ext s.ext.of_nil
theorem XF.sc0{bs:List Nat}{w0 w1:Wo}{W:Q8}{m:MW}(h:XF [] w0 W m)(s:Sc w0 bs w1):XF [] w1 W m:=(h.sc s).less Qs
theorem Zj.n8{n base:Nat}{w:Wo}{W:Q8}{m:MW}(h:Zj n base w W m)(ha:WA W):n=8:=h.len.symm.trans ha.gl
theorem zyc{x n:Int}(h0:0<=x)(h1:0<n):0<=Int.tmod x n/\Int.tmod x n<n:=⟨Int.tmod_nonneg _ h0,Int.tmod_lt_of_pos _ h1⟩
def zyq(bs:List Nat)(w:Wo)(c:OA)(L:Nat)(f:Nat->Int):Prop:=∀i:Nat,i<L->0<=f i/\f i<=255/\JO bs w c i (.int .u8 (f i))
def bD(L:Nat)(f:Nat->Int)(i:Int):Int:=if i<(L:Int) then f i.toNat else Int.tmod (i*37) 251
section
variable {bs cs:List Nat}{w w':Wo}{c:OA}{L C:Nat}{f:Nat->Int}{i:Int}
theorem z1m(h:E2 c L w):∃f:Nat->Int,zyq [] w c L f:=by
 have h1:∀i:Nat,∃x:Int,i<L->0<=x/\x<=255/\JO [] w c i (.int .u8 x):=λi=>by
  by_cases hi:i<L
  ·obtain⟨a,x,ha,h1,h2,h3⟩:=h i hi;exact⟨x,λ_=>⟨h1,h2,a,ha,Qs,h3⟩⟩
  ·exact⟨0,λh=>Ir h hi⟩
 exact⟨λi=>(h1 i).choose,λi hi=>(h1 i).choose_spec hi⟩
theorem zyq.ext(h:zyq bs w c L f)(hx:Q0 bs w w'):zyq bs w' c L f:=λi hi=>⟨(h i hi).1,(h i hi).2.1,(h i hi).2.2.ext hx⟩
theorem zyq.less(h:zyq bs w c L f)(hs:∀x∈cs,x∈bs):zyq cs w c L f:=λi hi=>by
 obtain⟨h1,h2,a,ha,hb,h3⟩:=h i hi;exact⟨h1,h2,a,ha,λhm=>hb (hs _ hm),h3⟩
theorem z3c(h:zyq bs w c L f)(i0:0<=i):0<=bD L f i/\bD L f i<=255:=by
 unfold bD;split
 ·exact⟨(h i.toNat Qo).1,(h i.toNat Qo).2.1⟩
 ·exact⟨Int.tmod_nonneg _ Qo,by have:=Int.tmod_lt_of_pos (i*37) (show (0:Int)<251 by decide); omega⟩
theorem Ed(h:zyq bs w c L f)(i0:0<=i)(i1:i<=1000):PX bs TG #[.slice c L C,I i] w (I (bD L f i)):=
 zic c L C i λwr hx=>by
  have h:=(h.ext hx).less (cs:=[]) Qs;refine⟨λIT=>?_,λRC=>⟨⟨Qo,Qo⟩,Qd,?_⟩⟩
  ·have IT:=Ot IT;obtain⟨h1,h2,h3⟩:=h i.toNat Qo;refine⟨⟨i0,IT,?_⟩,f i.toNat,XG (by rw[Nat.mul_one]; exact h3),⟨Qo,Qo⟩,?_⟩
   ·obtain⟨a,ha,_⟩:=h3;rw[ha]; rfl
   ·show _=_;unfold bD;rw[C' IT]
  ·have RC:=Ou RC;show _=_;unfold bD;rw[B' RC]
end
def zm3(a b:KW):Prop:=a={ b with J':=a.J',v:=a.v }
theorem zm3.trans{a b c:KW}(h:zm3 a b)(k:zm3 b c):zm3 a c:=by
 unfold zm3 at *;rw[h,k]
theorem z19{W:Q8}(wp:Jq W){t:Int}(t0:0<=t)(t1:t<12)(n:(Q6 W t).state=1):(Qc W (Q6 W t).group (Q6 W t).J').floor<=(Q6 W t).v/\(Q6 W t).v-(Qc W (Q6 W t).group (Q6 W t).J').floor<=Zw (Qe (Q6 W t).nice):=by
 rcases wp.t t t0 t1 with hz | ⟨_,hx⟩
 ·exact Ir (hz.1.symm.trans n) Qd
 ·obtain⟨g0,g8,hg⟩:=wp.a.u hx.g;have hr:=OX hx.c;have hc:=(zb4 W.ID W.ID.length wp.a.c2 (zkg hx.c)).1;have hs:=wp.s (Q6 W t).group (Q6 W t).J' g0 g8 hr.2.1 (by rw[hg.len]; exact hc);exact(HP hx.v hs.f).1 (hx.f n)
section
variable {base pb:Nat}{W W':Q8}{m:MW}{w:Wo}
theorem zd5{cap:OA}{c:Int}(h:PW base pb w W m)(hW:QB W=true)(hc:Q1 [] w cap 0 [I c]) :
  Cz J9 #[.pointer (pA pb),.pointer cap] w λe w2=>(P6 W c≠0/\e=.returned (.iface Qi (.agg #[I (P6 W c)]))/\Q0 [] w w2)\/(P6 W c=0/\e=.returned .nilIface/\∃m2,Ki base pb [] w m w2 (Rp W c) m2):=by
 have wp:=Qm.1 hW;have hM:=Mp.start h;have hp:=hM.wH
 refine(DG (pA pb) cap (R:=λv w2=>(P6 W c≠0/\v=.iface Qi (.agg #[I (P6 W c)])/\Q0 [] w w2)\/(P6 W c=0/\v=.nilIface/\∃m2,Ki base pb [] w m w2 (Rp W c) m2)) ?_).mono λe w' ⟨v,he,h3⟩=>by
  rw[he];rcases h3 with ⟨a,b,c⟩ | ⟨a,b,c⟩
  ·exact .inl ⟨a,by rw[b],c⟩
  ·exact .inr ⟨a,by rw[b],c⟩
 have hc2:=wp.a.c2;have hm:=Zg;refine⟨c,hc,Xp W c,zaf hp Qo,λg wr hx=>.inl ?_,λg=>?_⟩
 ·have g:Xp W c=false:=by simpa using g
  have hb:P6 W c=1:=by unfold P6; rw[C' g]
  rw[hb];exact⟨Qd,rfl,hx⟩
 have g:Xp W c=true:=by simpa using g
 obtain⟨c0,c1⟩:=Tz g;have hcc:=wp.c c c0 c1;refine⟨hp.some,_,_,_,hp.ID,c,hc,hp.rd.c.ix Yh c0 c1,_,hp.rd.c.f c0 c1 (j:=1) rfl,λg2 wr hx=>.inl ?_,λg2=>⟨c,hc,_,_,Yr,λO' R0 _=>?_⟩⟩
 ·have g2:(gi W.ID c).cur = -1:=by simpa using g2
  have hb:P6 W c=6:=by unfold P6; rw[B' (by rw[g]; decide),C' (by rw[g2]; decide)]
  rw[hb];exact⟨Qd,rfl,hx⟩
 have g2:(gi W.ID c).cur≠-1:=by simpa using g2
 have hn:¬(gi W.ID c).cur<0:=by have:=hcc.c1; omega
 have hb:P6 W c=0:=by unfold P6; rw[B' (by rw[g]; decide),B' hn]
 have T':=hM.nil R0;refine I3 (YT T'.pw c0 c1) ?_;rintro e wv ⟨he,hy⟩;exact⟨he,Z3,λRj R3=>.inr ⟨hb,rfl,m,((T'.call hy Qs).nil R3).done⟩⟩
theorem zr7{c:Int}(h:XF [] w W m)(hl:UG W)(hg:Vw w) :
  Cz ML #[.agg (Qb W m).toArray,I c] w λe w'=>∃v,e=.returned v/\QL (Yv W (P6 W c) (Rp W c)) w v w':=by
 refine B5 _ _ _ _ _ _ _ _ _ _ c (R:=λv w'=>QL (Yv W (P6 W c) (Rp W c)) w v w') ?_;intro x hx b1 wb RR fQ hc hn b2 bR wr R0 hs;have hX:Q0 [] w wr:=RR.fresh R0 λy hy=>.inl (O0 hy hx)
 have hc2:=Qg hc R0 hn;refine I3 (L7 (bar:=P6 W c) (W':=Rp W c) (h.ext hX) hl (hg.ext hX) λw1 pb m1 hW R3 hpb hP=>.inl ⟨J9,_,rfl,zd5 hP hW (Ym (Qg hc2 R3 Qs) Qs (k0:=0) rfl)⟩) ?_;rintro e wv ⟨v,he,n,m',hv,hM,hy⟩;subst hv;refine⟨_,_,_,_,_,_,_,_,_,_,_,he,Qf hy hs,λI' Si=>⟨n,m',rfl,(hM.ext Si λy hy hm=>?_).mono hX.size,(hX.trans hy).fresh Si λy hm=>?_⟩⟩
 ·have:=(hM.lt y hy).1;have:=hs y hm;omega
 ·simp only[Ii,List.not_mem_nil,or_false] at hm;rcases hm with rfl | rfl
  ·exact .inl hx
  ·exact .inl (IA RR.size bR)
theorem zlu{cap cap1:OA}{t g:Int}(h:PW base pb w W m)(hW:QB W=true)(hcw:∀bs w' W',Mp base pb [] w m w' W' m->(∀x∈bs,w.heap.size<=x)->Q1 bs w' cap 0 [I t]/\Q1 bs w' cap1 0 [I g]) :
  Cz JW #[.pointer (pA pb),.pointer cap,.pointer cap1] w λe w2=>(Td W t g≠0/\e=.returned (.iface Qi (.agg #[I (Td W t g)]))/\Q0 [] w w2)\/(Td W t g=0/\e=.returned .nilIface/\∃m2,Ki base pb [] w m w2 (Li W t g) m2):=by
 have wp:=Qm.1 hW;have hM:=Mp.start h;have hp:=hM.wH;obtain⟨h0,h1⟩:=hcw [] _ _ hM Qs
 refine(B2 (pA pb) cap cap1 (R:=λv w2=>(Td W t g≠0/\v=.iface Qi (.agg #[I (Td W t g)])/\Q0 [] w w2)\/(Td W t g=0/\v=.nilIface/\∃m2,Ki base pb [] w m w2 (Li W t g) m2)) ?_).mono λe w' ⟨v,he,h3⟩=>by
  rw[he];rcases h3 with ⟨a,b,c⟩ | ⟨a,b,c⟩
  ·exact .inl ⟨a,by rw[b],c⟩
  ·exact .inr ⟨a,by rw[b],c⟩
 have fZ:=wp.a.t;have dD:=wp.a.gl;have hml:=Zg;refine⟨t,h0,Z4 W t,JJ hp Qo,λ_=>hp.some,_,_,_,λ_=>hp.IC,g,λ_=>h1,Q7 W.IC g,λ_=>Ve hp.rd.g Qo,λq wr hx=>.inl ?_,λq=>⟨_,TX hp wp.a,λq3 wr hx=>.inl ?_,λq3=>?_⟩⟩
 ·have hb:Td W t g=2:=by
   unfold Td;rw[C']
   simpa using q
  rw[hb];exact⟨Qd,rfl,hx⟩
 ·simp only[H',I6] at q;have hb:Td W t g=10:=by unfold Td; rw[B' (by rw[q.1,q.2]; simp),C' (by simpa using q3)]
  rw[hb];exact⟨Qd,rfl,hx⟩
 simp only[H',I6] at q;obtain⟨q1,q2⟩:=q;have q3:QK W=true:=by simpa using q3
 have hb:Td W t g=0:=by unfold Td; rw[B' (by rw[q1,q2]; simp),B' (by rw[q3]; decide)]
 obtain⟨t0,t1,tn⟩:=Y0 q1;have sw:=Mi wp (Qm.1 q3);obtain⟨hu,c0,c1⟩:=sw.t t t0 Qo tn;refine⟨hp.some,_,_,_,hp.tasks,t,h0,hp.rd.t.ix QG t0 t1,_,_,_,_,_,_,_,_,_,hp.rd.t t t0 t1,λb hb0=>⟨hp.rd.t t t0 t1,h0,hp.tasks,g,h1,λg4 O' R0=>.inr ?_,λg4=>⟨t,h0,λRj R3 gI=>?_⟩⟩⟩
 ·have g4:(Q6 W t).group=g:=by simpa[Q6] using g4
  have hE:Li W t g=W:=by unfold Li; rw[C' g4]
  rw[hE];exact⟨hb,rfl,m,(hM.nil R0).done⟩
 have g4:¬(Q6 W t).group=g:=by simpa[Q6] using g4
 have hE:Li W t g=Qh (Uq (QF W t) t g (Kl W t g)):=by unfold Li; rw[B' g4]
 obtain⟨m0,m1,_⟩:=zl6 wp (g:=g) t0 Qo tn;have cJ:=(hM.add hb0).M' R3;refine I3 (Bn (hM.nil R3).pw sw t0 Qo tn) ?_;rintro e wv ⟨he,hy⟩;have eD:=cJ.call hy gI;have DD3:=eD.close;have hp4:=eD.wH
 have hcb:∀{w9:Wo} {V:Q8},Mp base pb [b] w m w9 V m->Q1 [b] w9 cap 0 [I t]/\Q1 [b] w9 cap1 0 [I g]:=λh9=>hcw [b] _ _ h9.close λx hx=>by
  have:x=b:=by simpa using hx
  omega
 have ht:(QF W t).tasks=W.tasks:=by unfold QF; split <;> rfl
 have hg:(QF W t).IC=W.IC:=by unfold QF; split <;> rfl
 have tL:(QF W t).ID.length=W.ID.length:=by
  unfold QF; split
  ·exact E'
  ·rfl
 have swl:=zws sw t0 Qo tn;have tn2:(Q6 (QF W t) t).state≠0:=by rw[Ju ht]; exact tn
 have hu2:Q7 (QF W t).IC g=true:=by rw[hg]; exact q2
 have hm1:Kl W t g<((QF W t).ID.length:Int):=by rw[tL]; exact m1
 have hwh:∀k:Int,Qn (QF W t) g k=Qn W g k:=λk=>by
  unfold QF;split
  ·exact(G6 W _).wh g k
  ·rfl
 have hal:=OT (mask:=(Q6 W t).mask) hp4 swl.a.c2 swl.a.tree hu2;rw[hwh] at hal
 have fin:∀{w9:Wo},Mp base pb [b] w m w9 (QF W t) m->(∀x∈[b],x<w9.heap.size)->Cz Y3 #[.pointer (pA pb),I t,I g,I (Kl W t g)] w9 λe2 RO=>e2=.returned (.tuple #[])/\Q9 [b] w9 RO/\∀RP,Q0 [b] RO RP->(∀bq∈[b],bq<RP.heap.size)->Cz Z2 #[.pointer (pA pb)] RP λe3 aE=>e3=.returned (.tuple #[])/\Q9 [b] RP aE/\∀Sn,Q0 [b] aE Sn->(Td W t g≠0/\Value.nilIface=.iface Qi (.agg #[I (Td W t g)])/\Q0 [] w Sn)\/(Td W t g=0/\Value.nilIface=.nilIface/\∃m2,Ki base pb [] w m Sn (Li W t g) m2):=by
  intro w9 hM9 hs9;rw[hE];generalize QF W t=V at hM9 swl tn2 hu2 hm1;generalize Kl W t g=c at m0 hm1;have sf:=Kt swl;refine I3 (LR hM9.pw sf (I2 _) (by simp only[Qj]; decide) (t:=t) (g:=g) (c:=c) t0 Qo tn2 hu2 m0 hm1) ?_;rintro e1 R1 ⟨eH,aR⟩;refine⟨eH,hM9.kept aR hs9,λRP Wt tP=>?_⟩;have AR7:=(hM9.call aR hs9).step Wt;refine I3 (Jt AR7.pw (BU sf (I2 _) (t:=t) t0 Qo hu2 m0 hm1).2.w (by simp only[Qj]; decide) (by simp only[Qj]; decide)) ?_;rintro e3 RO ⟨fS,dG⟩;exact⟨fS,AR7.kept dG tP,λSn dK=>.inr ⟨hb,rfl,m,((AR7.call dG tP).step dK).close.done⟩⟩
 refine⟨he,cJ.kept hy gI,g,(hcb eD).2,_,hal,_,K3,λg5 Rn Si fT=>?_,λg5=>⟨t,(hcb eD).1,g,(hcb eD).2,λSL nQ hs8=>?_⟩⟩
 ·have g5:¬Z1 (Qn W g (Q6 W t).mask) (Q6 W t).J'=true:=by simpa[Q6] using g5
  have hC:Kl W t g=O3 (Qn W g (Q6 W t).mask):=by unfold Kl; rw[B' g5]
  have tV:=eD.step Si;refine I3 L8 ?_;rintro e1 Rr ⟨eH,aR⟩;have rZ:=tV.M' aR;refine⟨_,eH,Qf aR fT,t,(hcb rZ).1,g,(hcb rZ).2,λRE Sb hZ=>?_⟩;have:=fin (rZ.step Sb) hZ
  rwa[hC] at this
 ·have g5:Z1 (Qn W g (Q6 W t).mask) (Q6 W t).J'=true:=by simpa[Q6] using g5
  have hC:Kl W t g=(Q6 W t).J':=by unfold Kl; rw[C' g5]
  have:=fin (eD.step nQ) hs8
  rwa[hC] at this
theorem zac{t g:Int}(h:XF [] w W m)(hl:UG W)(hg:Vw w) :
  Cz OC #[.agg (Qb W m).toArray,I t,I g] w λe w'=>∃v,e=.returned v/\QL (Yv W (Td W t g) (Li W t g)) w v w':=by
 refine CS _ _ _ _ _ _ _ _ _ _ t g (R:=λv w'=>QL (Yv W (Td W t g) (Li W t g)) w v w') ?_;intro y hy b1 wb RR fQ hc hn b2 lY hxb bR hc2 hn2 b3 wC wr R0 hs;have hX0:Q0 [] w lY:=RR.fresh hxb λz hz=>.inl (O0 hz hy)
 have hX:Q0 [] w wr:=hX0.fresh R0 λz hz=>.inl (O0 hz hy)
 have c1:=Qg (Qg hc hxb hn) R0 hn;have c2:=Qg hc2 R0 hn2
 have cell:∀{b pb:Nat} {v:Va} {t:TypeId} {w1 w9:Wo} {W9:Q8} {m1:MW} {bs:List Nat},wr.heap[b]? = some (Obj.cells ([v]:List Va).toArray t (0,0))->Q0 [] wr w1->wr.heap.size<=pb->PW wr.heap.size pb w1 W m1->Mp wr.heap.size pb [] w1 m1 w9 W9 m1->(∀x∈bs,w1.heap.size<=x)->Q1 bs w9 (some ⟨b,0,none⟩) 0 [v]:=by
  intro b pb v t w1 w9 W9 m1 bs hb hx h2 hP hM9 hbs;refine Ym (zk3 hP (Yt hb) h2 (Qg hb hx Qs) hM9) (λhm=>?_) (k0:=0) rfl;have:=hbs b hm;have:=Yt hb;have:=hx.size;omega
 refine I3 (L7 (bar:=Td W t g) (W':=Li W t g) (h.ext hX) hl (hg.ext hX) λw1 pb m1 hW R3 hpb hP=>.inl ⟨JW,_,rfl,zlu hP hW λbs w9 W9 hM9 hbs=>⟨cell c1 R3 hpb hP hM9 hbs,cell c2 R3 hpb hP hM9 hbs⟩⟩) ?_;rintro e wv ⟨v,he,n',m',hv,hM,Sm⟩;subst hv;refine⟨_,_,_,_,_,_,_,_,_,_,_,he,Qf Sm hs,λI' Si=>⟨n',m',rfl,(hM.ext Si λz hz hm=>?_).mono hX.size,(hX.trans Sm).fresh Si λz hm=>?_⟩⟩
 ·have:=(hM.lt z hz).1;have:=hs z hm;omega
 ·simp only[Ii,List.not_mem_nil,or_false] at hm;rcases hm with rfl | rfl
  ·exact .inl hy
  ·exact .inl (IA hX0.size wC)
end
theorem zyv{W W':Q8}{bar:Int}{P:Int->Prop}(iv:Jw W)(hb:bar=0->Jw W')(hp:bar=0->P 0):Jw (Yv W bar W').1/\((Yv W bar W').2=0->P 0):=by
 have hW:QB W=true:=Qm.2 iv.wp
 by_cases h:bar=0
 ·rw[zkv hW h];have h1:=hb h;generalize W'=X at *;exact⟨h1,λ_=>hp h⟩
 ·rw[zbl hW h];exact⟨iv,λe=>Ir e h⟩
theorem z3b{W W':Q8}{bar a:Int}{P:Int->Prop}(iv:Jw W)(hb:bar=0->Jw W')(hp:bar=0->P a):Jw (J0 W bar W' a).1/\((J0 W bar W' a).2.2=0->P (J0 W bar W' a).2.1):=by
 have hW:QB W=true:=Qm.2 iv.wp;unfold J0;rw[B' (by rw[hW]; decide)]
 by_cases h:bar=0
 ·rw[B' (by simpa using h)];have h1:=hb h;generalize W'=X at *;exact⟨h1,λ_=>hp h⟩
 ·rw[C' h];exact⟨iv,λe=>Ir e h⟩
theorem z2c{W:Q8}{t g:Int}(h:Td W t g=0):Z4 W t=true:=by
 unfold Td at h
 split at h
 ·cases h
 ·rename_i h1
  cases h:Z4 W t with
  | true=>rfl
  | false=>exact Ir (.inl h) h1
theorem zs1{W:Q8}(wp:Jq W){t:Int}(h:Z4 W t=true):0<=t/\t<12:=by
 obtain⟨t0,t1,_⟩:=Y0 h;have:=wp.a.t;exact⟨t0,Qo⟩
structure z29 (X:Q8) (q t:Int):Prop where
 iv:Jw X
 th:q=0->0<=t/\t<12
theorem k_FnWake{a b:OA}{La Ca Lb Cb:Nat}{w:Wo}(ha:E2 a La w)(hca:La<=Ca)(hb:E2 b Lb w)(_:Lb<=Cb)(hg:Vw w) :
  Cz H9 #[.slice a La Ca,.slice b Lb Cb] w λe w'=>e=.returned (.bool true)/\Q0 [] w w':=by
 refine(zhh a La Ca b Lb Cb (R:=λv w'=>v=.bool true/\Q0 [] w w') ?_).mono λe w' ⟨v,he,hv,h3⟩=>⟨by rw[he,hv],h3⟩
 obtain⟨f,hf⟩:=z1m hb;refine⟨λ_ wr hx=>⟨rfl,hx⟩,λ_ I' RR _=>?_⟩;refine(A4 z4e (ha.ext RR) hca).mono ?_;rintro e wv ⟨W,m,he,⟨iv,-⟩,hM,R0⟩;have hX0:Q0 [] w wv:=RR.trans R0;have r0:XF [] wv W m:=hM.rd Qs;have s0:=Sc.start wv;have hl:=iv.len;have wp:=iv.wp;have hW:QB W=true:=Qm.2 wp;have hG:∀{bs:List Nat} {w':Wo},Sc wv bs w'->Vw w':=λs=>hg.ext (hX0.trans s.ext)
 have hi1:=z3c hf (show (0:Int)<=1 by decide);have n0:=zyc hi1.1 (show (0:Int)<20 by decide);refine⟨_,_,_,_,_,_,_,_,_,_,he,Z3,λb hb=>⟨bD Lb f 0,Ed (hf.ext hX0) Qo Qo,Qd,bD Lb f 1,Ed (hf.ext hX0) Qo Qo,Qd,?_⟩⟩;generalize Int.tmod (bD Lb f 0) 6=tt;generalize Int.tmod (bD Lb f 1) 20=nn at n0 ⊢;have n4:=zyc n0.1 (show (0:Int)<4 by decide);have n15:=zyc n0.1 (show (0:Int)<15 by decide);generalize Int.tmod nn 4=n4' at n4 ⊢;generalize Int.tmod nn 15=CC0 at n15 ⊢;refine⟨λvs w2=>∃(k:Nat) (t:Int),vs=[I t,I (k:Int)]/\k<=5/\Sc wv [b] w2,Zx 5 1,λwr hx _=>⟨0,tt,rfl,Qo,s0.put hx hb⟩,?_⟩;clear he hM R0 hb;rintro t i R1 dZ ⟨k,t',he,hk,s⟩;simp only[I4,I5,true_and,and_true] at he;obtain⟨rfl,rfl⟩:=he;refine⟨λIT Rj R3 gI=>?_,λ_ wr hx=>⟨rfl,hX0.trans (s.step hx).ext⟩⟩;have IT:=Ot IT;have s3:=s.step R3;refine(zae (t:=t) (r0.sc0 s3) hl (hG s3)).mono ?_;rintro e1 Rr ⟨v,eH,n1,m1,hv,hM1,aR⟩;subst hv;have s4:=s3.M' aR;have o4:=(OW.of hM1 gI).mono s3.ext.size;refine⟨_,_,_,_,_,_,_,_,_,_,_,eH,Qf aR gI,λb1 fQ Rn Si fT=>?_⟩;have s5:=s4.put Si fQ;have o5:=o4.put Si fQ;refine(Gg (t:=t) (r0.sc0 s5) hl).mono ?_;rintro e2 RO ⟨v,aM,n2,m2,hv,T',Sm⟩;subst hv;have s6:=s5.M' Sm;have o6:=o5.M' Sm;refine⟨_,_,_,_,_,_,_,_,_,_,_,aM,Qf Sm fT,λb2 bR=>?_⟩
 refine⟨λvs bs w2=>∃(X:Q8) (mX:MW) (n:Nat) (q t1:Int),bs=[]/\vs=I t1::I q::I q::Qb X mX/\z29 X q t1/\Sc wv [b,b1,b2] w2/\OW n wv.heap.size [b,b1,b2] w2 X mX,⟨λ_=>⟨Qd,λRE Sb hZ=>?_⟩,λ_=>⟨λ_=>⟨Qd,⟨Qo,Qo⟩,λRE Sb hZ=>?_⟩,λ_=>⟨λ_=>⟨⟨Qo,Qo⟩,λRE Sb hZ=>?_⟩,λ_=>⟨λ_=>⟨Qd,⟨Qo,Qo⟩,λRE Sb hZ=>?_⟩,λ_ mP CS8 _=>?_⟩⟩⟩⟩,?_⟩
 ·have s7:=s6.put Sb bR;refine(zac (t:=t) (g:=n4') (r0.sc0 s7) hl (hG s7)).mono ?_;rintro e3 aE ⟨v,fS,n3,m3,hv,cJ,dG⟩;subst hv;have s8:=s7.M' dG;have o8:=(OW.of cJ hZ).mono s7.ext.size;refine⟨_,_,_,_,_,_,_,_,_,_,_,fS,Qf dG hZ,Qd,λRP Wt tP=>?_⟩;have s9:=s8.step Wt;have o9:=o8.step Wt;refine(Ge (t:=t) (g:=n4') (r0.sc0 s9) hl).mono ?_;rintro e4 cQ ⟨v,he4,n4,m4,hv,eD,fL⟩;subst hv;obtain⟨i1,i2⟩:=zyv (P:=λ_=>0<=t/\t<12) iv (zr3 iv (t:=t) (g:=n4')) λh=>zs1 wp (z2c h)
  exact⟨_,_,_,_,_,_,_,_,_,_,_,he4,Qf fL tP,λSn dK _=>⟨_,m3,n3,_,t,rfl,rfl,⟨i1,i2⟩,(s9.M' fL).step dK,(o9.M' fL).step dK⟩⟩
 ·have s7:=s6.put Sb bR;refine(zd7 (t:=t) (x:=1+CC0) (r0.sc0 s7) hl (hG s7)).mono ?_;rintro e3 aE ⟨v,fS,n3,m3,hv,cJ,dG⟩;subst hv;have s8:=s7.M' dG;have o8:=(OW.of cJ hZ).mono s7.ext.size;refine⟨_,_,_,_,_,_,_,_,_,_,_,fS,Qf dG hZ,Qd,⟨Qo,Qo⟩,λRP Wt tP=>?_⟩;have s9:=s8.step Wt;have o9:=o8.step Wt;refine(Hn (t:=t) (x:=1+CC0) (r0.sc0 s9) hl).mono ?_;rintro e4 cQ ⟨v,he4,n4,m4,hv,eD,fL⟩;subst hv;obtain⟨i1,i2⟩:=zyv (P:=λ_=>0<=t/\t<12) iv (zr4 hW (t:=t) (x:=1+CC0)) λh=>zs1 wp (zmi hW h).1
  exact⟨_,_,_,_,_,_,_,_,_,_,_,he4,Qf fL tP,λSn dK _=>⟨_,m3,n3,_,t,rfl,rfl,⟨i1,i2⟩,(s9.M' fL).step dK,(o9.M' fL).step dK⟩⟩
 ·have s7:=s6.put Sb bR;refine(zad (t:=t) (n:=nn-10) (r0.sc0 s7) hl (hG s7)).mono ?_;rintro e3 aE ⟨v,fS,n3,m3,hv,cJ,dG⟩;subst hv;have s8:=s7.M' dG;have o8:=(OW.of cJ hZ).mono s7.ext.size;refine⟨_,_,_,_,_,_,_,_,_,_,_,fS,Qf dG hZ,⟨Qo,Qo⟩,λRP Wt tP=>?_⟩;have s9:=s8.step Wt;have o9:=o8.step Wt;refine(Gf (t:=t) (n:=nn-10) (r0.sc0 s9) hl).mono ?_;rintro e4 cQ ⟨v,he4,n4,m4,hv,eD,fL⟩;subst hv;obtain⟨i1,i2⟩:=zyv (P:=λ_=>0<=t/\t<12) iv (zny hW (t:=t) (n:=nn-10)) λh=>zs1 wp (zbw hW h).th
  exact⟨_,_,_,_,_,_,_,_,_,_,_,he4,Qf fL tP,λSn dK _=>⟨_,m3,n3,_,t,rfl,rfl,⟨i1,i2⟩,(s9.M' fL).step dK,(o9.M' fL).step dK⟩⟩
 ·have s7:=s6.put Sb bR;refine(zab (g:=n4') (n:=nn-10) (x:=15) (r0.sc0 s7) hl (hG s7)).mono ?_;rintro e3 aE ⟨v,fS,n3,m3,hv,cJ,dG⟩;subst hv;have s8:=s7.M' dG;have o8:=(OW.of cJ hZ).mono s7.ext.size;refine⟨_,_,_,_,_,_,_,_,_,_,_,_,fS,Qf dG hZ,Qd,⟨Qo,Qo⟩,λRP Wt tP=>?_⟩;have s9:=s8.step Wt;have o9:=o8.step Wt;refine(M1 (g:=n4') (n:=nn-10) (x:=15) (r0.sc0 s9) hl).mono ?_;rintro e4 cQ ⟨v,he4,n4,m4,hv,eD,fL⟩;subst hv;obtain⟨i1,i2⟩:=z3b (a:=Yq W) (P:=λt=>0<=t/\t<12) iv (zd4 hW (g:=n4') (n:=nn-10) (x:=15)) λh=>⟨(Bi hW h).f0,(Bi hW h).f1⟩
  exact⟨_,_,_,_,_,_,_,_,_,_,_,_,he4,Qf fL tP,λSn dK _=>⟨_,m3,n3,_,_,rfl,rfl,⟨i1,i2⟩,(s9.M' fL).step dK,(o9.M' fL).step dK⟩⟩
 ·obtain⟨i1,i2⟩:=zyv (P:=λ_=>0<=t/\t<12) iv (znz hW (t:=t)) λh=>zs1 wp (zb5 hW h).1
  exact⟨_,m1,n1,_,t,rfl,rfl,⟨i1,i2⟩,s6.put CS8 bR,o6.put CS8 bR⟩
 clear s3 s4 s5 s6 o4 o5 o6 hM1 T' eH aM aR Sm R3 Si gI fT fQ bR s dZ;rintro t1 q want l RV Sa Sg S3 Sd Sf S4 S5 S8 iL AN9 ⟨X,mX,n,q',t1',-,hv,hP,s,o⟩;simp only[Qb,I4,I5,Iv,true_and,and_true] at hv;obtain⟨rfl,rfl,rfl,rfl,⟨rfl,rfl,rfl⟩,⟨rfl,rfl,rfl⟩,rfl,rfl,rfl⟩:=hv;have next:∀{bs:List Nat} {w8 w9:Wo},Sc wv bs w8->(∀x∈[b],x∈bs)->(∃(k':Nat) (t':Int),[I t1,I ((k:Int)+1)]=[I t',I (k':Int)]/\k'<=5/\Sc wv [b] w8)/\Zx 5 1 [I t1,I ((k:Int)+1)] w8<Zx 5 1 [I t,I (k:Int)] w9:=λs hs=>⟨⟨k+1,t1,rfl,Qo,s.sub hs⟩,ZE (k:=k) rfl rfl Qo⟩
 refine⟨λg=>by simp at g,λ_=>⟨λ_=>⟨⟨Qo,Qo⟩,λdF BS2 _=>next (s.step BS2) Qs⟩,λg=>?_⟩⟩;have g:want=0:=by simpa using g
 obtain⟨t0,t12⟩:=hP.th g;have wx:=hP.iv.wp;have hn:=o.own.n8 wx.a;subst hn;have htx:=wx.a.t;have t1x:t1<(X.tasks.length:Int):=Qo;refine⟨o.rd.t.ix QG t0 t1x,_,_,_,_,_,_,_,_,_,o.rd.t t1 t0 t1x,λb3 wC=>⟨λ_=>⟨⟨Qo,Qo⟩,λdX Cs0 _=>next (s.step Cs0) Qs⟩,λg3=>?_⟩⟩;have g3:(Q6 X t1).state=1:=by simpa[Q6] using g3
 obtain⟨hu,d0,d1⟩:=wx.li t0 t1x g3;obtain⟨u0,u1,_⟩:=Q4.1 hu;have hsl:=wx.a.sl hu;have Bt0:=z19 wx t0 t12 g3;have d1x:(Q6 X t1).J'<((gi X.IC (Q6 X t1).group).IE.length:Int):=Qo;have gX:=HO wx hu d0 d1;have f1:=YV.1 gX.f
 have f2:ZO (Q6 X t1).v=true:=by
  rcases wx.t t1 t0 t12 with hz | ⟨_,hx⟩
  ·exact Ir (hz.1.symm.trans g3) Qd
  ·exact hx.v
 have f2:=YV.1 f2;have f1':0<=(gi (gi X.IC (gi X.tasks t1).group).IE (gi X.tasks t1).J').floor/\(gi (gi X.IC (gi X.tasks t1).group).IE (gi X.tasks t1).J').floor<=100000000000000000:=f1;have f2':0<=(gi X.tasks t1).v/\(gi X.tasks t1).v<=100000000000000000:=f2;have C02:(gi (gi X.IC (gi X.tasks t1).group).IE (gi X.tasks t1).J').floor<=(gi X.tasks t1).v/\(gi X.tasks t1).v-(gi (gi X.IC (gi X.tasks t1).group).IE (gi X.tasks t1).J').floor<=Zw (Qe (gi X.tasks t1).nice):=Bt0
 have mG:Qr .i64 ((gi X.tasks t1).v-(gi (gi X.IC (Q6 X t1).group).IE (Q6 X t1).J').floor):=by
  show Qr .i64 ((gi X.tasks t1).v-(gi (gi X.IC (gi X.tasks t1).group).IE (gi X.tasks t1).J').floor);exact⟨Qo,Qo⟩
 refine⟨o.rd.g.ix u0 u1,_,_,_,o.rd.g.Ry u0 u1,(o.rd.g.IE _ u0 u1).ix X7 d0 d1x,_,(o.rd.g.IE _ u0 u1).f d0 d1x (j:=0) rfl,mG,_,λ_=>ZA,_,λ_=>K0,λg4=>?_,λ_=>⟨⟨Qo,Qo⟩,λgT Cs1 _=>next (s.step Cs1) Qs⟩⟩;have g4:(decide ((gi X.tasks t1).v-(gi (gi X.IC (gi X.tasks t1).group).IE (gi X.tasks t1).J').floor<0)||decide ((gi X.tasks t1).v-(gi (gi X.IC (gi X.tasks t1).group).IE (gi X.tasks t1).J').floor>Zw (Qe (gi X.tasks t1).nice)))=true:=g4;simp only[Iu,Ij] at g4;omega
end Go.Proofs.YtnclplgaicdapaaGreatDoor
